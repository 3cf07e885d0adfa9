/- Part Xab of the proof of OverlapEnds: no condition. -/
import Derived.Laws.Tables
import Derived.Laws.MakeOwn
import Derived.LoopNIn
import Derived.OrdersIn
import Derived.RangeFuncRecord
import Derived.Scope
import Derived.Maps.Range
import Derived.Test.YtmabojcaklojhaaGreatXaa
set_option linter.unusedSimpArgs false
set_option linter.unusedVariables false
namespace Go.aK
open Go.RowKit
theorem map_mk {α β:Type}(f:α->β)(xs:Array α):xs.map f=(xs.toList.map f).toArray:=by rw[<-Array.toList_map]
theorem kU {P:Program}{t:TypeId}(h:cM P t=true):∃d,P.underlying t=some d:=Option.isSome_iff_exists.1 h
theorem tQ {P:Program}{t:TypeId}(h:af P t≠0):∃i,P.info? t=some i:=by
 unfold af at h;cases hi:P.info? t with
 |none=>rw[hi]at h;exact absurd rfl h
 |some i=>exact⟨i,rfl⟩
section
variable {P:Program}{o:Oper}{tm:Tm}{hp:Tr AO}{nx:Pz}{k:AV->Tr AO->Pz->Rs}{call:bH}
theorem bJ {v:AV}(hv:gK P o tm hp v)(hk:k v hp nx=.ok):dz P o tm hp nx k:=⟨v,hk,hv⟩
theorem Dt {x:Operand}(ho:o.op=.move x∨o.op=.assign x)(h:(cQ x).run tm (fun v=>k v hp nx)=.ok):dz P o tm hp nx k:=by
 obtain⟨v,hk,hv⟩:=aQ h;refine bJ (v:=v) (fun B w0 ι nt a w ha hc=>?_) hk;rcases ho with ho|ho<;>(simp only[execOp,ho];rw[hv ι nt a ha];rfl)
theorem J8 {c x y:Operand}(ho:o.op=.pick c x y)(h:((cQ c).run tm fun c=>asBool c fun c=>Bool.rec (motive:=fun _=>Rs) ((cQ y).run tm fun v=>k v hp nx) ((cQ x).run tm fun v=>k v hp nx) c)=.ok):dz P o tm hp nx k:=by
 obtain⟨cv,h,hc⟩:=aQ h;obtain⟨b,rfl,g⟩:=vL h;cases b with
 |true =>
  obtain⟨v,hk,hv⟩:=aQ (x:=x) g;refine bJ (v:=v) (fun B w0 ι nt a w ha hcc=>?_) hk;simp only[execOp,ho];rw[hc ι nt a ha];simp[ak,Go.asBool,hv ι nt a ha]
 |false =>
  obtain⟨v,hk,hv⟩:=aQ (x:=y) g;refine bJ (v:=v) (fun B w0 ι nt a w ha hcc=>?_) hk;simp only[execOp,ho];rw[hc ι nt a ha];simp[ak,Go.asBool,hv ι nt a ha]
theorem jZ {t:TypeId}{f off:Nat}{ft:TypeId}(h:fj P t f=some (off,ft)):∃fs fd,P.underlying t=some (.struct fs)/\fs[f]?=some fd/\fd.offset=off/\fd.type=ft:=by
 unfold fj at h;split at h
 ·rename_i fs hu;cases hf:fs[f]? with
  |none=>rw[hf]at h;cases h
  |some fd=>rw[hf]at h;cases h;exact⟨fs,fd,hu,hf,rfl,rfl⟩
 ·cases h
theorem xt {t:TypeId}{x:Operand}{f off:Nat}{ft:TypeId}(ho:o.op=.fieldAddr t x f)(hf:fj P t f=some (off,ft))(hz:Nat.beq (af P ft) 0=false)
  (h:((cQ x).run tm fun v=>jV v fun id oo=>bo (oo+off) fun oo=>k (.ptr id oo) hp nx)=.ok):dz P o tm hp nx k:=by
 obtain⟨v,h,hv⟩:=aQ h;obtain⟨id,oo,rfl,g⟩:=g9 h;rw[aM]at g;obtain⟨fs,fd,h1,h2,h3,h4⟩:=jZ hf;refine bJ (v:=.ptr id (oo+off)) (fun B w0 ι nt a w ha hcc=>?_) g;have hz':=qR hz;obtain⟨i,hi⟩:=tQ hz';simp only[execOp,ho];rw[hv ι nt a ha];simp only[ak,Instr.fieldAt,Sem.run_bind,ay h1,Result.andThen_ok,h2,Instr.sureAddr,Sem.run_pure,fieldPlace];rw[h4,dy hi];simp only[Result.andThen_ok];rw[if_neg hz'];simp only[Sem.run_pure,Result.andThen_ok,gz,h3,zbp]
theorem zs {t:TypeId}{x:Operand}{f off:Nat}{ft:TypeId}(ho:o.op=.field t x f)(hf:fj P t f=some (off,ft)){v:AV}{cs:List AV}(hx:∀ι nt a,ca ι nt tm a->a.eval x=ak ι (.agg cs))
  (hv:∀ι w,(part ft (aq ι cs).toArray off).run P w=.ok (ak ι v) w) (hk:k v hp nx=.ok):dz P o tm hp nx k:=by
 obtain⟨fs,fd,h1,h2,h3,h4⟩:=jZ hf;refine bJ (v:=v) (fun B w0 ι nt a w ha hcc=>?_) hk;simp only[execOp,ho];rw[hx ι nt a ha];simp only[ak,Instr.field,Sem.run_bind,ay h1,Result.andThen_ok,h2,Go.asAgg,Sem.run_pure];rw[h4,h3,hv];rfl
theorem tR {t:TypeId}{cs:List AV}{off:Nat}(h:ec P t=true)(ι:En)(w:World):(part t (aq ι cs).toArray off).run P w=.ok (ak ι (.agg ((cs.drop off).take (af P t)))) w:=by
 rw[qe h];simp only[ak,vO,vP]
theorem nh {t:TypeId}{cs:List AV}{off:Nat}{v:AV}(hk:cM P t=true)(h:ec P t=false)(hv:cs[off]?=some v)(ι:En)(w:World):(part t (aq ι cs).toArray off).run P w=.ok (ak ι v) w:=by
 obtain⟨d,hd⟩:=kU hk;exact ia hd h (by rw[bx,hv];rfl)
theorem BS {x:Operand}{i:Nat}(ho:o.op=.extract x i)(h:((cQ x).run tm fun v=>match v with
  |.cN vs=>vf i vs (fun v=>k v hp nx)
  |_=>.bad 163)=.ok):dz P o tm hp nx k:=by
 obtain⟨v,h,hv⟩:=aQ h;cases v with
 |cN vs =>
  obtain⟨u,hu,h⟩:=nO _ h;refine bJ (v:=u) (fun B w0 ι nt a w ha hcc=>?_) h;simp only[execOp,ho];rw[hv ι nt a ha];have:(aq ι vs).toArray[i]?=some (ak ι u):=by rw[zao,bx,hu];rfl
  simp[ak,Instr.extract,this]
 |_=>cases h
theorem zt {fn:Fn}(hfn:GI fn=true){first captured:Array Operand}(ho:o.op=.makeFunc fn first captured)(h:(yO first.toList tm fun x=>yO captured.toList tm fun y=>k (.func fn x y) hp nx)=.ok):dz P o tm hp nx k:=by
 obtain⟨x,h,hx⟩:=s5 _ h;obtain⟨y,h,hy⟩:=s5 _ h;refine bJ (v:=.func fn x y) (fun B w0 ι nt a w ha hcc=>?_) h;have e1:first.map a.eval=(aq ι x).toArray:=by rw[<-hx ι nt a ha,map_mk]
 have e2:captured.map a.eval=(aq ι y).toArray:=by rw[<-hy ι nt a ha,map_mk]
 simp only[execOp,ho,e1,e2];simp[Instr.makeFunc,ak,yZ hfn]
theorem xu {t:TypeId}{x:Operand}{d:TypeDesc}(ho:o.op=.makeInterface t x)(hd:P.underlying t=some d)(hni:∀ms,d≠.interface ms)(h:((cQ x).run tm fun v=>k (.iface t v) hp nx)=.ok):dz P o tm hp nx k:=by
 obtain⟨v,h,hv⟩:=aQ h;refine bJ (v:=.iface t v) (fun B w0 ι nt a w ha hcc=>?_) h;simp only[execOp,ho];rw[hv ι nt a ha];cases d<;>first|exact absurd rfl (hni _)|simp[Instr.makeInterface,ay hd,ak]
theorem Fh {op:BinOp}{t:TypeId}{x y:Operand}{u v:AV}(hg:pP P op t=true)(hn:¬(u=.nilIface/\v=.nilIface))(ι:En)(w:World):(eqGuard op t x y (ak ι u) (ak ι v)).run P w=.ok () w:=by
 unfold pP at hg;rw[zaq]at hg;unfold eqGuard;cases op<;>simp[isEq]at hg ⊢
 all_goals
  cases u<;>cases v<;>simp[ak]at hn ⊢
  all_goals simp[hg]
theorem Hb {op:BinOp}{t yt:TypeId}{x y:Operand}(ho:o.op=.binOp op t x y yt)(hg:pP P op t=true)(h:((cQ x).run tm fun a=>(cQ y).run tm fun b=>(Ps P op t).run a b fun v=>k v hp nx)=.ok):dz P o tm hp nx k:=by
 obtain⟨u,h,hu⟩:=aQ h;obtain⟨v,h,hv⟩:=aQ h;obtain⟨⟨r,h,hr⟩,hn⟩:=J6 (J7 h);refine bJ (v:=r) (fun B w0 ι nt a w ha hcc=>?_) h;simp only[execOp,ho];rw[hu ι nt a ha,hv ι nt a ha];simp only[Sem.run_bind,Fh hg hn ι w,Result.andThen_ok,hr ι w,Sem.run_pure]
theorem J9 {v:AV}{c:Value}(h:GK v=some c)(ι:En):ak ι v=c:=by
 cases v<;>simp[GK]at h<;>(subst h;simp[ak])
theorem Ka {op:UnOp}{t:TypeId}{x:Operand}(ho:o.op=.unOp op t x)(h:((cQ x).run tm fun v=>ZB op v fun v=>k v hp nx)=.ok):dz P o tm hp nx k:=by
 obtain⟨v,h,hv⟩:=aQ h
 have slow:(match GK v with
   |some c=>GL (Op.unary op c) fun v=>k v hp nx
   |none=>.bad 138)=.ok->dz P o tm hp nx k:=by
  intro h;cases hc:GK v with
  |none=>rw[hc]at h;cases h
  |some c =>
   rw[hc]at h;obtain⟨r,c',hs,hk,hr⟩:=Dq h
   have key:gK P o tm hp r:=fun B w0 ι nt a w ha hcc=>by
    simp only[execOp,ho];rw[hv ι nt a ha,J9 hc ι,hs,hr ι];rfl
   exact bJ key hk
 cases op with
 |not =>
  cases v with
  |bool b =>
   have h:(ck (!b) fun b=>k (.bool b) hp nx)=.ok:=h;rw[aW]at h
   have key:gK P o tm hp (.bool (!b)):=fun B w0 ι nt a w ha hcc=>by
    simp only[execOp,ho];rw[hv ι nt a ha];simp[ak,Op.unary]
   exact bJ key h
  |_=>exact slow h
 |neg =>
  cases v with
  |int kd n =>
   have h:=tK h
   have key:gK P o tm hp (.int kd (kd.wrap (Int.sub 0 n))):=fun B w0 ι nt a w ha hcc=>by
    simp only[execOp,ho];rw[hv ι nt a ha];simp only[ak,Op.unary,Op.intArith];rfl
   exact bJ key h
  |_=>exact slow h
 |xor=>cases v<;>exact slow h
 |plus=>cases v<;>exact slow h
end
end Go.aK
namespace Go.aK
open Go.RowKit
section
variable {P:Program}{o:Oper}{tm:Tm}{hp:Tr AO}{nx:Pz}{k:AV->Tr AO->Pz->Rs}{call:bH}
theorem nS {ι:En}{w:World}{id:Pz}{off:Nat}{l:List AV}{n:Nat}(h:p7 ι w id off l)(hn:l.length=n):(loadCells ⟨ι.aY id,ι.sh id+off,none⟩ n).run P w=.ok (aq ι l).toArray w:=by
 refine run_loadCells (by rw[aw,hn]) (fun j hj=>?_);rw[aw]at hj;rw[bx,<-h j hj,zbp]
theorem zy {t:TypeId}{x:Operand}(ho:o.op=.load t x)(ht:ec P t=true)(h:((cQ x).run tm fun v=>jV v fun id off=>kN hp id off (af P t) fun cs=>k (.agg cs) hp nx)=.ok):dz P o tm hp nx k:=by
 obtain⟨v,h,hv⟩:=aQ h;obtain⟨id,off,rfl,g⟩:=g9 h;obtain⟨l,g,hl⟩:=lO g;obtain⟨d,hd⟩:=qb ht
 have key:gK P o tm hp (.agg l):=fun B w0 ι nt a w ha hc=>by
  obtain⟨h1,h2⟩:=hl B w0 ι w hc;simp only[execOp,ho];rw[hv ι nt a ha];simp only[ak,Instr.loadAt,Instr.sureAddr,loadVar,Sem.run_bind,Sem.run_pure,Result.andThen_ok,iN hd,ht,if_true,hX hd];rw[nS h2 h1];simp
 exact bJ key g
theorem zB {t:TypeId}{x:Operand}(ho:o.op=.load t x)(hk:cM P t=true)(ht:ec P t=false)(h:((cQ x).run tm fun v=>jV v fun id off=>pO hp id off fun v=>k v hp nx)=.ok):dz P o tm hp nx k:=by
 obtain⟨v,h,hv⟩:=aQ h;obtain⟨id,off,rfl,g⟩:=g9 h;obtain⟨u,g,hu⟩:=rV g;obtain⟨d,hd⟩:=kU hk
 have key:gK P o tm hp u:=fun B w0 ι nt a w ha hc=>by
  simp only[execOp,ho];rw[hv ι nt a ha];simp only[ak,Instr.loadAt,Instr.sureAddr,loadVar,Sem.run_bind,Sem.run_pure,Result.andThen_ok,iN hd,ht,zaf,if_false];rw[gB (hu B w0 ι w hc)];simp
 exact bJ key g
theorem Hc {t:TypeId}{x y:Operand}(ho:o.op=.store t x y)(h:((cQ x).run tm fun p=>(cQ y).run tm fun v=>jV p fun id off =>
      bM (Nat.beq v.cells.length (af P t)) (jz hp id off v.cells fun hp=>k aG hp nx) (.bad 135))=.ok) (hi:∃i,P.info? t=some i):jT P o tm hp nx k:=by
 obtain⟨p,h,hp'⟩:=aQ h;obtain⟨v,h,hv⟩:=aQ h;obtain⟨id,off,rfl,g⟩:=g9 h;obtain⟨hl,g⟩:=aJ g;obtain⟨hp1,g,hf,hput⟩:=kr g;have hl:=aj hl;obtain⟨i,hi⟩:=hi
 have key:Fg P o tm hp nx aG hp1:=by
  refine⟨hput.1 nx,fun B w0 ι nt a w hw ha hc=>?_⟩;obtain⟨hc',hcan⟩:=hput.2 B w0 ι w nx hw hc;refine⟨_,undef,.inr ⟨?_,rfl⟩,(dq ι).symm,hc'⟩;simp only[execOp,ho];rw[hp' ι nt a ha,hv ι nt a ha];simp only[ak,Instr.storeAt,Instr.sureAddr,storeVar,Sem.run_bind,Sem.run_pure,Result.andThen_ok,dy hi];rw[bY,if_neg (by simp[aw,hl])];rw[hY _ _ _ 0 w (jx ι _ hf) (by rw[zbt,aw];exact hcan)];simp
 exact (key.Ff).to g
theorem cG {t:TypeId}{z:AV}(h:zeroOf P t=some z):∃i zv,P.info? t=some i/\i.zero=some zv/\iS 8 zv=some z/\∀ι w,(zeroValue t).run P w=.ok (ak ι z) w:=by
 unfold zeroOf at h;cases hi:P.info? t with
 |none=>rw[hi]at h;cases h
 |some i =>
  rw[hi]at h;cases hz:i.zero with
  |none=>simp only[hz]at h;cases h
  |some zv =>
   simp only[hz]at h;refine⟨i,zv,rfl,hz,h,fun ι w=>?_⟩;simp only[zeroValue,Sem.run_bind,nQ hi,Result.andThen_ok,hz];rw[ei 8 zv z h ι];rfl
theorem Hd {e:TypeId}{z:AV}(ho:o.op=.alloc e)(hz:zeroOf P e=some z)(h:(bo z.cells.length fun es=>lG hp nx es 1 e (one z.cells) fun id hp nx=>k (.ptr id 0) hp nx)=.ok):rZ P o tm hp nx k:=by
 rw[aM,nR]at h;obtain⟨i,zv,h1,h2,h3,h4⟩:=cG hz;refine⟨_,.arr z.cells.length 1 e (one z.cells),h,rfl,(fun _ _ h=>by cases h),(fun ι nt a ha hs=>⟨_,fun w hb=>?_,fun hp' w' hy=>tP hy hs⟩)⟩;simp only[execOp,ho,Instr.alloc,Sem.run_bind,h4 ι,Result.andThen_ok,newVar,newRow,run_newObj,Sem.run_pure,ak,hb,hs,bY];rfl
theorem PE {e:TypeId}{x:Operand}(ho:o.op=.box e x)(h:((cQ x).run tm fun v=>bo v.cells.length fun es=>lG hp nx es 1 e (one v.cells) fun id hp nx=>k (.ptr id 0) hp nx)=.ok):rZ P o tm hp nx k:=by
 obtain⟨v,h,hv⟩:=aQ h;rw[aM,nR]at h;refine⟨_,.arr v.cells.length 1 e (one v.cells),h,rfl,(fun _ _ h=>by cases h),(fun ι nt a ha hs=>⟨_,fun w hb=>?_,fun hp' w' hy=>tP hy hs⟩)⟩;simp only[execOp,ho];rw[hv ι nt a ha];simp only[Instr.box,Sem.run_bind,Result.andThen_ok,newVar,newRow,run_newObj,Sem.run_pure,ak,hb,hs,bY];rfl
theorem BT {t:TypeId}{r:Option Operand}(ho:o.op=.makeMap t r)(hr:∀ι nt a w,ca ι nt tm a->(Instr.makeMap t (r.map a.eval)).run P w=.ok (.map (some w.heap.size)) (w.alloc (.map #[] 0)))(h:newObj hp nx (.map [] 0) (fun id hp nx=>k (.map id) hp nx)=.ok):rZ P o tm hp nx k:=by
 rw[cW]at h;refine⟨_,.map [] 0,h,rfl,(fun _ _ h=>by cases h),(fun ι nt a ha hs=>⟨.map #[] 0,fun w hb=>?_,fun hp' w' hy=>⟨#[],hy,rfl⟩⟩)⟩;simp only[execOp,ho,Sem.run_bind,hr ι nt a w ha,Result.andThen_ok,Sem.run_pure,ak,hb]
end
end Go.aK
namespace Go.aK
open Go.RowKit
section
variable {P:Program}{o:Oper}{tm:Tm}{hp:Tr AO}{nx:Pz}{k:AV->Tr AO->Pz->Rs}{call:bH}
theorem eJ (ι:En)(kd:IntKind)(n:Nat):ak ι (.int kd (.ofNat n))=.int kd (n:Int):=by simp[ak]
theorem qT {P:Program}{w:World}{t e:TypeId}{kd:IntKind}{i len cap:Nat}{b o:Nat}(hu:P.underlying t=some (.slice e))(hi:∃j,P.info? e=some j)(h:i<len) :
  (Instr.indexAt t (.slice (some ⟨b,o,none⟩) len cap) (.int kd (i:Int))).run P w=.ok (.pointer (some ⟨b,o+i*af P e,none⟩)) w:=by
 obtain⟨j,hj⟩:=hi;simp only[Instr.indexAt,asIntOf,Sem.run_bind,Sem.run_pure,Result.andThen_ok,ay hu];cases hl:decide (len<=1)
 all_goals
  simp only[hl,Bool.false_and,Bool.true_and,Sem.run_bind,Sem.run_pure,Result.andThen_ok,ay hu,Sem.run_ite,zaf,if_false];rw[if_pos (by omega)];simp only[Sem.run_bind,dy hj,Result.andThen_ok,Sem.run_pure,zcv,gz]
theorem vT {P:Program}{w:World}{t e:TypeId}{kd:IntKind}{i len:Nat}{b o:Nat}(hu:P.underlying t=some (.array len e))(hi:∃j,P.info? e=some j)(h:i<len) :
  (Instr.indexAt t (.pointer (some ⟨b,o,none⟩)) (.int kd (i:Int))).run P w=.ok (.pointer (some ⟨b,o+i*af P e,none⟩)) w:=by
 obtain⟨j,hj⟩:=hi;simp only[Instr.indexAt,asIntOf,Sem.run_bind,Sem.run_pure,Result.andThen_ok,ay hu,Instr.sureAddr];cases hl:decide (len<=1)
 all_goals
  simp only[hl,Bool.false_and,Bool.true_and,Sem.run_bind,Sem.run_pure,Result.andThen_ok,ay hu,Sem.run_ite,zaf,if_false];rw[if_pos (by omega)];simp only[Sem.run_bind,dy hj,Result.andThen_ok,Sem.run_pure,zcv,gz]
theorem vl {t e:TypeId}{x i:Operand}(ho:o.op=.indexAddr t x i)(hu:P.underlying t=some (.slice e))(hi:∃j,P.info? e=some j)(h:((cQ x).run tm fun v=>(cQ i).run tm fun i=>asNat i fun i=>GF v (.bad 151) (.bad 151)
        (fun id off len _=>bM (Nat.blt i len) (bo (off+i*af P e) fun o=>k (.ptr id o) hp nx) (.bad 149))
        (fun id off len _=>bM (Nat.blt i len) (bo (off+i*af P e) fun o=>k (.ptr id o) hp nx) (.bad 150)))=.ok):dz P o tm hp nx k:=by
 obtain⟨v,h,hv⟩:=aQ h;obtain⟨iv,h,hiv⟩:=aQ h;obtain⟨kd,n,rfl,g⟩:=jC h;cases v with
 |slice id off len cap =>
  obtain⟨hlt,g⟩:=aJ g;rw[aM]at g
  have key:gK P o tm hp (.ptr id (off+n*af P e)):=fun B w0 ι nt a w ha hc=>by
   simp only[execOp,ho];rw[hv ι nt a ha,hiv ι nt a ha,eJ];simp only[ak,Sem.run_bind];rw[qT hu hi (ax hlt)];simp[zbp]
  exact bJ key g
 |bw id off len skip =>
  obtain⟨hlt,g⟩:=aJ g;rw[aM]at g
  have key:gK P o tm hp (.ptr id (off+n*af P e)):=fun B w0 ι nt a w ha hc=>by
   simp only[execOp,ho];rw[hv ι nt a ha,hiv ι nt a ha,eJ];simp only[ak,Sem.run_bind];rw[qT hu hi (ax hlt)];simp[zbp]
  exact bJ key g
 |_=>cases g
theorem zC {t e:TypeId}{m:Nat}{x i:Operand}(ho:o.op=.indexAddr t x i)(hu:P.underlying t=some (.array m e))(hi:∃j,P.info? e=some j)(h:((cQ x).run tm fun v=>(cQ i).run tm fun i=>asNat i fun i=>jV v fun id off =>
        bM (Nat.blt i m) (bo (off+i*af P e) fun o=>k (.ptr id o) hp nx) (.bad 152))=.ok):dz P o tm hp nx k:=by
 obtain⟨v,h,hv⟩:=aQ h;obtain⟨iv,h,hiv⟩:=aQ h;obtain⟨kd,n,rfl,g⟩:=jC h;obtain⟨id,off,rfl,g⟩:=g9 g;obtain⟨hlt,g⟩:=aJ g;rw[aM]at g
 have key:gK P o tm hp (.ptr id (off+n*af P e)):=fun B w0 ι nt a w ha hc=>by
  simp only[execOp,ho];rw[hv ι nt a ha,hiv ι nt a ha,eJ];simp only[ak,Sem.run_bind];rw[vT hu hi (ax hlt)];simp[zbp]
 exact bJ key g
theorem zD {t:TypeId}{x i:Operand}(ho:o.op=.index t x i)(hu:P.underlying t=some .string)(h:((cQ x).run tm fun v=>(cQ i).run tm fun i=>asNat i fun i=>match v with
      |.str l n=>bM (Nat.blt i l) (bo (Nat.mod (Nat.shiftRight n (Nat.mul 8 (Nat.sub l (Nat.succ i)))) 256) fun b=>k (.int .u8 (.ofNat b)) hp nx) (.bad 154)
      |_=>.bad 155)=.ok):dz P o tm hp nx k:=by
 obtain⟨v,h,hv⟩:=aQ h;obtain⟨iv,h,hiv⟩:=aQ h;obtain⟨kd,j,rfl,g⟩:=jC h;cases v with
 |str l n =>
  obtain⟨hlt,g⟩:=aJ g;have hlt:=ax hlt;rw[aM]at g
  have hsh:Nat.shiftRight n (Nat.mul 8 (Nat.sub l (Nat.succ j)))=Nat.div n (kO (Nat.sub l (j+1))):=by
   rw[jq,show Nat.shiftRight n (Nat.mul 8 (Nat.sub l (Nat.succ j)))=n >>> (8*(l-(j+1)))from rfl,Nat.shiftRight_eq_div_pow,Nat.pow_mul];rfl
  rw[hsh]at g
  have key:gK P o tm hp (.int .u8 (.ofNat (Nat.mod (Nat.div n (kO (Nat.sub l (j+1)))) 256))):=fun B w0 ι nt a w ha hc=>by
   simp only[execOp,ho];rw[hv ι nt a ha,hiv ι nt a ha,eJ,eJ];simp only[ak,Instr.index,asIntOf,Sem.run_bind,Sem.run_pure,Result.andThen_ok,ay hu]
   have hget:(ByteArray.mk (bytesOf l n).toArray)[j]?=some (UInt8.ofNat (n/256 ^ (l-(j+1))%256)):=by
    have:=mX l n j hlt;have hsz:j<(ByteArray.mk (bytesOf l n).toArray).size:=by show j<(bytesOf l n).toArray.size;simp[aB,hlt]
    rw[getElem?_pos _ j hsz];have hsz':j<(bytesOf l n).length:=by rw[aB];exact hlt
    rw[zaj hsz']at this;rw[<-Option.some.inj this];rfl
   rw[if_pos (by omega)];simp only[zcv,hget,Sem.run_pure,Result.andThen_ok];rw[jq];congr 4;simp only[zdl];show n/256 ^ (l-(j+1))%256%2 ^ 8=n/256 ^ (l-(j+1))%256;omega
  exact bJ key g
 |_=>cases g
theorem Kb {t:TypeId}{v:AV}{kk:Nat->Rs}(h:(JZ P t).run hp v kk=.ok):JY P t hp v kk=.ok:=by
 unfold JZ at h;unfold JY;split at h
 ·rename_i hu;rw[hu];cases v<;>first|exact h|cases h
 ·rename_i hu;rw[hu];cases v<;>first|exact h|cases h
 ·exact h
theorem PF {ats:Array TypeId}{t:TypeId}{ats':List TypeId}{x:Operand}{c:Call}(ho:o.op=.call c)(hc:c.callee=.builtin .len)(hats:c.argTypes.toList=t::ats')(hx:c.args.toList=[x])
  (h:((cQ x).run tm fun v=>(JZ P t).run hp v fun n=>k (.int .i64 (.ofNat n)) hp nx)=.ok):dz P o tm hp nx k:=by
 obtain⟨v,h,hv⟩:=aQ h
 replace h:=Kb h
 have hl:∃n,k (.int .i64 (.ofNat n)) hp nx=.ok/\∀B w0 ι w,Core B w0 ι hp w->(Builtin.len_ c.argTypes o.type #[ak ι v]).run P w=.ok (.int .i64 (n:Int)) w:=by
  have ht:c.argTypes[0]?=some t:=by rw[<-zcj,hats];rfl
  have go:∀{u:TypeDesc},P.underlying t=some u->∀(ι:En) (w:World),(Builtin.len_ c.argTypes o.type #[ak ι v]).run P w=(match u,ak ι v with
    |.string,.string s=>(pure (goInt s.size):Sem Value)
    |.array n _,_=>pure (goInt n)
    |.pointer arr,_=>do
     let .array n _ <-underlying arr|stuck "len: pointer to array expected"
     pure (goInt n)
    |.slice _,.slice _ n _=>pure (goInt n)
    |.map _ _,.map none|.chan _ _,.chan none=>pure (goInt 0)
    |.map _ _,.map (some r)=>do
     let .map entries _ <-getObj r|stuck "len: map expected"
     pure (goInt entries.size)
    |.chan _ _,.chan (some r)=>do
     let .chan _ buf _ _ _ timer <-getObj r|stuck "len: channel expected"
     pure (goInt (if timer then 0 else buf.size))
    |_,_=>stuck "len: string, array, pointer to array, slice, map or channel expected").run P w:=by
   intro u hu ι w;simp only[Builtin.len_,ht];simp only[zao,zba,Sem.run_bind,ay hu,Result.andThen_ok];rfl
  unfold JY at h;split at h
  case h_1 l n hu=>exact⟨l,h,fun B w0 ι w hc=>by rw[go hu];simp only[ak,Sem.run_pure,goInt];rw[show (ByteArray.mk (bytesOf l n).toArray).size=l from by show (bytesOf l n).toArray.size=l;simp[aB]]⟩
  case h_2 n e hu=>exact⟨n,h,fun B w0 ι w hc=>by rw[go hu];simp only[Sem.run_pure,goInt]⟩
  case h_3 hu=>exact⟨_,h,fun B w0 ι w hc=>by rw[go hu];simp only[ak,Sem.run_pure,goInt]⟩
  case h_4 hu=>exact⟨_,h,fun B w0 ι w hc=>by rw[go hu];simp only[ak,Sem.run_pure,goInt]⟩
  case h_5 hu=>exact⟨0,h,fun B w0 ι w hc=>by rw[go hu];simp only[ak,Sem.run_pure,goInt]<;>rfl⟩
  case h_6 hu=>exact⟨0,h,fun B w0 ι w hc=>by rw[go hu];simp only[ak,Sem.run_pure,goInt]<;>rfl⟩
  case h_7 id hu =>
   obtain⟨ob,hob,h⟩:=dm h;cases ob with
   |map es cl =>
    refine⟨es.length,h,fun B w0 ι w hc=>?_⟩;obtain⟨E,h1,h2⟩:=hc.obj _ _ hob;rw[go hu];simp only[ak,Sem.run_bind,getObj,Sem.run,h1,Result.andThen_ok,goInt,Sem.run_pure];have:E.size=es.length:=by rw[<-zdw,h2];simp
    rw[this]
   |_=>cases h
  case h_8=>cases h
 obtain⟨n,hk,hr⟩:=hl
 have key:gK P o tm hp (.int .i64 (.ofNat n)):=fun B w0 ι nt a w ha hcc=>by
  have hargs:c.args.map a.eval=#[ak ι v]:=by rw[map_mk,hx];simp[hv ι nt a ha]
  simp only[execOp,ho,resolve,hc,hargs,Sem.run_bind,Sem.run_pure,Result.andThen_ok,invoke,builtin];rw[hr B w0 ι w hcc];simp[ak]
 exact bJ key hk
end
end Go.aK
namespace Go.aK
open Go.RowKit
theorem qU (off:Nat):∀(l:List Value)(n:Nat)(C:Array Value),(l.zipIdx n).foldl (fun cs x=>cs.setIfInBounds (off+x.2) x.1) C=ef C (off+n) l
 | [],n,C=>rfl
 |v::l,n,C=>by
  simp only[List.zipIdx_cons,List.foldl_cons,ef];rw[qU off l (n+1)];rfl
theorem qg (ι:En)(cs vs:List AV)(off:Nat)(h:off+vs.length<=cs.length):ef (aq ι cs).toArray off (aq ι vs)=(aq ι (fg off vs cs)).toArray:=by
 apply Array.ext_getElem?;intro i;rw[dF _ _ _ _ (by simp[aw];exact h)];rw[zao,zao,bx,bx,bx,oW _ _ _ h,aw];split<;>rfl
section
variable {P:Program}{o:Oper}{tm:Tm}{hp:Tr AO}{nx:Pz}{k:AV->Tr AO->Pz->Rs}{call:bH}
theorem qh (place:Nat->Option (Nat×Nat)):∀(ps:List (Nat×Operand))(cs:List AV)(k:List AV->Rs),rS place ps tm cs k=.ok ->
  ∃cs',k cs'=.ok/\cs'.length=cs.length/\∀ι nt a,ca ι nt tm a->Instr.fill place (aq ι cs).toArray (ps.map fun p=>(p.1,a.eval p.2))=some (aq ι cs').toArray
 | [],cs,k,h=>⟨cs,h,rfl,fun ι nt a ha=>rfl⟩
 |p::ps,cs,k,h=>by
  have h:(match place p.1 with
   |none=>Rs.bad 40
   |some (off,size)=>(cQ p.2).run tm fun v=>bM (Nat.beq v.cells.length size) (pM off v.cells cs fun cs=>rS place ps tm cs k) (.bad 41))=.ok:=h
  cases hp:place p.1 with
  |none=>rw[hp]at h;cases h
  |some q =>
   obtain⟨off,size⟩:=q;rw[hp]at h;obtain⟨v,h,hv⟩:=aQ h;obtain⟨hsz,h⟩:=aJ h;have hsz:=aj hsz;obtain⟨hr,h⟩:=oT _ h;obtain⟨cs',hk,hlen,hf⟩:=qh place ps _ _ h;refine⟨cs',hk,by rw[hlen,oB _ _ _ hr],fun ι nt a ha=>?_⟩;simp only[zal,Instr.fill,hp];rw[hv ι nt a ha,bY];have e1:(aq ι v.cells).toArray.size=size:=by simp[aw,hsz]
   have e2:(aq ι cs).toArray.size=cs.length:=by simp[aw]
   rw[if_neg (by rw[e1,e2];simp;omega)];rw[<-zdi,Array.toList_zipIdx,qU off,zbt,qg ι _ _ _ hr];exact hf ι nt a ha
theorem e9 (ps:Array (Nat×Operand))(a:Act):(ps.map fun x=>(x.1,a.eval x.2)).toList=ps.toList.map fun p=>(p.1,a.eval p.2):=by simp
theorem Fi {t:TypeId}{z:AV}{fs:Array Field}{ps:Array (Nat×Operand)}{places:List (Nat×Nat)}(ho:o.op=.build t ps)(hz:zeroOf P t=some z)(hu:P.underlying t=some (.struct fs))
  (hp':fs.toList.mapM (fun f=>(P.info? f.type).map fun i=>(f.offset,i.size))=some places) (h:(rS (fun i=>places[i]?) (ps.toList) tm z.cells fun cs=>k (.agg cs) hp nx)=.ok):dz P o tm hp nx k:=by
 obtain⟨cs,h,hlen,hf⟩:=qh _ _ _ _ h;obtain⟨i,zv,h1,h2,h3,h4⟩:=cG hz
 have key:gK P o tm hp (.agg cs):=fun B w0 ι nt a w ha hc=>by
  have hz':zv.cells=(aq ι z.cells).toArray:=by rw[<-ei 8 zv z h3 ι,bY]
  have hb:P.built t (ps.map fun x=>(x.1,a.eval x.2)).toList=some (aq ι cs).toArray:=by
   unfold Program.built;simp only[h1,hu,h2,hp'];rw[e9,hz',<-hf ι nt a ha];congr 1
   funext i
   simp
  simp only[execOp,ho,Sem.run_bind];rw[show (ps.map fun x=>match x with|(i,x)=>(i,a.eval x))=ps.map fun x=>(x.1,a.eval x.2)from rfl,run_build w t _ _ hb];simp[ak]
 exact bJ key h
theorem Fj {t e:TypeId}{m:Nat}{z:AV}{ps:Array (Nat×Operand)}{ie:TypeInfo}(ho:o.op=.build t ps)(hz:zeroOf P t=some z)(hu:P.underlying t=some (.array m e))(hi:P.info? e=some ie)
  (h:(rS (fun i=>some (i*af P e,af P e)) (ps.toList) tm z.cells fun cs=>k (.agg cs) hp nx)=.ok):dz P o tm hp nx k:=by
 obtain⟨cs,h,hlen,hf⟩:=qh _ _ _ _ h;obtain⟨i,zv,h1,h2,h3,h4⟩:=cG hz;have hs:af P e=ie.size:=by unfold af;rw[hi];rfl
 have key:gK P o tm hp (.agg cs):=fun B w0 ι nt a w ha hc=>by
  have hz':zv.cells=(aq ι z.cells).toArray:=by rw[<-ei 8 zv z h3 ι,bY]
  have hb:P.built t (ps.map fun x=>(x.1,a.eval x.2)).toList=some (aq ι cs).toArray:=by
   unfold Program.built;simp only[h1,hu,h2,hi];rw[e9,hz',<-hs];exact hf ι nt a ha
  simp only[execOp,ho,Sem.run_bind];rw[show (ps.map fun x=>match x with|(i,x)=>(i,a.eval x))=ps.map fun x=>(x.1,a.eval x.2)from rfl,run_build w t _ _ hb];simp[ak]
 exact bJ key h
theorem gU (l:List AV):∀n,(gY n l).length=n*l.length
 |0=>by show ([]:List AV).length=_;simp
 |n+1=>by show (l++gY n l).length=_;rw[zak,gU l n,zau];omega
theorem tS (l:List AV)(hl:0<l.length):∀n i,i<n*l.length->(gY n l)[i]?=l[i%l.length]?
 |0,i,h=>by omega
 |n+1,i,h=>by
  show (l++gY n l)[i]?=_;by_cases hi:i<l.length
  ·rw[zat hi,zdu hi]
  ·rw[zau]at h;rw[zax (by omega),tS l hl n _ (by omega)];congr 1;exact (Nat.mod_eq_sub_mod (by omega)).symm
theorem qi (ι:En)(l:List AV)(hl:0<l.length)(n:Nat):(Array.range (n*l.length)).map ((aq ι l).toArray[·%(aq ι l).toArray.size]!)=(aq ι (gY n l)).toArray:=by
 apply Array.ext_getElem?;intro i;have e0:(aq ι (gY n l)).toArray[i]?=((gY n l)[i]?).map (ak ι):=by rw[zao,bx]
 rw[Array.getElem?_map,e0];by_cases hi:i<n*l.length
 ·rw[tS l hl n i hi];simp only[Array.getElem?_range,hi,if_true,zaz];have hm:i%l.length<l.length:=Nat.mod_lt _ hl;have hs:(aq ι l).toArray.size=l.length:=by simp[aw]
  rw[hs];rw[zaj hm];simp only[zaz,Option.some.injEq];rw[getElem!_pos _ _ (by rw[hs];exact hm)];have:(aq ι l)[i%l.length]?=some (ak ι (l[i%l.length])):=by rw[bx,zaj hm];rfl
  rw[List.getElem_toArray];rw[zaj (by rw[aw];exact hm)]at this;exact Option.some.inj this
 ·rw[zbq (by rw[gU];omega)];simp[hi]
noncomputable def chunk (sz:Nat):Nat->List AV->Nat->Tr (List AV)->Tr (List AV)
 |0,_,_,c=>c
 |n+1,cs,q,c=>chunk sz n (cs.drop sz) (q+1) (c.set (bj q) (cs.take sz))
end
end Go.aK
namespace Go.aK
open Go.RowKit
theorem vU (sz:Nat):∀(n:Nat)(cs:List AV)(q:Nat)(c:Tr (List AV))(k:Tr (List AV)->Rs),xe sz n cs q c k=.ok->n*sz<=cs.length/\k (chunk sz n cs q c)=.ok
 |0,cs,q,c,k,h=>⟨by omega,h⟩
 |n+1,cs,q,c,k,h=>by
  obtain⟨h1,h⟩:=mN sz (k:=fun l=>pN sz cs fun r=>c.du (bj q) l fun c=>bo (q+1) fun q=>xe sz n r q c k) h;obtain⟨_,h⟩:=mP sz h;rw[Tr.cK,aM]at h;obtain⟨h2,h⟩:=vU sz n _ _ _ k h;rw[zas]at h2;exact⟨by rw[zau];omega,h⟩
theorem vV (sz:Nat):∀(n:Nat)(cs:List AV)(q:Nat)(c:Tr (List AV))(i:Nat),(chunk sz n cs q c).get (bj i)=if q<=i/\i<q+n then some ((cs.drop ((i-q)*sz)).take sz)else c.get (bj i)
 |0,cs,q,c,i=>by simp only[chunk];rw[if_neg (by omega)]
 |n+1,cs,q,c,i=>by
  simp only[chunk];rw[vV sz n];by_cases h:q+1<=i/\i<q+1+n
  ·rw[if_pos h,if_pos (by omega),zct];have:i-q=(i-(q+1))+1:=by omega
   rw[this,zau];congr 3;omega
  ·rw[if_neg h];by_cases h2:i=q
   ·subst h2;rw[Tr.bu,if_pos (by omega),zeb,zbw,zca]
   ·rw[Tr.dw (mM h2),if_neg (by omega)]
theorem vW {ι:En}{hp:Tr AO}{w:World}{nx:Pz}{cs:List AV}{n sz:Nat}{el:TypeId}{c:Tr (List AV)}(hb:w.heap[ι.aY nx]?=some (.cells (aq ι cs).toArray el (0,0)))(hs:ι.sh nx=0)(hlen:cs.length=n*sz)
  (hc:∀q,q<n->c.get (bj q)=some ((cs.drop (q*sz)).take sz)):jk ι hp w nx (.arr sz n el c):=by
 refine⟨(aq ι cs).toArray,(0,0),hb,hs,by simp[aw,hlen],?_,Or.inl rfl⟩;intro q hq;have hm:=zae sz (zce hq);rw[zau]at hm;refine⟨_,hc q hq,by rw[zag,zas];omega,fun r hr=>?_⟩;rw[zap,zao,bx,zck,if_pos hr,zbb]
section
variable {P:Program}{o:Oper}{tm:Tm}{hp:Tr AO}{nx:Pz}{k:AV->Tr AO->Pz->Rs}{call:bH}
theorem vm {t e:TypeId}{len:Nat}{z:AV}{ps:Array (Nat×Operand)}(ho:o.op=.buildSlice t len ps)(hu:P.underlying t=some (.slice e))(hz:zeroOf P e=some z)
  (hg:(Nat.ble len 10000&&(Nat.ble (af P e) 1000&&(Nat.beq z.cells.length (af P e)&&Nat.blt 0 (af P e))))=true)
  (h:(rS (fun i=>some (i*af P e,af P e)) (ps.toList) tm (gY len z.cells) fun cs=>xe (af P e) len cs 0 .e fun c =>
          lG hp nx (af P e) len e c fun id hp nx=>k (.slice id 0 len len) hp nx)=.ok):rZ P o tm hp nx k:=by
 obtain⟨cs,h,hlen,hf⟩:=qh _ _ _ _ h;obtain⟨_,h⟩:=vU _ _ _ _ _ _ h;rw[nR]at h;simp only[za]at hg;obtain⟨g1,g2,g3,g4⟩:=hg;have g1:=aN g1;have g2:=aN g2;have g3:=aj g3;have g4:=ax g4;obtain⟨i,zv,h1,h2,h3,h4⟩:=cG hz;rw[gU,g3]at hlen;have hmul:len*af P e<=10000*1000:=zdq g1 g2;refine⟨_,.arr (af P e) len e (chunk (af P e) len cs 0 .e),h,rfl,(fun _ _ h=>by cases h),(fun ι nt a ha hs=>⟨_,fun w hb=>?_,fun hp' w' hy=>vW hy hs hlen (fun q hq=>by rw[vV,if_pos (by omega),zet])⟩)⟩;have hz':zv.cells=(aq ι z.cells).toArray:=by rw[<-ei 8 zv z h3 ι,bY]
 have hfl:=hf ι nt a ha;simp only[execOp,ho,Instr.buildSlice,Sem.run_bind,ay hu,Result.andThen_ok,dy h1];rw[show (ps.map fun x=>match x with|(i,x)=>(i,a.eval x))=ps.map fun x=>(x.1,a.eval x.2)from rfl];simp only[Sem.run_ite];rw[if_neg (by simp;omega)];by_cases h0:len*af P e=0
 ·have hl0:len=0:=by rcases Nat.mul_eq_zero.1 h0 with h|h<;>omega
  subst hl0;have hfl0:Instr.fill (fun i=>some (i*af P e,af P e)) #[] (ps.map fun x=>(x.1,a.eval x.2)).toList=some (aq ι cs).toArray:=by rw[e9];exact hfl
  simp only[zbw,if_true,Sem.run_bind,Sem.run_pure,Result.andThen_ok];rw[show (Array.range 0).map ((#[]:Array Value)[·%(#[]:Array Value).size]!)=#[] by simp];rw[hfl0];simp only[Sem.run_bind,newRow,run_newObj,Sem.run_pure,Result.andThen_ok,ak,hb,hs];rfl
 ·have hfl':Instr.fill (fun i=>some (i*af P e,af P e)) ((Array.range (len*af P e)).map ((aq ι z.cells).toArray[·%(aq ι z.cells).toArray.size]!)) (ps.map fun x=>(x.1,a.eval x.2)).toList=some (aq ι cs).toArray:=by
    rw[e9,<-g3,qi ι z.cells (by omega) len,g3];exact hfl
  simp only[if_neg h0,Sem.run_bind,h4 ι,Result.andThen_ok,bY,Sem.run_pure];rw[hfl'];simp only[Sem.run_bind,newRow,run_newObj,Sem.run_pure,Result.andThen_ok,ak,hb,hs];rfl
noncomputable def full (l:List AV):Nat->Nat->Tr (List AV)->Tr (List AV)
 |0,_,c=>c
 |n+1,q,c=>full l n (q+1) (c.set (bj q) l)
theorem zH (l:List AV):∀(n q:Nat)(c:Tr (List AV))(k:Tr (List AV)->Rs),Dc n l q c k=k (full l n q c)
 |0,_,_,_=>rfl
 |n+1,q,c,k=>by
  show (c.du (bj q) l fun c=>bo (q+1) fun q=>Dc n l q c k)=_;rw[Tr.cK,aM,zH l n];rfl
theorem zI (l:List AV):∀(n q:Nat)(c:Tr (List AV))(i:Nat),(full l n q c).get (bj i)=if q<=i/\i<q+n then some l else c.get (bj i)
 |0,q,c,i=>by simp only[full];rw[if_neg (by omega)]
 |n+1,q,c,i=>by
  simp only[full];rw[zI l n];by_cases h:q+1<=i/\i<q+1+n
  ·rw[if_pos h,if_pos (by omega)]
  ·rw[if_neg h];by_cases h2:i=q
   ·subst h2;rw[Tr.bu,if_pos (by omega)]
   ·rw[Tr.dw (mM h2),if_neg (by omega)]
theorem xw {t e:TypeId}{x y:Operand}{z:AV}(ho:o.op=.makeSlice t x y)(hu:P.underlying t=some (.slice e))(hz:zeroOf P e=some z)
  (hg:(Nat.beq z.cells.length (af P e)&&(Nat.ble (af P e) 1000&&(Nat.blt 0 (af P e)&&Nat.ble (P.bytesOf e) 1000000)))=true)
  (h:((cQ x).run tm fun l=>(cQ y).run tm fun c=>asNat l fun l=>asNat c fun c=>bM (Nat.ble l c&&Nat.ble c 10000)
          (Dc c z.cells 0 .e fun cs=>lG hp nx (af P e) c e cs fun id hp nx=>k (.slice id 0 l c) hp nx) (.bad 140))=.ok):rZ P o tm hp nx k:=by
 obtain⟨lv,h,hl⟩:=aQ h;obtain⟨cv,h,MR⟩:=aQ h;obtain⟨kl,l,rfl,h2⟩:=jC h;obtain⟨kc,c,rfl,h3⟩:=jC h2;obtain⟨hb1,h4⟩:=aJ h3;rw[zH,nR]at h4;simp only[za]at hg hb1;obtain⟨g1,g2,g3,g5⟩:=hg;have g1:=aj g1;have g2:=aN g2;have g3:=ax g3;have g5:=aN g5;have b1:=aN hb1.1;have b2:=aN hb1.2;obtain⟨i,zv,q1,q2,q3,q4⟩:=cG hz;have hbytes:P.bytesOf e=i.bytes:=by unfold Program.bytesOf;rw[q1];rfl
 have hsz:i.size=af P e:=by unfold af;rw[q1];rfl
 have hm:i.bytes*c<=1000000*10000:=zdq (by omega) b2;refine⟨_,.arr (af P e) c e (full z.cells c 0 .e),h4,rfl,(fun _ _ h=>by cases h),(fun ι nt a ha hs=>⟨.cells (aq ι (gY c z.cells)).toArray e (0,0),fun w hb=>?_,fun hp' w' hy=>vW (cs:=gY c z.cells) hy hs (by rw[gU,g1]) (fun q hq=>?_)⟩)⟩
 ·have hz':zv.cells=(aq ι z.cells).toArray:=by rw[<-ei 8 zv z q3 ι,bY]
  simp only[execOp,ho,Sem.run_bind];rw[hl ι nt a ha,MR ι nt a ha,eJ,eJ];rw[run_make w t e i zv hu q1 q2 kl kc l c (by omega) (by omega) (by omega) (by omega)];simp only[Result.andThen_ok,Sem.run_pure,zcv,ak,hb,hs]
  have:madeCells zv.cells (c*i.size)=(aq ι (gY c z.cells)).toArray:=by
   unfold madeCells;rw[hz',hsz,<-g1];exact qi ι z.cells (by omega) c
  rw[this]
 ·rw[zI,if_pos (by omega)];congr 1;apply zdg;intro r;have zJ:=zae (af P e) (zce hq);rw[zau]at zJ;by_cases hr:r<af P e
  ·rw[zck,if_pos hr,zbb,tS _ (by omega) _ _ (by rw[g1];omega),g1];congr 1;rw[Nat.add_comm,Nat.add_mul_mod_self_right,zdu hr]
  ·rw[zbq (by omega),zbq (by rw[zag];omega)]
end
end Go.aK
namespace Go.aK
open Go.RowKit
section
variable {P:Program}
theorem vX:∀(r c n:Nat),Builtin.growBy n r c<=c*2 ^ r+768*2 ^ r
 |0,c,n=>by simp[Builtin.growBy]
 |r+1,c,n=>by
  simp only[Builtin.growBy];split
  ·have:1<=2 ^ (r+1):=Nat.one_le_two_pow;have:=Nat.mul_le_mul_left c this;omega
  ·refine zay (vX r _ n) ?_;have h1:c+(c+768)/4<=2*c+768:=by omega
   have h2:=zae (2 ^ r) h1;rw[zdr];generalize 2 ^ r=t at *;generalize c+(c+768)/4=y at *;have e1:(2*c+768)*t=2*(c*t)+768*t:=by rw[zbh,Nat.mul_assoc]
   have e2:c*(t*2)=2*(c*t):=by rw[zcq t 2,Nat.mul_left_comm]
   rw[e1]at h2;rw[e2];omega
theorem tT {need cap:Nat}(h:cap<need):Builtin.nextslicecap need cap<=16*need+12288:=by
 unfold Builtin.nextslicecap;split
 ·omega
 ·split
  ·omega
  ·have:=vX 4 cap need;omega
structure Kc (P:Program) (ts tx e:TypeId) (i:TypeInfo) (z:Value) (d:TypeDesc):Prop where
 ts:P.underlying ts=some (.slice e)
 tx:P.underlying tx=some d
 ni:∀k,d≠.int k
 inf:P.info? e=some i
 ZC:i.zero=some z
 byt:i.bytes<=1000000
theorem ic {ts tx e:TypeId}{i:TypeInfo}{z:Value}{d:TypeDesc}(hT:Kc P ts tx e i z d){ty:TypeId}{w:World}{b o len cap n:Nat}{x:Value}{nw:List Value}
  (hx:(Builtin.lenOf x).run P w=.ok n w) (hf:(Builtin.firstCells (af P e) n x).run P w=.ok nw.toArray w) (hn:len+n<=cap) (hv:∀v∈nw,vj v=true) (hc:lP w b (o+len*af P e) nw.length) :
  (Builtin.append_ #[ts,tx] ty #[.slice (some ⟨b,o,none⟩) len cap,x]).run P w=.ok (.slice (some ⟨b,o,none⟩) (len+n) cap) (bp w b (o+len*af P e) nw):=by
 have htx:=hT.tx;have hni:=hT.ni;have hs:=hY (P:=P) b (o+len*af P e) nw 0 w hv (by rw[zbt];exact hc);rw[zbt]at hs;cases d
 case int=>exact absurd rfl (hni _)
 all_goals
  simp only[Builtin.append_,zao,zba,zbn];simp only[Sem.run_bind,ay hT.ts,ay htx,Result.andThen_ok,Sem.run_pure,dy hT.inf,zaf,if_false,hx,Sem.run_ite];rw[if_pos hn];simp only[Sem.run_bind,zew,if_true,hf,Result.andThen_ok];rw[gz];simp only[Sem.run_bind,hs,Result.andThen_ok,Sem.run_pure]
theorem sN {ts tx e:TypeId}{i:TypeInfo}{z:Value}{d:TypeDesc}(hT:Kc P ts tx e i z d){ty:TypeId}{w:World}{x:Value}{a:Addr}
  (hx:(Builtin.lenOf x).run P w=.ok 0 w) (hf:(Builtin.firstCells (af P e) 0 x).run P w=.ok #[] w) :
  (Builtin.append_ #[ts,tx] ty #[.slice (some a) 0 0,x]).run P w=.ok (.slice (some a) 0 0) w:=by
 have htx:=hT.tx;have hni:=hT.ni;cases d
 case int=>exact absurd rfl (hni _)
 all_goals
  simp only[Builtin.append_,zao,zba,zbn];simp only[Sem.run_bind,ay hT.ts,ay htx,Result.andThen_ok,Sem.run_pure,dy hT.inf,zaf,if_false,hx];simp[hf,storeCells]
theorem sO {ts tx e:TypeId}{i:TypeInfo}{z:Value}{d:TypeDesc}(hT:Kc P ts tx e i z d){ty:TypeId}{w:World}{b o len cap n:Nat}{x:Value}{nw:List Value}(hl:nw.length=n*af P e)
  (hx:(Builtin.lenOf x).run P w=.ok n w) (hf:(Builtin.firstCells (af P e) n x).run P w=.ok nw.toArray w) (hn:len+n<=cap) (hv:∀v∈nw,vj v=true) (hc:lP w b (o+len*af P e) nw.length) :
  (Builtin.append_ #[ts,tx] ty #[.slice (some (oU b o len cap)) len cap,x]).run P w=.ok (.slice (some (oU b o (len+n) cap)) (len+n) cap) (bp w b (o+len*af P e) nw):=by
 by_cases h0:len=0/\cap=0
 ·obtain⟨rfl,rfl⟩:=h0;obtain rfl:n=0:=by omega
  obtain rfl:nw=[]:=List.length_eq_zero_iff.1 (by rw[hl];simp);exact sN hT hx hf
 ·rw[mQ h0,mQ (by omega)];exact ic hT hx hf hn hv hc
theorem mm {ts tx e:TypeId}{i:TypeInfo}{z:Value}{d:TypeDesc}(hT:Kc P ts tx e i z d){ty:TypeId}{w:World}{x:Value}{nw:List Value}
  (hx:(Builtin.lenOf x).run P w=.ok 0 w) (hf:(Builtin.firstCells (af P e) 0 x).run P w=.ok nw.toArray w) :
  (Builtin.append_ #[ts,tx] ty #[.slice none 0 0,x]).run P w=.ok (.slice none 0 0) w:=by
 have htx:=hT.tx;have hni:=hT.ni;cases d
 case int=>exact absurd rfl (hni _)
 all_goals
  simp only[Builtin.append_,zao,zba,zbn];simp only[Sem.run_bind,ay hT.ts,ay htx,Result.andThen_ok,Sem.run_pure,dy hT.inf,zaf,if_false,hx];simp[hf]
theorem run_append_grow {ts tx e:TypeId}{i:TypeInfo}{z:Value}{d:TypeDesc}(hT:Kc P ts tx e i z d){ty:TypeId}{w:World}{base:Option Addr}{len cap n:Nat}{x:Value}{old nw:List Value}
  (hx:(Builtin.lenOf x).run P w=.ok n w) (hf:(Builtin.firstCells (af P e) n x).run P w.drew=.ok nw.toArray w.drew)
  (ho:(Builtin.firstCells (af P e) len (.slice base len cap)).run P w.drew=.ok old.toArray w.drew) (hn:cap<len+n) (hsm:len+n<=1000000) :
  ∃c rest,len+n<=c/\(Builtin.append_ #[ts,tx] ty #[.slice base len cap,x]).run P w=.ok (.slice (some ⟨w.heap.size,0,none⟩) (len+n) c) (w.drew.alloc (.cells (old++nw++rest).toArray e (0,0)))/\rest.length=(c-(len+n))*z.cells.size:=by
 have htx:=hT.tx;have hni:=hT.ni;have hcap:=tT hn;have hb:Builtin.nextslicecap (len+n) cap*i.bytes<=(16*1000000+12288)*1000000:=zdq (by omega) hT.byt
 have hmax:¬(((len+n:Nat):Int) > IntKind.i64.max/\i.bytes=0):=by
  have:IntKind.i64.max=9223372036854775807:=by decide
  rw[this];omega
 have ee:∀Z:Array Value,old.toArray++nw.toArray++Z=(old++nw++Z.toList).toArray:=fun Z=>by apply Array.ext';simp
 have hbig:¬Builtin.nextslicecap (len+n) cap*i.bytes > 2 ^ 48:=by omega
 refine⟨(Question.appendCap (len+n) cap e).cut (w.tape w.drawn (.appendCap (len+n) cap e)),(Builtin.zeroCells z.cells ((Question.appendCap (len+n) cap e).cut (w.tape w.drawn (.appendCap (len+n) cap e))-(len+n))).toList,?_,?_,?_⟩
 ·simp only[Question.cut];omega
 ·cases d
  case int=>exact absurd rfl (hni _)
  all_goals
   simp only[Builtin.append_,zao,zba,zbn];simp only[Sem.run_bind,ay hT.ts,ay htx,Result.andThen_ok,Sem.run_pure,dy hT.inf,zaf,if_false,hx,Sem.run_ite];rw[if_neg (by omega)];simp only[Sem.run_bind,nQ hT.inf,Result.andThen_ok,Sem.run_ite,false_or,if_neg hmax,if_neg hbig];simp only[Sem.run_bind,run_choose,Question.forced,zaf,if_false,Result.andThen_ok,run_askRoom];have e1:({ w with drawn:=w.drawn+1 }:World)=w.drew:=rfl;simp only[e1,Sem.run_pure,Result.andThen_ok,nQ hT.inf,zew,if_true,ho,hf,run_askRoom,Sem.run_bind,zeroValue,hT.ZC,newRow,run_newObj,ee];rfl
 ·simp[Builtin.zeroCells]
end
end Go.aK
namespace Go.aK
open Go.RowKit
theorem tU (sz:Nat):∀{ls:List (List AV)},yS sz ls=true->even sz ls/\flat ls.flatten=true
 | [],_=>⟨fun l hl=>by simp at hl,rfl⟩
 |l::ls,h=>by
  have h:Bool.rec (motive:=fun _=>Bool) false (yS sz ls) (Nat.beq l.length sz&&flat l)=true:=h;cases hb:(Nat.beq l.length sz&&flat l)with
  |false=>rw[hb]at h;cases h
  |true =>
   rw[hb]at h;rw[za]at hb;obtain⟨h1,h2⟩:=tU sz h;refine⟨fun x hx=>?_,by rw[zcc];exact rY hb.2 h2⟩;rcases List.mem_cons.1 hx with rfl|hx
   ·exact aj hb.1
   ·exact h1 x hx
def tV (l n:Nat):List (List AV):=(bytesOf l n).map fun b=>[.int .u8 (.ofNat b.toNat)]
theorem nj:∀(l n:Nat)(acc:List (List AV))(k:List (List AV)->Rs),kP l n acc k=k (tV l n++acc)
 |0,n,acc,k=>rfl
 |l+1,n,acc,k=>by
  show (bo (Nat.mod n 256) fun b=>bo (Nat.div n 256) fun n=>kP l n ([.int .u8 (.ofNat b)]::acc) k)=_;rw[aM,aM,nj l];unfold tV;simp only[bytesOf,zar,zal,zdo,zbd,zeh,zcz];congr 3;show [AV.int .u8 (.ofNat (n%256))]=[AV.int .u8 (.ofNat (UInt8.ofNat (n%256)).toNat)];rw[zdl];congr 3;omega
structure He (P:Program) (sz:Nat) (v:AV) (ls:List (List AV)) (ι:En) (w:World):Prop where
 even:even sz ls
 len:(Builtin.lenOf (ak ι v)).run P w=.ok ls.length w
 cells:(Builtin.firstCells sz ls.length (ak ι v)).run P w=.ok (aq ι ls.flatten).toArray w
theorem tW {P:Program}{hp:Tr AO}{sz:Nat}{v:AV}{k:List (List AV)->Rs}(h:lI hp sz v k=.ok):∃ls,k ls=.ok/\∀B w0 ι w,Core B w0 ι hp w->He P sz v ls ι w:=by
 unfold lI at h;split at h
 ·exact⟨[],h,fun B w0 ι w hc=>⟨fun l hl=>by simp at hl,by simp[ak,Builtin.lenOf],by simp[ak,aq,Builtin.firstCells]⟩⟩
 ·rename_i id off len cap;obtain⟨ls,h,hl,hr⟩:=hO _ _ _ _ _ _ h;refine⟨ls,h,fun B w0 ι w hc=>?_⟩;obtain⟨h1,h2⟩:=hr B w0 ι w hc;refine⟨h1,by simp[ak,Builtin.lenOf,hl],?_⟩;simp only[ak,Builtin.firstCells];exact nS h2 (db h1)
 ·rename_i id off len skip;obtain⟨ls,h,hl,hr⟩:=hO _ _ _ _ _ _ h;refine⟨ls,h,fun B w0 ι w hc=>?_⟩;obtain⟨h1,h2⟩:=hr B w0 ι w hc;refine⟨h1,by simp[ak,Builtin.lenOf,hl],?_⟩;simp only[ak,Builtin.firstCells];exact nS h2 (db h1)
 ·rename_i l n;obtain⟨h1,h⟩:=aJ h;have h1:=aj h1;subst h1;rw[nj,zbg]at h;refine⟨_,h,fun B w0 ι w hc=>⟨fun x hx=>?_,?_,?_⟩⟩
  ·unfold tV at hx;obtain⟨b,_,rfl⟩:=List.mem_map.1 hx;rfl
  ·simp only[ak,Builtin.lenOf,Sem.run_pure,tV,zde];rw[show (ByteArray.mk (bytesOf l n).toArray).size=(bytesOf l n).length from by show (bytesOf l n).toArray.size=_;simp]
  ·simp only[ak,Builtin.firstCells,Sem.run_pure,tV,zde,aB];congr 1;apply Array.ext'
   have e1:((ByteArray.mk (bytesOf l n).toArray).extract 0 l).data=(bytesOf l n).toArray:=by
    rw[zeg];apply Array.ext';simp;rw[zc (by rw[aB];exact zad _)]
   rw[e1];simp only[List.map_toArray,jo];generalize bytesOf l n=bs
   induction bs with
   |nil=>rfl
   |cons b bs ih=>simp only[zal,zcc,zeh,zcz,zar];rw[<-ih];simp[ak]
 ·cases h
theorem xx {B:Nat->Prop}{w0 w:World}{ι:En}{hp:Tr AO}(hc:Core B w0 ι hp w):∀i p,hp.get i=some p->own hp p->ι.aY i<w.heap.size:=by
 intro i p hi hp';have:=hc.obj _ _ hi;cases p with
 |arr es n el c=>obtain⟨C,fz,h1,_⟩:=this;exact (Array.getElem?_eq_some_iff.1 h1).1
 |bX f e tp es n el c=>obtain⟨C,fz,h1,_⟩:=this hp';exact (Array.getElem?_eq_some_iff.1 h1).1
 |cO=>exact hp'.elim
 |map es c=>obtain⟨E,h1,_⟩:=this;exact (Array.getElem?_eq_some_iff.1 h1).1
 |iter=>exact (Array.getElem?_eq_some_iff.1 this.1).1
 |loop=>obtain⟨_,_,_,h1,_⟩:=this;exact (Array.getElem?_eq_some_iff.1 h1).1
 |gv=>exact (Array.getElem?_eq_some_iff.1 this).1
 |gone=>exact Dn this
theorem Fk {B:Nat->Prop}{w0 w:World}{ι:En}{hp:Tr AO}{nx:Pz}{sz n cap:Nat}{el:TypeId}{c:Tr (List AV)}{C:Array Value}{fz:Nat×Nat}(hw:Wf hp nx)(hc:Core B w0 ι hp w)(hb:ι.aY nx.succ=w.heap.size)(hs:ι.sh nx.succ=0)(hk:ι.kQ nx.succ=cap)
  (hn:n<=cap) (hC:cap*sz<=C.size) (hcells:eI ι C 0 sz n c) (hfz:fR fz C.size) :
  Core B w0 ι ((hp.set nx (.cO 0 true)).set nx.succ (.bX nx 0 true sz n el c)) (w.alloc (.cells C el fz)):=by
 have hw1:=GX (ep:=0) (s:=true) hw;have hc1:=GW (ep:=0) (s:=true) hw hc;have hlt:=xx hc1;have hroom:=hc.room;refine lQ hw1 hc1 (fun _=>⟨C,fz,by rw[hb];exact heap_alloc_new _ _,by rw[hs,hk];omega,by rw[hk];exact hn,by rw[hs];exact hcells,hfz⟩) (fun i o hi ho=>?_) (hc.below.alloc hc.room _) (fun k hk=>by have:=hc.room k hk;simp;omega) (by rw[hb];exact fun h=>by have:=hc.room _ h;omega) (fun i o hi ho e=>?_) (fun _ i f' e' tp' es' n' el' c' hi hl=>⟨fun e=>?_,fun e _=>?_⟩) (fun i f' e' es' n' el' c' hi hl=>⟨fun e=>?_,fun e _=>?_⟩)
 ·exact (hc1.obj i o hi).aU (fun x=>x) fun _=>Below.heap_alloc _ _ _ (hlt i o hi ho)
 ·have:=hlt i o hi ho;rw[e,hb]at this;omega
 ·rcases ah hi with ⟨_,h⟩|⟨_,h⟩
  ·cases h
  ·have:=hw.cO _ _ _ _ _ _ _ _ h;rw[<-e]at this;omega
 ·have:=hlt i _ hi hl;rw[<-e,hb]at this;omega
 ·rcases ah hi with ⟨_,h⟩|⟨_,h⟩
  ·cases h
  ·have:=hw.cO _ _ _ _ _ _ _ _ h;rw[e]at this;omega
 ·have:=hlt i _ hi hl;rw[e,hb]at this;omega
theorem Ke {hp:Tr AO}{nx:Pz}{sz n:Nat}{el:TypeId}{c:Tr (List AV)}(hw:Wf hp nx):Wf ((hp.set nx (.cO 0 true)).set nx.succ (.bX nx 0 true sz n el c)) nx.succ.succ:=by
 refine zf (s:=true) (GX hw) (Tr.bu _ _ _) (fun _ i e tp es n el c h=>?_);rcases ah h with ⟨_,h⟩|⟨_,h⟩
 ·cases h
 ·have:=hw.cO _ _ _ _ _ _ _ _ h;omega
section
variable {P:Program}{o:Oper}{tm:Tm}{hp:Tr AO}{nx:Pz}{k:AV->Tr AO->Pz->Rs}{call:bH}
theorem zK {sz n:Nat}{el:TypeId}{c:Tr (List AV)}(h:∀B w0 ι nt a w,ca ι nt tm a->Core B w0 ι hp w->∃cap C fz w1,Core B w0 ι hp w1/\w1.heap.size=w.heap.size/\(execOp a.eval o).run P w=.ok (.value (.slice (some ⟨w.heap.size,0,none⟩) n cap)) (w1.alloc (.cells C el fz)) /\
      n<=cap/\cap*sz<=C.size/\eI ι C 0 sz n c/\fR fz C.size):Gx P o tm hp nx (.bw nx.succ 0 n 0) ((hp.set nx (.cO 0 true)).set nx.succ (.bX nx 0 true sz n el c)) nx.succ.succ:=by
 refine⟨by rw[Pz.cE,Pz.cE];omega,fun hw=>Ke hw,fun B w0 nt a w ι hs=>?_⟩;obtain⟨t1,c1⟩:=hs.2 ι (ao.refl _ _);obtain⟨cap,C,fz,w1,hc1,hsz,hr,h1,h2,h3,h4⟩:=h B w0 ι nt a w t1 c1;have hag:ao nx ι (ι.at nx.succ w.heap.size 0 cap):=fun id hid=>ib ι nx.succ _ _ _ id (by rw[Pz.cE];omega);refine⟨_,_,_,hag,.inl hr,fun ι' hι=>?_⟩;obtain⟨ha,hb,hsh,hkp⟩:=eR hι;have hag':ao nx ι ι':=fun id hid=>ha id (by rw[Pz.cE];omega);obtain⟨t2,c2⟩:=hs.2 ι' hag';obtain⟨cap',C',fz',w1',hc1',hsz',hr',h1',h2',h3',h4'⟩:=h B w0 ι' nt a w t2 c2;rw[hr]at hr';simp only[Result.ok.injEq,Next.value.injEq,Value.slice.injEq]at hr';obtain⟨⟨_,_,hcap⟩,hw'⟩:=hr';subst hcap;rw[hw'];refine⟨Fk hs.1 hc1' (by rw[hb,hsz']) hsh hkp h1' h2' h3' h4',?_⟩;simp[ak,hb,hsh,hkp]
end
end Go.aK
namespace Go.aK
open Go.RowKit
theorem vY {ι:En}{w:World}{id:Pz}{es n:Nat}{c:Tr (List AV)}(h:tG ι w id es n c){off len:Nat}(hl:off+len<=n*es) :
  ∃l:List Value,l.length=len/\∀j,j<len->w.cell? ⟨ι.aY id,ι.sh id+(off+j),none⟩=l[j]?:=by
 obtain⟨C,el,fz,h1,h2,h3,h4⟩:=h;refine⟨(C.toList.drop (ι.sh id+off)).take len,by rw[zag,zas,zdw];omega,fun j hj=>?_⟩;rw[nP h1,zck,if_pos hj,zbb,zcj,zbp]
theorem qj {P:Program}{w:World}{b o n sz cap len:Nat}{l:List Value}(hl:l.length=n*sz)(h:∀j,j<n*sz->w.cell? ⟨b,o+j,none⟩=l[j]?):(Builtin.firstCells sz n (.slice (some ⟨b,o,none⟩) len cap)).run P w=.ok l.toArray w:=by
 simp only[Builtin.firstCells];exact run_loadCells hl.symm (fun j hj=>h j (by omega))
theorem kV {P:Program}{w:World}{b o sz cap len:Nat}{l:List Value}(hl:l.length=len*sz)(h:∀j,j<len*sz->w.cell? ⟨b,o+j,none⟩=l[j]?):(Builtin.firstCells sz len (.slice (some (oU b o len cap)) len cap)).run P w=.ok l.toArray w:=by
 by_cases h0:len=0/\cap=0
 ·obtain⟨rfl,rfl⟩:=h0;obtain rfl:l=[]:=List.length_eq_zero_iff.1 (by rw[hl];simp);simp[Builtin.firstCells,loadCells,loadCellsFrom]
 ·rw[mQ h0];exact qj hl h
theorem sa {ι:En}{w:World}{id:Pz}{es n:Nat}{c:Tr (List AV)}(h:tG ι w id es n c){len:Nat}(hl:len<=n){C':Array Value}{base:Nat}(hC:∀i,i<len*es->C'[base+i]?=w.cell? ⟨ι.aY id,ι.sh id+i,none⟩):eI ι C' base es len c:=by
 obtain⟨C,el,fz,h1,h2,h3,h4⟩:=h;intro q hq;obtain⟨l,g1,g2,g3⟩:=h3 q (by omega);refine⟨l,g1,g2,fun r hr=>?_⟩;have hm:=zae es (zce hq);rw[zau]at hm;rw[hC _ (by omega),nP h1,g3 r hr]
section
variable {P:Program}{o:Oper}{tm:Tm}{hp:Tr AO}{nx:Pz}{k:AV->Tr AO->Pz->Rs}{call:bH}
theorem tX {c:Call}{b:Builtin}{ts tx:TypeId}{s x:Operand}(ho:o.op=.call c)(hc:c.callee=.builtin b)(ht:c.argTypes.toList=[ts,tx])(hx:c.args.toList=[s,x]){a:Act}{w:World}{f:Array TypeId->TypeId->Array Value->Sem Value}
  (hb:∀ats ty cs as,builtin b ats ty cs as=(do pure (.value (<-f ats ty as)))):(execOp a.eval o).run P w=((f #[ts,tx] o.type #[a.eval s,a.eval x]).run P w).andThen fun v w'=>.ok (.value v) w':=by
 have hargs:c.args.map a.eval=#[a.eval s,a.eval x]:=by rw[map_mk,hx];rfl
 have hats:c.argTypes=#[ts,tx]:=by apply Array.ext';rw[ht]
 simp only[execOp,ho,resolve,hc,hargs,hats,Sem.run_bind,Sem.run_pure,Result.andThen_ok,invoke,hb]
theorem xy {c:Call}{ts tx e:TypeId}{d:TypeDesc}{s x:Operand}{z:AV}(ho:o.op=.call c)(hc:c.callee=.builtin .append)(ht:c.argTypes.toList=[ts,tx])(hx:c.args.toList=[s,x])
  (hts:P.underlying ts=some (.slice e)) (htx:P.underlying tx=some d) (hni:∀kd,d≠.int kd) (hz:zeroOf P e=some z) (hg:(Nat.ble (P.bytesOf e) 1000000&&(Nat.beq z.cells.length (af P e)&&Nat.blt 0 (af P e)))=true)
  (htail:∀(v:AV) (id:Pz) (off len skip:Nat) (ls:List (List AV)),(∀ι nt a,ca ι nt tm a->a.eval s=ak ι (.bw id off len skip))->(∀ι nt a,ca ι nt tm a->a.eval x=ak ι v)->(∀B w0 ι w,Core B w0 ι hp w->He P (af P e) v ls ι w) ->
   yS (af P e) ls=true->sZ hp nx e (af P e) (.bw id off len skip) ls k=.ok->jT P o tm hp nx k)
  (h:((cQ s).run tm fun s=>(cQ x).run tm fun x=>lI hp (af P e) x fun ls=>sZ hp nx e (af P e) s ls k)=.ok):jT P o tm hp nx k:=by
 obtain⟨sv,h,hsv⟩:=aQ h;obtain⟨xv,h,hxv⟩:=aQ h;obtain⟨ls,h,hsrc⟩:=tW (P:=P) h;obtain⟨i,zv,q1,q2,q3,q4⟩:=cG hz;simp only[za]at hg;obtain⟨g1,g2,g3⟩:=hg;have g1:=aN g1;have g2:=aj g2;have g3:=ax g3;have hbytes:P.bytesOf e=i.bytes:=by unfold Program.bytesOf;rw[q1];rfl
 have hT:Kc P ts tx e i zv d:=⟨hts,htx,hni,q1,q2,by omega⟩;have hzs:∀ι:En,zv.cells.size=af P e:=fun ι=>by rw[<-ei 8 zv z q3 ι,bY];simp[aw,g2]
 have hrun:∀(a:Act) (w:World),(execOp a.eval o).run P w=((Builtin.append_ #[ts,tx] o.type #[a.eval s,a.eval x]).run P w).andThen fun v w'=>.ok (.value v) w':=fun a w=>tX ho hc ht hx (fun _ _ _ _=>rfl);have h0:=h;obtain⟨hev,h⟩:=aJ h;obtain⟨he,hfl⟩:=tU _ hev;rw[aM]at h
 have grown:∀(base:AV) (len cap:Nat) (pre:List (List AV)) (c0:Tr (List AV)),(∀ι nt a,ca ι nt tm a->a.eval s=ak ι base)->gZ (len+ls.length) (af P e)=true->cap<len+ls.length ->
   (∀B w0 ι w,Core B w0 ι hp w->∃(bb:Option Addr) (old:List Value),ak ι base=.slice bb len cap/\(Builtin.firstCells (af P e) len (.slice bb len cap)).run P w.drew=.ok old.toArray w.drew/\old.length=len*af P e /\
    ∀C':Array Value,(∀i,i<len*af P e->C'[i]?=old[i]?)->(∀i,i<ls.length*af P e->C'[len*af P e+i]?=((ls.flatten)[i]?).map (ak ι))->eI ι C' 0 (af P e) (len+ls.length) c0) ->
   Gx P o tm hp nx (.bw nx.succ 0 (len+ls.length) 0) ((hp.set nx (.cO 0 true)).set nx.succ (.bX nx 0 true (af P e) (len+ls.length) e c0)) nx.succ.succ:=by
  intro base len cap pre c0 hbase hsm hcap hold;unfold gZ at hsm;rw[za]at hsm;have hsm1:=aN hsm.1;refine zK (fun B w0 ι nt a w ha hcc=>?_);obtain⟨bb,old,e1,e2,e3,e4⟩:=hold B w0 ι w hcc;have hs:=hsrc B w0 ι w hcc;have hs':=hsrc B w0 ι w.drew (iA hcc);obtain⟨cc,rest,r1,r2,r3⟩:=run_append_grow hT (ty:=o.type) (x:=ak ι xv) hs.len hs'.cells e2 hcap hsm1;refine⟨cc,(old++aq ι ls.flatten++rest).toArray,(0,0),w.drew,iA hcc,rfl,?_,r1,?_,e4 _ (fun i hi=>?_) (fun i hi=>?_),Or.inl rfl⟩
  ·rw[hrun,hbase ι nt a ha,hxv ι nt a ha,e1,r2];rfl
  ·rw[zee,zak,zak,e3,aw,db he,r3,hzs ι,<-zbh,<-zbh];exact zea (by congr 1;omega)
  ·rw[zao,zbd,zat (by omega)]
  ·rw[zao,zbd,zax (by omega),e3,zcu,zat (by rw[aw,db he];exact hi),bx]
 have nwone:∀ι:En,∀v∈aq ι ls.flatten,vj v=true:=fun ι=>jx ι _ hfl;cases sv with
 |ab =>
  rcases bW h with ⟨hm,h⟩|⟨hm,h⟩
  ·have hm:=aj hm
   have key:gK P o tm hp .ab:=fun B w0 ι nt a w ha hcc=>by
    have hs:=hsrc B w0 ι w hcc;rw[hrun,hsv ι nt a ha,hxv ι nt a ha];simp only[ak];have e1:=hs.len;have e2:=hs.cells;rw[hm]at e1 e2;rw[mm hT e1 e2];rfl
   exact (bJ key h).to
  ·obtain⟨hsm,h⟩:=aJ h;unfold grow at h;rw[aM,lR,cW,cW]at h;have hm:=qR hm;have:=grown .ab 0 0 [] (lay ls 0 .e) (fun ι nt a ha=>hsv ι nt a ha) (by rw[zap];exact hsm) (by omega) (fun B w0 ι w hcc=>⟨none,[],rfl,by simp[Builtin.firstCells],by simp,fun C' _ hn=>gT (C:=C') (iT _ _ _ _ _) he (fun i hi=>rfl) (fun i hi=>by rw[zap];exact hn i hi)⟩);rw[zap]at this;exact this.to h
 |slice id off len cap =>
  simp only[aM]at h;rcases bW h with ⟨hb,h⟩|⟨hb,h⟩
  ·have hb:=aN hb;obtain⟨hp1,h,hf1,_,hput⟩:=ku _ _ _ _ _ _ h
   have key:Fg P o tm hp nx (.slice id off (len+ls.length) cap) hp1:=by
    refine⟨hput.1 nx,fun B w0 ι nt a w hw ha hcc=>?_⟩;obtain⟨c1,c2⟩:=hput.2 B w0 ι w nx hw hcc;have hs:=hsrc B w0 ι w hcc;refine⟨_,_,.inl ?_,rfl,c1⟩;rw[hrun,hsv ι nt a ha,hxv ι nt a ha];simp only[ak];have:=ic hT (ty:=o.type) (b:=ι.aY id) (o:=ι.sh id+off) (cap:=cap) hs.len hs.cells hb (nwone ι) (by rw[aw,zbp (ι.sh id) off];exact c2);rw[zbp (ι.sh id) off]at this;rw[this];rfl
   exact key.Ff.to h
  ·have hb:=BR hb;obtain⟨hsm,h⟩:=aJ h;obtain⟨es,n,c1,h,_,hrow⟩:=xl h;rcases bW h with ⟨hq,h5⟩|⟨_,h⟩
   ·simp only[za]at hq;obtain⟨a1,a2,a3⟩:=hq;have a1:=aj a1;have a2:=aj a2;have a3:=aN a3;subst a1;subst a2;unfold GN at h5;rw[aM,lR,cW,cW]at h5;refine (grown (.slice id 0 len cap) len cap [] (lay ls len c1) (fun ι nt a ha=>hsv ι nt a ha) hsm hb (fun B w0 ι w hcc=>?_)).to h5;have hr:=hrow B w0 ι w hcc;obtain⟨old,o1,o2⟩:=vY hr (off:=0) (len:=len*af P e) (by rw[zap];exact zae _ a3);refine⟨_,old,rfl,qj o1 (fun j hj=>by have:=o2 j hj;rw[zap]at this;rw[<-this];rfl),o1,fun C' h1 h2=>?_⟩;refine gT (C:=C') (sa hr a3 (fun i hi=>?_)) he (fun i hi=>rfl) (fun i hi=>by rw[zap];exact h2 i hi);rw[zap,h1 i hi,<-o2 i hi,zap]
   ·obtain⟨pre,h,hl,hpre⟩:=hO _ _ _ _ _ _ h;unfold grow at h;rw[aM,lR,cW,cW,zak,hl]at h;refine (grown (.slice id off len cap) len cap pre (lay (pre++ls) 0 .e) (fun ι nt a ha=>hsv ι nt a ha) hsm hb (fun B w0 ι w hcc=>?_)).to h;obtain⟨p1,p2⟩:=hpre B w0 ι w hcc;have hpl:pre.flatten.length=len*af P e:=by rw[db p1,hl]
    refine⟨_,aq ι pre.flatten,rfl,qj (by rw[aw,hpl]) (fun j hj=>by rw[bx,<-p2 j (by omega),zbp];rfl),by rw[aw,hpl],fun C' h1 h2=>?_⟩;have:=gT (ι:=ι) (C:=C') (C':=C') (base:=0) (c:=.e) (iT ι C' 0 (af P e) .e) (rX p1 he) (fun i hi=>rfl) (fun i hi=>?_)
    ·rw[zap,zak,hl]at this;exact this
    ·rw[zbw,zap,zap,List.flatten_append];rw[zak,hl,zbh]at hi;by_cases hlt:i<len*af P e
     ·rw[h1 i hlt,zat (by omega),bx]
     ·have:=h2 (i-len*af P e) (by omega);rw[zax (by omega),hpl,<-this];congr 1;omega
 |bw id off len skip=>exact htail xv id off len skip ls hsv hxv hsrc hev h0
 |_=>cases h
end
end Go.aK
namespace Go.aK
open Go.RowKit
theorem Hf (hp:Tr AO)(nx id f:Pz)(ep:Nat)(eZ:Bool)(es need n0:Nat)(el:TypeId)(c c':Tr (List AV))(k:AV->Tr AO->Pz->Rs) :
  yR hp nx id f ep eZ es need n0 el c c' k=k (.bw nx 0 need 0) ((eE hp id f (if eZ then ep else ep+1) es n0 el c).set nx (.bX f (if eZ then ep else ep+1) true es need el c')) nx.succ:=by
 unfold yR;rw[aM,aM,Tr.cK,Tr.cK,cW];cases eZ<;>rfl
def qk (hp:Tr AO)(id:Pz)(off len es:Nat)(ls:List (List AV))(c':Tr (List AV)):Prop :=
 ∀B w0 ι w,Core B w0 ι hp w->∀(C':Array Value) (base:Nat),(∀i,i<len*es->C'[base+i]?=w.cell? ⟨ι.aY id,ι.sh id+(off+i),none⟩) ->
  (∀i,i<ls.length*es->C'[base+(len*es+i)]?=((ls.flatten)[i]?).map (ak ι))->eI ι C' base es (len+ls.length) c'
section
variable {hp:Tr AO}{nx id f:Pz}{ep ep' es n len skip m:Nat}{eZ s0:Bool}{el:TypeId}{c c':Tr (List AV)}{ls:List (List AV)}
theorem tY (hw:Wf hp nx)(ho:hp.get id=some (.bX f ep eZ es n el c))(hf:hp.get f=some (.cO ep s0))(hep:(ep'=ep/\eZ=true/\skip+len=n)∨ep'=ep+1)(hn0:skip+len<=n)(hgt:n<skip+(len+ls.length))
  (he:even es ls) (htree:qk hp id (skip*es) len es ls c') {B:Nat->Prop} {w0 w:World} {ι:En} (hc:Core B w0 ι hp w) (hfit:len+ls.length<=ι.kQ id-skip) (hb:ι.aY nx=ι.aY id) (hs:ι.sh nx=ι.sh id+skip*es) (hk:ι.kQ nx=ι.kQ id-skip) :
  Core B w0 ι ((eE hp id f ep' es (skip+len) el c).set nx (.bX f ep' true es (len+ls.length) el c')) (bp w (ι.aY id) (ι.sh id+(skip*es+len*es)) (aq ι ls.flatten))/\lP w (ι.aY id) (ι.sh id+(skip*es+len*es)) (ls.length*es):=by
 have hep2:ep'=ep∨ep'=ep+1:=hep.imp (·.1) (fun x=>x);have hlv:live hp f ep:=⟨_,hf⟩;have hw1:=xq (n0:=skip+len) hw ho hf hep2;have hc1:=tJ (n0:=skip+len) hw ho hf hep2 hn0 hc;obtain⟨C,fz,g1,g2,g3,g4,g5⟩:=hc.obj _ _ ho hlv;have hflen:(aq ι ls.flatten).length=ls.length*es:=by rw[aw,db he]
 have hkap:skip+(len+ls.length)<=ι.kQ id:=by omega
 have hroom:ι.sh id+(skip*es+len*es)+ls.length*es<=C.size:=by
  have:=zae es hkap;rw[zbh,zbh]at this;omega
 have hput:∀i,i<skip*es+len*es->(ef C (ι.sh id+(skip*es+len*es)) (aq ι ls.flatten))[ι.sh id+i]?=C[ι.sh id+i]?:=fun i hi=>by
  rw[dF _ _ _ _ (by rw[hflen];exact hroom),if_neg (by omega)]
 have hblk1:∀i o,i≠id->(eE hp id f ep' es (skip+len) el c).get i=some o->own (eE hp id f ep' es (skip+len) el c) o->ι.aY i=ι.aY id->gR o=some f:=by
  intro i o hi hg hown e;have hgid:(eE hp id f ep' es (skip+len) el c).get id=some (.bX f ep' false es (skip+len) el c):=Tr.bu _ _ _
  have hlid:live (eE hp id f ep' es (skip+len) el c) f ep':=by
   refine⟨false,?_⟩;have hne:f≠id:=fun e=>by rw[e,ho]at hf;cases hf
   unfold eE;rw[Tr.dw hne,Tr.bu]
  obtain⟨g,e1,e2⟩:=hc1.sep i id o _ hi hg hgid hown hlid e;cases e2;exact e1
 have hrest:∀i f' e' tp' es' n' el' c'',i≠id->(eE hp id f ep' es (skip+len) el c).get i=some (.bX f' e' tp' es' n' el' c'')->live (eE hp id f ep' es (skip+len) el c) f' e'->f'=f->tp'=false/\(ι.aY i=ι.aY id->ι.sh i+n'*es'<=ι.sh id+(skip*es+len*es)):=by
  intro i f' e' tp' es' n' el' c'' hi hg hl hff;obtain⟨r1,r2⟩:=kT hw ho hf hep hc hi hg hl hff;refine⟨r1,fun e=>?_⟩;have:=r2 e (by omega);rw[zbh]at this;exact this
 refine⟨lQ hw1 hc1 (fun _=>?_) (fun i o hg hown=>?_) (eN _ _ _ _ (hc.base _ _ ho hlv) hc.below) (fun k hk=>by rw[iL];exact hc.room k hk) (by rw[hb];exact hc.base _ _ ho hlv) (fun i o hg hown e=>?_) (fun _ i f' e' tp' es' n' el' c'' hg hl=>⟨fun e=>?_,fun e _=>?_⟩) (fun i f' e' es' n' el' c'' hg hl=>⟨fun e=>?_,fun e _=>?_⟩),kS g1 hroom g5⟩
 ·refine⟨_,fz,by rw[hb];exact c9 _ _ _ _ _ _ _ g1,?_,by rw[hk];exact hfit,?_,by rw[bq];exact g5⟩
  ·rw[bq,hs,hk];have:ι.kQ id*es=skip*es+(ι.kQ id-skip)*es:=by rw[<-zbh];congr 1;omega
   omega
  ·rw[hs];refine htree B w0 ι w hc _ _ (fun i hi=>?_) (fun i hi=>?_)
   ·rw[zbp,hput _ (by omega),nP g1]
   ·rw[dF _ _ _ _ (by rw[hflen];exact hroom),if_pos (by omega),bx];congr 2;omega
 ·by_cases hi:i=id
  ·subst hi
   have:o=.bX f ep' false es (skip+len) el c:=by
    rcases cq hg with ⟨_,h⟩|⟨h,_⟩|⟨h,_⟩
    ·exact h
    ·exact absurd rfl h
    ·exact absurd rfl h
   subst this;intro _;refine⟨_,fz,c9 _ _ _ _ _ _ _ g1,by rw[bq];exact g2,by omega,fun q hq=>?_,by rw[bq];exact g5⟩;obtain⟨l,l1,l2,l3⟩:=g4 q (by omega);refine⟨l,l1,l2,fun r hr=>?_⟩;have hm:=zae es (zce hq);rw[zau,zbh]at hm;rw[hput _ (by omega)];exact l3 r hr
  ·by_cases e:ι.aY i=ι.aY id
   ·have hfo:=hblk1 i o hi hg hown e;cases o with
    |bX f' e' tp' es' n' el' c'' =>
     cases hfo;obtain⟨_,r2⟩:=hrest i _ _ _ _ _ _ _ hi hg hown rfl;have r2:=r2 e;intro _;obtain⟨C2,fz2,k1,k2,k3,k4,k5⟩:=hc1.obj _ _ hg hown;rw[e,g1]at k1;cases k1;refine⟨_,fz,by rw[e];exact c9 _ _ _ _ _ _ _ g1,by rw[bq];exact k2,k3,fun q hq=>?_,by rw[bq];exact k5⟩;obtain⟨l,l1,l2,l3⟩:=k4 q hq;refine⟨l,l1,l2,fun r hr=>?_⟩;have hm:=zae es' (zce hq);rw[zau]at hm;rw[dF _ _ _ _ (by rw[hflen];exact hroom),if_neg (by omega)];exact l3 r hr
    |_=>cases hfo
   ·exact (hc1.obj _ _ hg).aU (fun x=>x) fun _=>gS _ _ _ _ _ e
 ·rw[hb]at e;by_cases hi:i=id
  ·subst hi;rcases cq hg with ⟨_,h⟩|⟨h,_⟩|⟨h,_⟩
   ·rw[h];rfl
   ·exact absurd rfl h
   ·exact absurd rfl h
  ·exact hblk1 i o hi hg hown e
 ·by_cases hi:i=id
  ·subst hi;rcases cq hg with ⟨_,h⟩|⟨h,_⟩|⟨h,_⟩
   ·cases h;rfl
   ·exact absurd rfl h
   ·exact absurd rfl h
  ·exact (hrest i _ _ _ _ _ _ _ hi hg hl e.symm).1
 ·rw[hb]at e;rw[hs];by_cases hi:i=id
  ·subst hi;rcases cq hg with ⟨_,h⟩|⟨h,_⟩|⟨h,_⟩
   ·cases h;rw[zbh,zbh];omega
   ·exact absurd rfl h
   ·exact absurd rfl h
  ·have hfo:=hblk1 i _ hi hg hl e.symm;have:=(hrest i _ _ _ _ _ _ _ hi hg hl (Option.some.inj hfo)).2 e.symm;rw[zbh];omega
 ·by_cases hi:i=id
  ·subst hi;rcases cq hg with ⟨_,h⟩|⟨h,_⟩|⟨h,_⟩
   ·cases h
   ·exact absurd rfl h
   ·exact absurd rfl h
  ·exact absurd (hrest i _ _ _ _ _ _ _ hi hg hl e).1 (by decide)
 ·rw[hb]at e;by_cases hi:i=id
  ·subst hi;rcases cq hg with ⟨_,h⟩|⟨h,_⟩|⟨h,_⟩
   ·cases h
   ·exact absurd rfl h
   ·exact absurd rfl h
  ·have hfo:=hblk1 i _ hi hg hl e;exact absurd (hrest i _ _ _ _ _ _ _ hi hg hl (Option.some.inj hfo)).1 (by decide)
theorem Hg (hw:Wf hp nx)(ho:hp.get id=some (.bX f ep eZ es n el c))(hf:hp.get f=some (.cO ep s0))(hep:(ep'=ep/\eZ=true/\skip+len=n)∨ep'=ep+1)(hn0:skip+len<=n)
  {B:Nat->Prop} {w0 w:World} {ι:En} (hc:Core B w0 ι hp w) {C:Array Value} {cap:Nat} (hb:ι.aY nx=w.heap.size) (hs:ι.sh nx=0) (hk:ι.kQ nx=cap) (hcap:m<=cap) (hC:cap*es<=C.size) (hcells:eI ι C 0 es m c') :
  Core B w0 ι ((eE hp id f ep' es (skip+len) el c).set nx (.bX f ep' true es m el c')) (w.alloc (.cells C el (0,0))):=by
 have hep2:ep'=ep∨ep'=ep+1:=hep.imp (·.1) (fun x=>x);have hw1:=xq (n0:=skip+len) hw ho hf hep2;have hc1:=tJ (n0:=skip+len) hw ho hf hep2 hn0 hc;have hlt:=xx hc1;have hroom:=hc.room;refine lQ hw1 hc1 (fun _=>⟨C,(0,0),by rw[hb];exact heap_alloc_new _ _,by rw[hs,hk];omega,by rw[hk];exact hcap,by rw[hs];exact hcells,Or.inl rfl⟩) (fun i o hi ho'=>?_) (hc.below.alloc hc.room _) (fun k hk=>by have:=hc.room k hk;simp;omega) (by rw[hb];exact fun h=>by have:=hc.room _ h;omega) (fun i o hi ho' e=>?_) (fun _ i f' e' tp' es' n' el' c'' hg hl=>⟨fun e=>?_,fun e _=>?_⟩) (fun i f' e' es' n' el' c'' hg hl=>⟨fun e=>?_,fun e _=>?_⟩)
 ·exact (hc1.obj i o hi).aU (fun x=>x) fun _=>Below.heap_alloc _ _ _ (hlt i o hi ho')
 ·have:=hlt i o hi ho';rw[e,hb]at this;omega
 ·by_cases hi:i=id
  ·subst hi;rcases cq hg with ⟨_,h⟩|⟨h,_⟩|⟨h,_⟩
   ·cases h;rfl
   ·exact absurd rfl h
   ·exact absurd rfl h
  ·exact (kT hw ho hf hep hc hi hg hl e.symm).1
 ·have:=hlt i _ hg hl;rw[<-e,hb]at this;omega
 ·by_cases hi:i=id
  ·subst hi;rcases cq hg with ⟨_,h⟩|⟨h,_⟩|⟨h,_⟩
   ·cases h
   ·exact absurd rfl h
   ·exact absurd rfl h
  ·exact absurd (kT hw ho hf hep hc hi hg hl e).1 (by decide)
 ·have:=hlt i _ hg hl;rw[e,hb]at this;omega
theorem Du (hw:Wf hp nx)(ho:hp.get id=some (.bX f ep eZ es n el c))(hf:hp.get f=some (.cO ep s0))(hep:ep'=ep∨ep'=ep+1){n0:Nat}{tp:Bool}:Wf ((eE hp id f ep' es n0 el c).set nx (.bX f ep' tp es m el c')) nx.succ:=by
 have hne:f≠id:=fun e=>by rw[e,ho]at hf;cases hf
 refine zf (s:=false) (xq hw ho hf hep) ?_ (fun h=>by cases h);unfold eE;rw[Tr.dw hne,Tr.bu]
end
end Go.aK
namespace Go.aK
open Go.RowKit
section
variable {P:Program}{o:Oper}{tm:Tm}{hp:Tr AO}{nx:Pz}{k:AV->Tr AO->Pz->Rs}{call:bH}
theorem Fl {id f:Pz}{ep es n len:Nat}{eZ s0:Bool}{el:TypeId}{c:Tr (List AV)}{ls:List (List AV)}(ho:hp.get id=some (.bX f ep eZ es n el c))(hf:hp.get f=some (.cO ep s0))(hl:len<=n)(he:even es ls):qk hp id (0*es) len es ls (lay ls len c):=by
 intro B w0 ι w hc C' base h1 h2;obtain⟨C,fz,g1,g2,g3,g4,g5⟩:=hc.obj _ _ ho ⟨_,hf⟩;have hrow:tG ι w id es n c:=⟨C,el,fz,g1,zay (zev (zae _ g3) _) g2,g4,g5⟩;refine gT (C:=C') (sa hrow hl (fun i hi=>?_)) he (fun i hi=>rfl) h2;rw[h1 i hi];congr 2;omega
theorem Fm {id:Pz}{off len es:Nat}{ls pre:List (List AV)}(hl:pre.length=len)(hpre:∀B w0 ι w,Core B w0 ι hp w->even es pre/\p7 ι w id off pre.flatten)(he:even es ls):qk hp id off len es ls (lay (pre++ls) 0 .e):=by
 intro B w0 ι w hc C' base h1 h2;obtain⟨p1,p2⟩:=hpre B w0 ι w hc;have hpl:pre.flatten.length=len*es:=by rw[db p1,hl]
 have:=gT (ι:=ι) (C:=C') (C':=C') (base:=base) (c:=.e) (iT ι C' base es .e) (rX p1 he) (fun i hi=>rfl) (fun i hi=>?_)
 ·rw[zap,zak,hl]at this;exact this
 ·rw[zbw,zap,List.flatten_append];rw[zak,hl,zbh]at hi;by_cases hlt:i<len*es
  ·rw[h1 i hlt,zat (by omega),p2 i (by omega)]
  ·have:=h2 (i-len*es) (by omega);rw[zax (by omega),hpl,<-this];congr 1;omega
theorem zL {c:Call}{ts tx e:TypeId}{d:TypeDesc}{s x:Operand}{z:AV}(ho:o.op=.call c)(hc:c.callee=.builtin .append)(ht:c.argTypes.toList=[ts,tx])(hx:c.args.toList=[s,x])
  (hts:P.underlying ts=some (.slice e)) (htx:P.underlying tx=some d) (hni:∀kd,d≠.int kd) (hz:zeroOf P e=some z) (hg:(Nat.ble (P.bytesOf e) 1000000&&(Nat.beq z.cells.length (af P e)&&Nat.blt 0 (af P e)))=true)
  (v:AV) (id:Pz) (off len skip:Nat) (ls:List (List AV)) (hsv:∀ι nt a,ca ι nt tm a->a.eval s=ak ι (.bw id off len skip)) (hxv:∀ι nt a,ca ι nt tm a->a.eval x=ak ι v)
  (hsrc:∀B w0 ι w,Core B w0 ι hp w->He P (af P e) v ls ι w) (hev:yS (af P e) ls=true) (h:sZ hp nx e (af P e) (.bw id off len skip) ls k=.ok):jT P o tm hp nx k:=by
 obtain⟨i,zv,q1,q2,q3,q4⟩:=cG hz;simp only[za]at hg;obtain⟨g1,g2,g3⟩:=hg;have g1:=aN g1;have g2:=aj g2;have g3:=ax g3;have hbytes:P.bytesOf e=i.bytes:=by unfold Program.bytesOf;rw[q1];rfl
 have hT:Kc P ts tx e i zv d:=⟨hts,htx,hni,q1,q2,by omega⟩;have hzs:∀ι:En,zv.cells.size=af P e:=fun ι=>by rw[<-ei 8 zv z q3 ι,bY];simp[aw,g2]
 have hrun:∀(a:Act) (w:World),(execOp a.eval o).run P w=((Builtin.append_ #[ts,tx] o.type #[a.eval s,a.eval x]).run P w).andThen fun v w'=>.ok (.value v) w':=fun a w=>tX ho hc ht hx (fun _ _ _ _=>rfl);obtain⟨_,h⟩:=aJ h;obtain⟨he,hfl⟩:=tU _ hev;have nwone:∀ι:En,∀v∈aq ι ls.flatten,vj v=true:=fun ι=>jx ι _ hfl;simp only[aM]at h;obtain⟨ob,hob,h⟩:=dm h;cases ob with
 |bX f ep eZ es n el c0 =>
  obtain⟨hq,h1⟩:=aJ h;simp only[za]at hq;obtain⟨hsm,a1,a2,a3,a4⟩:=hq;have hel0:=aj a4;have a1:=aj a1;have a2:=aj a2;have a3:=aN a3;subst a1;subst a2;obtain⟨s0,hf,h2⟩:=pY h1;rcases bW h2 with ⟨hb,h3⟩|⟨hb,h3⟩
  ·have hb:=aN hb;obtain⟨hp1,h4,hf1,_,hput⟩:=ku _ _ _ _ _ _ h3
   have key:Fg P o tm hp nx (.bw id (skip*af P e) (len+ls.length) skip) hp1:=by
    refine⟨hput.1 nx,fun B w0 ι nt a w hw ha hcc=>?_⟩;obtain⟨c1,c2⟩:=hput.2 B w0 ι w nx hw hcc;have hs:=hsrc B w0 ι w hcc;obtain⟨C,fz,b1,b2,b3,b4,b5⟩:=hcc.obj _ _ hob ⟨_,hf⟩;refine⟨_,_,.inl ?_,rfl,c1⟩;rw[hrun,hsv ι nt a ha,hxv ι nt a ha];simp only[ak];have:=ic hT (ty:=o.type) (b:=ι.aY id) (o:=ι.sh id+skip*af P e) (len:=len) (cap:=ι.kQ id-skip) hs.len hs.cells (by omega) (nwone ι) (by rw[aw,zbp (ι.sh id)];exact c2);rw[zbp (ι.sh id)]at this;rw[this];rfl
   exact key.Ff.to h4
  ·have hb:=BR hb
   have fin:∀c':Tr (List AV),qk hp id (skip*af P e) len (af P e) ls c'->yR hp nx id f ep (eZ&&Nat.beq (skip+len) n) (af P e) (len+ls.length) (skip+len) el c0 c' k=.ok->jT P o tm hp nx k:=by
    intro c' htree hk;rw[Hf]at hk;unfold gZ at hsm;rw[za]at hsm;have hsm1:=aN hsm.1;generalize hep':(if (eZ&&Nat.beq (skip+len) n)=true then ep else ep+1)=ep' at hk
    have hep:(ep'=ep/\eZ=true/\skip+len=n)∨ep'=ep+1:=by
     cases ht:(eZ&&Nat.beq (skip+len) n)with
     |true=>rw[ht]at hep';rw[za]at ht;exact .inl ⟨by rw[<-hep'];rfl,ht.1,aj ht.2⟩
     |false=>rw[ht]at hep';exact .inr (by rw[<-hep'];rfl)
    have hep2:ep'=ep∨ep'=ep+1:=hep.imp (·.1) (fun x=>x);refine Gx.to (v:=.bw nx 0 (len+ls.length) 0) ⟨by rw[Pz.cE];omega,fun hw=>Du hw hob hf hep2,fun B w0 nt a w ι hs=>?_⟩ hk;obtain⟨t1,c1⟩:=hs.2 ι (ao.refl _ _);have hidlt:=hs.1.lt _ _ hob;have hsr:=hsrc B w0 ι w c1;obtain⟨C,fz,b1,b2,b3,b4,b5⟩:=c1.obj _ _ hob ⟨_,hf⟩;by_cases hfit:len+ls.length<=ι.kQ id-skip
    ·have hp1:=(tY (nx:=nx) (ι:=ι.at nx (ι.aY id) (ι.sh id+skip*af P e) (ι.kQ id-skip)) hs.1 hob hf hep a3 (by omega) he htree (hs.2 _ (ib ι nx _ _ _)).2
       (by simp[En.at,show id≠nx from fun e=>by rw[e]at hidlt;omega];exact hfit) (by simp[En.at,show id≠nx from fun e=>by rw[e]at hidlt;omega]) (by simp[En.at,show id≠nx from fun e=>by rw[e]at hidlt;omega]) (by simp[En.at,show id≠nx from fun e=>by rw[e]at hidlt;omega]))
     obtain⟨_,hcan⟩:=hp1;have eb:(ι.at nx (ι.aY id) (ι.sh id+skip*af P e) (ι.kQ id-skip)).aY id=ι.aY id:=by simp[En.at,show id≠nx from fun e=>by rw[e]at hidlt;omega]
     have es':(ι.at nx (ι.aY id) (ι.sh id+skip*af P e) (ι.kQ id-skip)).sh id=ι.sh id:=by simp[En.at,show id≠nx from fun e=>by rw[e]at hidlt;omega]
     rw[eb,es']at hcan;have hrunfit:=ic hT (ty:=o.type) (b:=ι.aY id) (o:=ι.sh id+skip*af P e) (len:=len) (cap:=ι.kQ id-skip) hsr.len hsr.cells hfit (nwone ι) (by rw[aw,db he,zbp (ι.sh id)];exact hcan);rw[zbp (ι.sh id) (skip*af P e) (len*af P e)]at hrunfit;refine⟨_,.slice (some ⟨ι.aY id,ι.sh id+skip*af P e,none⟩) (len+ls.length) (ι.kQ id-skip),bp w (ι.aY id) (ι.sh id+(skip*af P e+len*af P e)) (aq ι ls.flatten),ib ι nx (ι.aY id) (ι.sh id+skip*af P e) (ι.kQ id-skip),.inl ?_,fun ι' hι=>?_⟩
     ·rw[hrun,hsv ι nt a t1,hxv ι nt a t1];simp only[ak];rw[hrunfit];rfl
     ·obtain⟨ha,k1,k2,k3⟩:=eR hι;obtain⟨d1,d2,d3⟩:=ha id hidlt;obtain⟨t2,c2⟩:=hs.2 ι' ha;obtain⟨r1,_⟩:=tY (nx:=nx) hs.1 hob hf hep a3 (by omega) he htree c2 (by rw[d3];exact hfit) (by rw[k1,d1]) (by rw[k2,d2]) (by rw[k3,d3])
      have esame:aq ι' ls.flatten=aq ι ls.flatten:=by
       have s2:=(hsrc B w0 ι' w c2).cells;have s1:=hsr.cells;rw[(hxv ι' nt a t2).symm.trans (hxv ι nt a t1)]at s2;rw[s1]at s2;have:=Result.ok.inj s2;have h3:=congrArg Array.toList this.1;simpa using h3.symm
      rw[d1,d2,esame]at r1;refine⟨r1,?_⟩;simp[ak,k1,k2,k3]
    ·have hold:∃old:List Value,old.length=len*af P e/\∀j,j<len*af P e->w.cell? ⟨ι.aY id,ι.sh id+(skip*af P e+j),none⟩=old[j]?:=by
       have hrow:tG ι w id (af P e) n c0:=⟨C,el,fz,b1,zay (zev (zae _ b3) _) b2,b4,b5⟩;refine vY hrow ?_;rw[<-zbh];exact zae _ a3
     obtain⟨old,o1,o2⟩:=hold;have hsd:=hsrc B w0 ι w.drew (iA c1)
     obtain⟨cc,rest,r1,r2,r3⟩:=run_append_grow hT (ty:=o.type) (x:=ak ι v) (base:=some ⟨ι.aY id,ι.sh id+skip*af P e,none⟩) (len:=len) (cap:=ι.kQ id-skip) hsr.len hsd.cells
      (qj o1 (fun j hj=>by rw[zbp];exact o2 j hj)) (by omega) hsm1
     refine⟨_,.slice (some ⟨w.heap.size,0,none⟩) (len+ls.length) cc,w.drew.alloc (.cells (old++aq ι ls.flatten++rest).toArray e (0,0)),ib ι nx w.heap.size 0 cc,.inl ?_,fun ι' hι=>?_⟩
     ·rw[hrun,hsv ι nt a t1,hxv ι nt a t1];simp only[ak];rw[r2];rfl
     ·obtain⟨ha,k1,k2,k3⟩:=eR hι;obtain⟨d1,d2,d3⟩:=ha id hidlt;obtain⟨t2,c2⟩:=hs.2 ι' ha
      have esame:aq ι' ls.flatten=aq ι ls.flatten:=by
       have s2:=(hsrc B w0 ι' w c2).cells;have s1:=hsr.cells;rw[(hxv ι' nt a t2).symm.trans (hxv ι nt a t1)]at s2;rw[s1]at s2;have:=Result.ok.inj s2;have h3:=congrArg Array.toList this.1;simpa using h3.symm
      have hel:el=e:=hel0;subst hel;refine⟨Hg (m:=len+ls.length) hs.1 hob hf hep a3 (iA c2) k1 k2 k3 r1 ?_ (htree B w0 ι' w c2 _ 0 (fun i hi=>?_) (fun i hi=>?_)),by simp[ak,k1,k2,k3]⟩
      ·rw[zee,zak,zak,o1,aw,db he,r3,hzs ι,<-zbh,<-zbh];exact zea (by congr 1;omega)
      ·rw[zap,zao,zbd,zat (by omega),<-o2 i hi,d1,d2]
      ·rw[zap,zao,zbd,zax (by omega),o1,zcu,zat (by rw[aw,db he];exact hi),<-esame,bx]
   rcases bW h3 with ⟨hs0,h4⟩|⟨_,h4⟩
   ·have hs0:=aj hs0;subst hs0;rw[lR]at h4;exact fin _ (Fl hob hf (by omega) he) h4
   ·obtain⟨pre,h5,hl,hpre⟩:=hO _ _ _ _ _ _ h4;rw[lR]at h5;exact fin _ (Fm hl hpre he) h5
 |_=>cases h
end
end Go.aK
namespace Go.aK
open Go.RowKit
section
variable {hp:Tr AO}{id:Pz}{x y:AO}
theorem ql {nx:Pz}(hw:Wf hp nx)(ho:hp.get id=some x)(hx1:gR x=none)(hx2:∀e s,x≠.cO e s)(hy1:gR y=none)(hy2:∀e s,y≠.cO e s):Wf (hp.set id y) nx:=by
 refine⟨?_,?_,?_,?_⟩
 ·intro i o h;rcases ah h with ⟨hi,_⟩|⟨_,h⟩
  ·exact hi▸hw.lt _ _ ho
  ·exact hw.lt _ _ h
 ·intro i f e tp es n el c h;rcases ah h with ⟨_,h⟩|⟨_,h⟩
  ·rw[h]at hy1;cases hy1
  ·exact hw.cO _ _ _ _ _ _ _ _ h
 ·intro i f e tp es n el c e' s h h';rcases ah h with ⟨_,h⟩|⟨_,h⟩
  ·rw[h]at hy1;cases hy1
  ·rcases ah h' with ⟨_,h'⟩|⟨_,h'⟩
   ·exact absurd h' (hy2 _ _)
   ·exact hw.ep _ _ _ _ _ _ _ _ _ _ h h'
 ·intro f e i i' tp es n el c tp' es' n' el' c' h h1 h2;rcases ah h with ⟨_,h⟩|⟨_,h⟩
  ·exact absurd h (hy2 _ _)
  ·rcases ah h1 with ⟨_,h1⟩|⟨_,h1⟩
   ·rw[h1]at hy1;cases hy1
   ·rcases ah h2 with ⟨_,h2⟩|⟨_,h2⟩
    ·rw[h2]at hy1;cases hy1
    ·exact hw.iw _ _ _ _ _ _ _ _ _ _ _ _ _ _ h h1 h2
theorem Fo (hx1:gR x=none)(hx2:∀e s,x≠.cO e s)(hp:Tr AO):own hp x:=by
 cases x with
 |bX=>cases hx1
 |cO e s=>exact absurd rfl (hx2 e s)
 |_=>trivial
theorem kW {B:Nat->Prop}{w0 w w':World}{ι:En}(ho:hp.get id=some x)(hx1:gR x=none)(hx2:∀e s,x≠.cO e s)(hy1:gR y=none)(hy2:∀e s,y≠.cO e s)(hc:Core B w0 ι hp w)(hbelow:Kept B w0 w')(hroom:∀k,B k->k<w'.heap.size)
  (hother:∀b,b≠ι.aY id->w'.heap[b]?=w.heap[b]?) (hob:jk ι (hp.set id y) w' id y):Core B w0 ι (hp.set id y) w':=by
 have hown:∀o,own (hp.set id y) o->own hp o:=by
  intro o h;cases o with
  |bX f e tp es n el c =>
   obtain⟨s,hs⟩:=h;rcases ah hs with ⟨_,h'⟩|⟨_,h'⟩
   ·exact absurd h' (hy2 e s)
   ·exact⟨s,h'⟩
  |_=>exact h
 have hxo:=Fo hx1 hx2 hp
 have hne:∀i o,i≠id->hp.get i=some o->own hp o->ι.aY i≠ι.aY id:=by
  intro i o hi h ho' e;obtain⟨f,_,h2⟩:=hc.sep i id o x hi h ho ho' hxo e;rw[hx1]at h2;cases h2
 refine⟨hbelow,hroom,?_,?_,?_,?_⟩
 ·intro i o h;rcases ah h with ⟨hi,rfl⟩|⟨hi,h⟩
  ·rw[hi];exact hob
  ·exact (hc.obj _ _ h).aU (hown o) fun h2=>hother _ (hne i o hi h (hown o h2))
 ·intro i o h h2;rcases ah h with ⟨hi,_⟩|⟨hi,h⟩
  ·rw[hi];exact hc.base _ _ ho hxo
  ·exact hc.base _ _ h (hown o h2)
 ·intro i i' o o' hii h h' h2 h2' e;rcases ah h with ⟨hi,_⟩|⟨hi,h⟩
  ·rcases ah h' with ⟨hi',_⟩|⟨hi',h'⟩
   ·exact absurd (hi.trans hi'.symm) hii
   ·rw[hi]at e;exact absurd e.symm (hne i' o' hi' h' (hown o' h2'))
  ·rcases ah h' with ⟨hi',_⟩|⟨hi',h'⟩
   ·rw[hi']at e;exact absurd e (hne i o hi h (hown o h2))
   ·exact hc.sep _ _ _ _ hii h h' (hown o h2) (hown o' h2') e
 ·intro i i' f e es n el c f' e' tp' es' n' el' c' hii h h' hl hl';rcases ah h with ⟨_,h⟩|⟨_,h⟩
  ·rw[h]at hy1;cases hy1
  ·rcases ah h' with ⟨_,h'⟩|⟨_,h'⟩
   ·rw[h']at hy1;cases hy1
   ·exact hc.eZ _ _ _ _ _ _ _ _ _ _ _ _ _ _ _ hii h h' (hown (.bX f e true es n el c) hl) (hown (.bX f' e' tp' es' n' el' c') hl')
end
end Go.aK
namespace Go.aK
open Go.RowKit
section
variable {P:Program}{call:bH}{r:Option Nat}
def fS (B:Nat->Prop)(w0:World)(nt:Nat)(ι:En)(nx:Pz)(K:Tm->Tr AO->Pz->Rs)(next:Act->World->Prop):Prop :=
 ∀tm' hp' nx' ι2 a' w',K tm' hp' nx'=.ok->nx.num<=nx'.num->ao nx ι ι2->Sat B w0 nt tm' hp' nx' ι2 a' w'->next a' w'
theorem fS.oC {B:Nat->Prop}{w0:World}{nt:Nat}{ι ι2:En}{nx nx':Pz}{K:Tm->Tr AO->Pz->Rs}{next:Act->World->Prop}(h:fS B w0 nt ι nx K next)(hle:nx.num<=nx'.num)(ha:ao nx ι ι2):fS B w0 nt ι2 nx' K next :=
 fun tm' hp' nx'' ι3 a' w' hk hle' ha' hs=>h tm' hp' nx'' ι3 a' w' hk (zay hle hle') (ha.trans ha' hle) hs
theorem tZ (xs:Array Value)(i j:Nat)(v d:Value)(h:i<xs.size):(xs.setIfInBounds i v).getD j d=if j=i then v else xs.getD j d:=by
 simp only[zah,zdn];by_cases hj:i=j
 ·subst hj;simp[h]
 ·rw[if_neg hj,if_neg (fun e=>hj e.symm)]
theorem kX {ι:En}{nt:Nat}{tm:Tm}{a:Act}{t:Nat}{v:AV}{cv:Value}(h:ca ι nt tm a)(ht:t<nt)(hv:cv=ak ι v):ca ι nt (tm.put t v) (a.put (some t) cv):=by
 refine⟨by simp[Act.put,h.size],by rw[Tm.tF];exact h.defers,fun j=>?_⟩;simp only[Act.put];rw[tZ _ _ _ _ _ (by rw[h.size];exact ht)];by_cases hj:j=t
 ·subst hj;rw[if_pos rfl,Tm.gP,hv]
 ·rw[if_neg hj,Tm.jw hj];exact h.val j
theorem nT (a b:Bool):oQ a b=(a==b):=by cases a<;>cases b<;>rfl
def oD (P:Program)(call:bH):Prop:=∀o tm hp nx k,(yW P o).run call tm hp nx k=.ok->jT P o tm hp nx k
theorem Hh {o:Oper}{b:OB}{nt:Nat}{tm:Tm}{hp:Tr AO}{nx:Pz}{K:Tm->Tr AO->Pz->Rs}(hb:∀k,b.run call tm hp nx k=.ok->jT P o tm hp nx k)(h:(lK nt o.dst b).run call tm hp nx K=.ok)
  {B:Nat->Prop} {w0 w:World} {ι:En} {a:Act} (hs:Sat B w0 nt tm hp nx ι a w) {next:Act->World->Prop} (hn:fS B w0 nt ι nx K next):dU P (execOp a.eval o) w (fun cv w'=>next (a.put o.dst cv) w'):=by
 unfold lK at h;cases hd:o.dst with
 |none =>
  rw[hd]at h;refine hb _ h B w0 nt a w ι hs _ (fun v hp' nx' ι2 cv w' hk hw hle ha hc=>?_);refine hn tm hp' nx' ι2 a w' hk hle ha ⟨hw,fun ι' hι=>⟨?_,(hc ι' hι).1⟩⟩;exact (hs.2 ι' (ha.trans hι hle)).1
 |some t =>
  rw[hd]at h;simp only at h;cases hlt:Nat.blt t nt with
  |false=>rw[hlt]at h;cases h
  |true =>
   rw[hlt]at h;refine hb _ h B w0 nt a w ι hs _ (fun v hp' nx' ι2 cv w' hk hw hle ha hc=>?_);have hk:=(nN t tm v fun tm=>K tm hp' nx').symm.trans hk;refine hn _ hp' nx' ι2 _ w' hk hle ha ⟨hw,fun ι' hι=>?_⟩;obtain⟨c1,c2⟩:=hc ι' hι;exact⟨kX (hs.2 ι' (ha.trans hι hle)).1 (ax hlt) c2,c1⟩
theorem Kg {o:Oper}{nt:Nat}{tm:Tm}{hp:Tr AO}{nx:Pz}{K:Tm->Tr AO->Pz->Rs}(h:(lK nt o.dst (dT fun _ k=>k aG)).run call tm hp nx K=.ok)
  {B:Nat->Prop} {w0 w:World} {ι:En} {a:Act} (hs:Sat B w0 nt tm hp nx ι a w) {next:Act->World->Prop} (hn:fS B w0 nt ι nx K next):next (a.put o.dst undef) w:=by
 unfold lK at h;cases hd:o.dst with
 |none=>rw[hd]at h;exact hn tm hp nx ι a w h (zad _) (ao.refl _ _) hs
 |some t =>
  rw[hd]at h;simp only at h;cases hlt:Nat.blt t nt with
  |false=>rw[hlt]at h;cases h
  |true =>
   rw[hlt]at h;have h:(ve t).run tm aG (fun tm=>K tm hp nx)=.ok:=h;rw[nN]at h;exact hn _ hp nx ι _ w h (zad _) (ao.refl _ _) ⟨hs.1,fun ι' hι=>⟨kX (hs.2 ι' hι).1 (ax hlt) (dq ι').symm,(hs.2 ι' hι).2⟩⟩
theorem iB {ops:Array Oper}{nt j d:Nat}{tm:Tm}{a:Act}{ι:En}(hd:mJ ops nt j=some d)(ha:ca ι nt tm a) :
  yielded ops a.tmps j=match tm.at d with|.bool b=>some b|_=>none:=by
 unfold mJ at hd;cases ho:(ops[j]?).bind (·.dst)with
 |none=>rw[ho]at hd;cases hd
 |some d' =>
  rw[ho]at hd;simp only at hd;split at hd
  ·cases hd;rename_i hlt;have hlt:=ax hlt;unfold yielded;rw[ho];have hv:=ha.val d
   have hin:a.tmps[d]?=some (a.tmps.getD d undef):=by
    rw[zbf (by rw[ha.size];exact hlt)];simp[Array.getD,ha.size,hlt]
   simp only[zcr,hin,hv];cases tm.at d<;>simp[ak]
  ·cases hd
theorem Kh (hops:oD P call){ops:Array Oper}{i:Nat}{o:Oper}{nt:Nat}{tm:Tm}{hp:Tr AO}{nx:Pz}{K:Tm->Tr AO->Pz->Rs}(hi:ops[i]?=some o)(h:(e7 P nt ops o).run call tm hp nx K=.ok)
  {B:Nat->Prop} {w0 w:World} {ι:En} {a:Act} (hs:Sat B w0 nt tm hp nx ι a w) {rest:List Nat} {Q:Exit->Act->World->Prop} (hn:fS B w0 nt ι nx K (wpOpsIn (fw r) 0 P ops Q rest)):wpOpsIn (fw r) 0 P ops Q (i::rest) a w:=by
 unfold wpOpsIn;rw[hi];simp only;unfold e7 at h;cases hg:o.guard with
 |none =>
  rw[hg]at h;rw[if_pos (by simp[Region.wanted,hg])];exact (Hh (fun k hk=>hops o tm hp nx k hk) h hs hn).wp fun _ _ h=>h
 |some g =>
  obtain⟨j,want⟩:=g;rw[hg]at h;simp only at h;cases hd:mJ ops nt j with
  |none=>rw[hd]at h;cases h
  |some d =>
   rw[hd]at h
   have h:(pL d).run tm (fun v=>GG v ((lK nt o.dst (dT fun _ k=>k aG)).run call tm hp nx K) fun b =>
    bM (oQ b want) ((lK nt o.dst (yW P o)).run call tm hp nx K) ((lK nt o.dst (dT fun _ k=>k aG)).run call tm hp nx K))=.ok:=h
   rw[lL]at h;have hy:=iB hd (hs.2 ι (ao.refl _ _)).1
   have no:yielded ops a.tmps j≠some want->(lK nt o.dst (dT fun _ k=>k aG)).run call tm hp nx K=.ok->(if Region.wanted o (yielded ops a.tmps)=true then o.wpIn (fw r) 0 P a w (wpOpsIn (fw r) 0 P ops Q rest) Q else (∀f,o.about P w a.eval=some f->(fw r).fn f)/\wpOpsIn (fw r) 0 P ops Q rest (a.put o.dst undef) w):=by
    intro hne hp';rw[if_neg (by simp[Region.wanted,hg];exact hne)];exact⟨fun _ _=>trivial,Kg hp' hs hn⟩
   cases hv:tm.at d with
   |bool b =>
    rw[hv]at h hy;rcases bW h with ⟨hb,h⟩|⟨hb,h⟩
    ·have hb:b=want:=by rw[nT]at hb;simpa using hb
     rw[if_pos (by simp[Region.wanted,hg,hy,hb])];exact (Hh (fun k hk=>hops o tm hp nx k hk) h hs hn).wp fun _ _ h=>h
    ·have hb:b≠want:=by rw[nT]at hb;simpa using hb
     exact no (by rw[hy];simp[hb]) h
   |_=>rw[hv]at h hy;exact no (by rw[hy];simp) h
theorem vZ (hops:oD P call){ops:Array Oper}{nt:Nat}{Q:Exit->Act->World->Prop}:∀(l:List Oper)(i:Nat)(tm:Tm)(hp:Tr AO)(nx:Pz)(K:Tm->Tr AO->Pz->Rs),ops.toList.drop i=l->(dk P nt ops l).run call tm hp nx K=.ok ->
  ∀{B:Nat->Prop} {w0 w:World} {ι:En} {a:Act},Sat B w0 nt tm hp nx ι a w->fS B w0 nt ι nx K (Q .normal)->wpOpsIn (fw r) 0 P ops Q (List.range' i l.length) a w
 | [],i,tm,hp,nx,K,hl,h,B,w0,w,ι,a,hs,hn=>hn tm hp nx ι a w h (zad _) (ao.refl _ _) hs
 |o::l,i,tm,hp,nx,K,hl,h,B,w0,w,ι,a,hs,hn=>by
  have hi:ops[i]?=some o:=by
   have:=congrArg (·[0]?) hl;simpa using this
  have hl':ops.toList.drop (i+1)=l:=by
   have:=congrArg (List.drop 1) hl;simpa using this
  rw[zbi,zek];refine Kh hops hi (K:=fun tm hp nx=>(dk P nt ops l).run call tm hp nx K) h hs (fun tm' hp' nx' ι2 a' w' hk hle ha hs'=>?_);exact vZ hops l (i+1) tm' hp' nx' K hl' hk hs' (hn.oC hle ha)
end
end Go.aK
namespace Go.aK
open Go.RowKit
def Te:Ex->Exit
 |.gE=>.normal
 |.ext id=>.exit id
 |.ret=>.ret
section
variable {P:Program}{call:bH}{r:Option Nat}
theorem zM {b:Frame}{a:Act}{k:List Item}{cs:List Frame}{w:World}{c:Code}:step P (lone (b.atR a (.code (.scope c)::k)) cs w)=.next (lone (b.atR a (.code c::.inScope c::k)) cs w) :=
 step_lone_go (by simp[stepG,stepG.exec,Frame.atR])
theorem vn {b:Frame}{a:Act}{k:List Item}{cs:List Frame}{w:World}{c:Code}:step P (lone (b.atR a (.inScope c::k)) cs w)=.next (lone (b.atR a k) cs w) :=
 step_lone_go (by simp[stepG,stepG.exec,Frame.atR])
theorem oi {F:Fence}{n:Nat}{c:Code}{Q:Exit->Act->World->Prop}{a:Act}{w:World}(h:c.wpIn F n P (Exit.noGoto Q) a w):(Code.scope c).wpIn F n P Q a w:=by
 intro b k cs hro hb hr;obtain⟨e,a₁,w₁,hq,harr⟩:=h b (.inScope c::k) cs hro hb hr;have h0:StepsIn (Machine.fenced P F) P (lone (b.atR a (.code (.scope c)::k)) cs w) (lone (b.atR a (.code c::.inScope c::k)) cs w):=.one (fenced_calm hb hr rfl) zM;cases e with
 |normal=>exact⟨.normal,a₁,w₁,hq,.of_steps h0 (StepsIn.trans harr (.one (fenced_calm hb hr rfl) vn))⟩
 |exit id=>exact⟨.exit id,a₁,w₁,hq,.of_steps h0 ⟨fun k' hk=>harr.1 k' (by simp[exitTo,hk]),fun hs hk=>harr.2 hs (by simp[exitTo,hk])⟩⟩
 |goto l=>exact hq.elim
 |ret=>exact⟨_,a₁,w₁,hq,.of_steps h0 harr⟩
 |panic ch=>exact⟨_,a₁,w₁,hq,.of_steps h0 harr⟩
 |outgrown=>exact⟨_,a₁,w₁,hq,.of_steps h0 harr⟩
def oX (B:Nat->Prop)(w0:World)(nt:Nat)(ι:En)(nx:Pz)(K:Ex->Tm->Tr AO->Pz->Rs)(Q:Exit->Act->World->Prop):Prop :=
 ∀e tm' hp' nx' ι2 a' w',K e tm' hp' nx'=.ok->nx.num<=nx'.num->ao nx ι ι2->Sat B w0 nt tm' hp' nx' ι2 a' w'->Q (Te e) a' w'
theorem oX.oC {B:Nat->Prop}{w0:World}{nt:Nat}{ι ι2:En}{nx nx':Pz}{K:Ex->Tm->Tr AO->Pz->Rs}{Q:Exit->Act->World->Prop}(h:oX B w0 nt ι nx K Q)(hle:nx.num<=nx'.num)(ha:ao nx ι ι2):oX B w0 nt ι2 nx' K Q :=
 fun e tm' hp' nx'' ι3 a' w' hk hle' ha' hs=>h e tm' hp' nx'' ι3 a' w' hk (zay hle hle') (ha.trans ha' hle) hs
def BU (P:Program)(call:bH)(nt:Nat):Prop:=∀id ops plan tm hp nx K,tE P ops plan=true->(oA P nt ops plan).run call tm hp nx K=.ok ->
 ∀r B w0 w ι a,Sat B w0 nt tm hp nx ι a w->∀Q,fS B w0 nt ι nx K (Q .normal)->(Code.region id ops true).wpIn (fw r) 0 P Q a w
def xz (P:Program)(call:bH):Prop:=∀fid nt g ps x y tm hp nx K,oR P fid nt g ps x y call tm hp nx K=.ok->lJ x=true->lJ y=true ->
 ∀B w0 w ι a,Sat B w0 nt tm hp nx ι a w->∀Q,oX B w0 nt ι nx K Q->(Code.rangeFunc g ps x y).wpIn (fw none) 0 P Q a w
theorem Dv (hops:oD P call){nt:Nat}(hdraw:BU P call nt)(hrange:xz P call){fid:Nat}{pl:Nat->List Ph}:∀(c:Code),dE P pl c=true->(r=none∨lJ c=true)->∀(fu:Nat)(tm:Tm)(hp:Tr AO)(nx:Pz)(K:Ex->Tm->Tr AO->Pz->Rs),(yX P fid nt pl c).run fu call tm hp nx K=.ok ->
  ∀{B:Nat->Prop} {w0 w:World} {ι:En} {a:Act},Sat B w0 nt tm hp nx ι a w->∀{Q:Exit->Act->World->Prop},oX B w0 nt ι nx K Q->c.wpIn (fw r) 0 P Q a w:=by
 intro c
 induction c with
 |skip=>intro hpl hrf fu tm hp nx K h B w0 w ι a hs Q hn;exact wpIn_skip (hn .gE tm hp nx ι a w h (zad _) (ao.refl _ _) hs)
 |region id ops draw =>
  intro hpl hrf fu tm hp nx K h B w0 w ι a hs Q hn;cases draw with
  |false =>
   refine wpIn_region ?_;have h:(dk P nt ops ops.toList).run call tm hp nx (fun tm hp nx=>K .gE tm hp nx)=.ok:=h;have:=vZ (r:=r) hops (Q:=Q) ops.toList 0 tm hp nx _ rfl h hs (fun tm' hp' nx' ι2 a' w' hk hle ha hs'=>hn .gE tm' hp' nx' ι2 a' w' hk hle ha hs');rw[zeq,<-zdw];exact this
  |true=>exact hdraw id ops (pl id) tm hp nx _ hpl h r B w0 w ι a hs Q (fun tm' hp' nx' ι2 a' w' hk hle ha hs'=>hn .gE tm' hp' nx' ι2 a' w' hk hle ha hs')
 |seq x y ihx ihy =>
  intro hpl hrf fu tm hp nx K h B w0 w ι a hs Q hn;refine wpIn_seq (ihx (by simp only[dE,za]at hpl;exact hpl.1) (hrf.imp_right fun h=>by simp only[lJ,za]at h;exact h.1) fu tm hp nx _ h hs (fun e tm' hp' nx' ι2 a' w' hk hle ha hs'=>?_));cases e with
  |gE=>exact ihy (by simp only[dE,za]at hpl;exact hpl.2) (hrf.imp_right fun h=>by simp only[lJ,za]at h;exact h.2) fu tm' hp' nx' K hk hs' (hn.oC hle ha)
  |ext id=>exact hn (.ext id) tm' hp' nx' ι2 a' w' hk hle ha hs'
  |ret=>exact hn .ret tm' hp' nx' ι2 a' w' hk hle ha hs'
 |cond c x y ihx ihy =>
  intro hpl hrf fu tm hp nx K h B w0 w ι a hs Q hn;obtain⟨v,h,hv⟩:=aQ h;obtain⟨b,rfl,g⟩:=vL h;have hc:a.eval c=.bool b:=by rw[hv ι nt a (hs.2 ι (ao.refl _ _)).1];simp[ak]
  cases b with
  |true=>exact wpIn_cond_true hc (ihx (by simp only[dE,za]at hpl;exact hpl.1) (hrf.imp_right fun h=>by simp only[lJ,za]at h;exact h.1) fu tm hp nx K g hs hn)
  |false=>exact wpIn_cond_false hc (ihy (by simp only[dE,za]at hpl;exact hpl.2) (hrf.imp_right fun h=>by simp only[lJ,za]at h;exact h.2) fu tm hp nx K g hs hn)
 |block id x ih =>
  intro hpl hrf fu tm hp nx K h B w0 w ι a hs Q hn;refine wpIn_block (ih hpl hrf fu tm hp nx _ h hs (fun e tm' hp' nx' ι2 a' w' hk hle ha hs'=>?_));cases e with
  |gE=>exact hn .gE tm' hp' nx' ι2 a' w' hk hle ha hs'
  |ext j =>
   show if j=id then Q .normal a' w' else Q (.exit j) a' w'
   rcases bW hk with ⟨hj,hk⟩|⟨hj,hk⟩
   ·rw[if_pos (aj hj)];exact hn .gE tm' hp' nx' ι2 a' w' hk hle ha hs'
   ·rw[if_neg (qR hj)];exact hn (.ext j) tm' hp' nx' ι2 a' w' hk hle ha hs'
  |ret=>exact hn .ret tm' hp' nx' ι2 a' w' hk hle ha hs'
 |loop x ih =>
  intro hpl hrf fu tm hp nx K h B w0 w ι a hs Q hn
  have key:∀(m:Nat) (tm:Tm) (hp:Tr AO) (nx:Pz) (w:World) (ι:En) (a:Act),(Nat.rec (motive:=fun _=>Tm->Tr AO->Pz->Rs) (fun _ _ _=>Rs.bad 180)
   (fun _ ih tm hp nx=>(yX P fid nt pl x).run fu call tm hp nx fun e tm hp nx=>Ex.rec (motive:=fun _=>Rs) (ih tm hp nx) (fun j=>K (.ext j) tm hp nx) (K .ret tm hp nx) e) m) tm hp nx=.ok->Sat B w0 nt tm hp nx ι a w->oX B w0 nt ι nx K Q->Code.roundsIn (fw r) 0 P x Q m a w:=by
   intro m
   induction m with
   |zero=>intro tm hp nx w ι a h;cases h
   |succ m ihm =>
    intro tm hp nx w ι a h hs hn;rw[roundsIn_succ];refine ih hpl hrf fu tm hp nx _ h hs (fun e tm' hp' nx' ι2 a' w' hk hle ha hs'=>?_);cases e with
    |gE=>exact ihm tm' hp' nx' w' ι2 a' hk hs' (hn.oC hle ha)
    |ext j=>exact hn (.ext j) tm' hp' nx' ι2 a' w' hk hle ha hs'
    |ret=>exact hn .ret tm' hp' nx' ι2 a' w' hk hle ha hs'
  exact wpIn_loop_rounds fu (key fu tm hp nx w ι a h hs hn)
 |rangeFunc f ps x y _ _ =>
  intro hpl hrf fu tm hp nx K h B w0 w ι a hs Q hn;rcases hrf with rfl|hrf
  ·simp only[dE,za]at hpl;exact hrange fid nt f ps x y tm hp nx K h hpl.1 hpl.2 B w0 w ι a hs Q hn
  ·cases hrf
 |exit id=>intro hpl hrf fu tm hp nx K h B w0 w ι a hs Q hn;exact wpIn_exit (hn (.ext id) tm hp nx ι a w h (zad _) (ao.refl _ _) hs)
 |scope x ih =>
  intro hpl hrf fu tm hp nx K h B w0 w ι a hs Q hn;refine oi (ih hpl hrf fu tm hp nx K h hs (fun e tm' hp' nx' ι2 a' w' hk hle ha hs'=>?_));have:=hn e tm' hp' nx' ι2 a' w' hk hle ha hs';cases e<;>exact this
 |label l=>intro hpl hrf fu tm hp nx K h B w0 w ι a hs Q hn;exact wpIn_label (hn .gE tm hp nx ι a w h (zad _) (ao.refl _ _) hs)
 |goto l=>intro hpl hrf fu tm hp nx K h;cases h
 |ret=>intro hpl hrf fu tm hp nx K h B w0 w ι a hs Q hn;exact wpIn_ret (hn .ret tm hp nx ι a w h (zad _) (ao.refl _ _) hs)
 |refuse s=>intro hpl hrf fu tm hp nx K h;cases h
end
end Go.aK
namespace Go.aK
open Go.RowKit
section
variable {P:Program}
def xA (P:Program)(f:Nat)(args:List AV)(hp:Tr AO)(nx:Pz)(k:AV->Tr AO->Pz->Rs):Prop :=
 ∀B w0 w ι (cargs:Array Value),Wf hp nx->(∀ι',ao nx ι ι'->Core B w0 ι' hp w/\cargs=(aq ι' args).toArray)->∀G:Value->World->Prop,G9 B w0 ι nx k G->dU P (callFunc f cargs) w G
def Hi (P:Program)(call:bH):Prop:=∀f nt c tm hp nx K,call.code f nt c tm hp nx K=.ok->lJ c=true->∀l B w0 w ι a,Sat B w0 nt tm hp nx ι a w->∀Q,oX B w0 nt ι nx K Q->c.wpIn (fw (some l)) 0 P Q a w
def oY (P:Program)(call:bH):Prop:=(∀f args hp nx k,call.run f args hp nx k=.ok->xA P f args hp nx k)/\Hi P call
def Dw (P:Program)(call:bH):Prop:=∀j vs hp nx k,xh call j vs hp nx k=.ok->∀B w0 w ι (cargs:Array Value),Wf hp nx->(∀ι',ao nx ι ι'->Core B w0 ι' hp w/\cargs=(aq ι' vs).toArray)->∀G:Value->World->Prop,G9 B w0 ι nx k G ->
 dU P (Instr.yield (ι.aY (bj (j-1))) cargs) w G
theorem xB (a b:List AV):sL a b=a++b:=by
 induction a with
 |nil=>rfl
 |cons x a ih=>show x::sL a b=_;rw[ih];rfl
theorem Ki {call:bH}(hcall:oY P call)(hyield:Dw P call){o:Oper}{c:Call}{f:Operand}{tm:Tm}{hp:Tr AO}{nx:Pz}{k:AV->Tr AO->Pz->Rs}(ho:o.op=.call c)(hc:c.callee=.value f)
  (h:((cQ f).run tm fun fv=>yO c.args.toList tm fun vs=>BD fv (.bad 122) fun f first captured=>match f with
   |.func g=>call.run g (sL first (sL vs captured)) hp nx k
   |.yield j=>List.rec (motive:=fun _=>Rs) (List.rec (motive:=fun _=>Rs) (xh call j vs hp nx k) (fun _ _ _=>.bad 122) captured) (fun _ _ _=>.bad 122) first
   |_=>.bad 122)=.ok):jT P o tm hp nx k:=by
 obtain⟨fv,h,hfv⟩:=aQ h;obtain⟨vs,h,hvs⟩:=s5 _ h;cases fv with
 |func fn first captured =>
  cases fn with
  |func g =>
   intro B w0 nt a w ι hs G hn
   have hrun:(execOp a.eval o).run P w=(callFunc g (aq ι (sL first (sL vs captured))).toArray).run P w:=by
    obtain⟨t1,c1⟩:=hs.2 ι (ao.refl _ _);have hargs:c.args.map a.eval=(aq ι vs).toArray:=by rw[map_mk,hvs ι nt a t1]
    simp only[execOp,ho,resolve,hc,hargs,hfv ι nt a t1,ak,kR,Deferred.ofValue,Sem.run_bind,Sem.run_pure,Result.andThen_ok,invoke];congr 2;rw[xB,xB,e8,e8];simp
   have hargs':∀ι',ao nx ι ι'->(aq ι (sL first (sL vs captured))).toArray=(aq ι' (sL first (sL vs captured))).toArray:=by
    intro ι' hι;obtain⟨t1,c1⟩:=hs.2 ι (ao.refl _ _);obtain⟨t2,c2⟩:=hs.2 ι' hι;have e1:=hvs ι nt a t1;have e2:=hvs ι' nt a t2;have e3:=hfv ι nt a t1;have e4:=hfv ι' nt a t2;rw[e3]at e4;simp only[ak,Value.func.injEq,Array.mk.injEq,true_and]at e4;rw[e1]at e2;simp only[xB,e8,e4.1,e4.2,e2]
   have:=hcall.1 g _ hp nx k h B w0 w ι _ hs.1 (fun ι' hι=>⟨(hs.2 ι' hι).2,hargs' ι' hι⟩) G hn;unfold dU at this ⊢;rw[hrun];exact this
  |yield j =>
   cases first with
   |cons x xs=>cases h
   |nil =>
    cases captured with
    |cons x xs=>cases h
    |nil =>
     intro B w0 nt a w ι hs G hn
     have hrun:(execOp a.eval o).run P w=(Instr.yield (ι.aY (bj (j-1))) (aq ι vs).toArray).run P w:=by
      obtain⟨t1,c1⟩:=hs.2 ι (ao.refl _ _);have hargs:c.args.map a.eval=(aq ι vs).toArray:=by rw[map_mk,hvs ι nt a t1]
      simp only[execOp,ho,resolve,hc,hargs,hfv ι nt a t1,ak,kR,aq,Deferred.ofValue,Sem.run_bind,Sem.run_pure,Result.andThen_ok,invoke];congr 2;simp
     have:=hyield j vs hp nx k h B w0 w ι (aq ι vs).toArray hs.1 (fun ι' hι=>⟨(hs.2 ι' hι).2,by
      obtain⟨t1,c1⟩:=hs.2 ι (ao.refl _ _);obtain⟨t2,c2⟩:=hs.2 ι' hι
      rw[<-hvs ι nt a t1,<-hvs ι' nt a t2]⟩) G hn
     unfold dU at this ⊢;rw[hrun];exact this
  |_=>cases h
 |_=>cases h
def jc (tmps:Array Value)(r:ResultVar):Sem Value :=
 match r with
 |.tmp t=>pure (tmps.getD t undef)
 |.cell x t=>do loadVar t (<-Go.asAddr (tmps.getD x undef))
theorem Fp {r:ResultVar}{tm:Tm}{hp:Tr AO}{k:AV->Rs}(h:BQ P r tm hp k=.ok):∃v,k v=.ok/\∀B w0 ι nt a w,ca ι nt tm a->Core B w0 ι hp w ->
  (jc a.tmps r).run P w=.ok (ak ι v) w:=by
 cases r with
 |tmp t =>
  have h:(pL t).run tm k=.ok:=h;rw[lL]at h;exact⟨_,h,fun B w0 ι nt a w ha hc=>by simp only[jc,Sem.run_pure,ha.val t]⟩
 |cell x t =>
  unfold BQ at h;simp only[lL]at h;obtain⟨id,off,hv,g⟩:=g9 h;cases hk:cM P t with
  |false=>rw[hk]at g;cases g
  |true =>
   obtain⟨d,hd⟩:=kU hk;cases ht:ec P t with
   |true =>
    rw[hk,ht]at g;obtain⟨l,g,hl⟩:=lO (k:=fun cs=>k (.agg cs)) g;refine⟨_,g,fun B w0 ι nt a w ha hc=>?_⟩;obtain⟨h1,h2⟩:=hl B w0 ι w hc;have e:=ha.val x;rw[hv]at e;simp only[jc,e,ak,Go.asAddr,Sem.run_bind,Sem.run_pure,Result.andThen_ok,loadVar,iN hd,ht,if_true,hX hd];rw[nS h2 h1];simp
   |false =>
    rw[hk,ht]at g;obtain⟨u,g,hu⟩:=rV g;refine⟨u,g,fun B w0 ι nt a w ha hc=>?_⟩;have e:=ha.val x;rw[hv]at e;simp only[jc,e,ak,Go.asAddr,Sem.run_bind,Sem.run_pure,Result.andThen_ok,loadVar,iN hd,ht,zaf,if_false];rw[gB (hu B w0 ι w hc)]
theorem v8:∀(rs:List ResultVar){tm:Tm}{hp:Tr AO}{k:List AV->Rs},qQ P rs tm hp k=.ok->∃vs,k vs=.ok/\∀B w0 ι nt a w,ca ι nt tm a->Core B w0 ι hp w ->
  (rs.mapM (jc a.tmps)).run P w=.ok (aq ι vs) w
 | [],tm,hp,k,h=>⟨[],h,fun B w0 ι nt a w ha hc=>by simp[aq]⟩
 |r::rs,tm,hp,k,h=>by
  obtain⟨v,h,hv⟩:=Fp (k:=fun v=>qQ P rs tm hp fun vs=>k (v::vs)) h;obtain⟨vs,h,hvs⟩:=v8 rs h;refine⟨v::vs,h,fun B w0 ι nt a w ha hc=>?_⟩;rw[zed,Sem.run_bind,hv B w0 ι nt a w ha hc,Result.andThen_ok,Sem.run_bind,hvs B w0 ι nt a w ha hc];simp[aq]
theorem oZ {fn:Func}{tm:Tm}{hp:Tr AO}{k:AV->Rs}(h:qQ P fn.results.toList tm hp (fun vs=>J1 vs fun v=>k v)=.ok):∃v,k v=.ok/\∀B w0 ι nt a w,ca ι nt tm a->Core B w0 ι hp w->(results fn a.tmps).run P w=.ok (ak ι v) w:=by
 obtain⟨vs,h,hvs⟩:=v8 _ h
 have hm:∀B w0 ι nt a w,ca ι nt tm a->Core B w0 ι hp w->(results fn a.tmps).run P w=.ok (if h:(aq ι vs).toArray.size=1 then (aq ι vs).toArray[0]else .tuple (aq ι vs).toArray) w:=by
  intro B w0 ι nt a w ha hc;have:=hvs B w0 ι nt a w ha hc;show (fn.results.mapM (jc a.tmps) >>= fun vs=>pure (if h:vs.size=1 then vs[0]else .tuple vs)).run P w=_;rw[Sem.run_bind,Array.mapM_eq_mapM_toList,Sem.run_map,this];rfl
 cases vs with
 |nil=>exact⟨.cN [],h,fun B w0 ι nt a w ha hc=>by rw[hm B w0 ι nt a w ha hc];simp[aq,ak]⟩
 |cons v vs =>
  cases vs with
  |nil=>exact⟨v,h,fun B w0 ι nt a w ha hc=>by rw[hm B w0 ι nt a w ha hc];simp[aq]⟩
  |cons u us=>exact⟨.cN (v::u::us),h,fun B w0 ι nt a w ha hc=>by rw[hm B w0 ι nt a w ha hc];simp[aq,ak]⟩
theorem xC:∀(vs:List AV)(i:Nat)(t:Tm)(k:Tm->Rs),mK vs i t k=.ok->∃t',k t'=.ok/\t'.ml=t.ml/\∀j,t'.at j=if i<=j/\j<i+vs.length then (vs[j-i]?).getD aG else t.at j
 | [],i,t,k,h=>⟨t,h,rfl,fun j=>by rw[if_neg (by simp only[zeo];omega)]⟩
 |v::vs,i,t,k,h=>by
  have h:(ve i).run t v (fun t=>bo (Nat.succ i) fun i=>mK vs i t k)=.ok:=h;rw[nN,aM]at h;obtain⟨t',h,hml,ht⟩:=xC vs (i+1) _ k h;refine⟨t',h,by rw[hml,Tm.tF],fun j=>?_⟩;rw[ht j,zbi];by_cases h1:i+1<=j/\j<i+1+vs.length
  ·rw[if_pos h1,if_pos (by omega),show j-i=(j-(i+1))+1 by omega,zbn]
  ·rw[if_neg h1];by_cases h2:j=i
   ·subst h2;rw[Tm.gP,if_pos (by omega),zeb];rfl
   ·rw[Tm.jw h2,if_neg (by omega)]
theorem zN {args:List AV}{t':Tm}{nt:Nat}{ι:En}(hml:t'.ml=[])(hl:args.length<=nt)(ht:∀j,t'.at j=if 0<=j/\j<0+args.length then (args[j-0]?).getD aG else Tm.e.at j) :
  ca ι nt t' { tmps:=(aq ι args).toArray++Array.replicate (nt-(aq ι args).toArray.size) undef,defers:=[] }:=by
 refine⟨by simp[aw];omega,by rw[hml];rfl,fun j=>?_⟩
 have e:t'.at j=(args[j]?).getD aG:=by
  rw[ht j];by_cases hj:j<args.length
  ·rw[if_pos (by omega)];rfl
  ·rw[if_neg (by omega),Tm.Wt,zbq (by omega)];rfl
 rw[e];simp only[zah,Array.getElem?_append,zee,aw,zao,zdz];by_cases hj:j<args.length
 ·rw[if_pos hj,bx,zaj hj];rfl
 ·rw[if_neg hj,zbq (by omega:args.length<=j),Option.getD_none,dq];split<;>rfl
theorem nk:Extern.allNextRows.lookup "math.Float64frombits"=none/\Extern.allNextRows.lookup ""=none:=by
 constructor<;>kernel_rfl
theorem xD {f:Nat}{fn:Func}(hf:P.funcs[f]?=some fn)(hb:fn.body=none)(h1:fn.name = "math.Float64frombits")(h2:fn.origin = "math.Float64frombits"∨fn.origin = "")(n:Nat)(w:World){ι:En} :
  (callFunc f (aq ι [.int .u64 (.ofNat n)]).toArray).run P w=.ok (.value (.float .f64 n)) w:=by
 have e1:Extern.findNext fn=none:=by
  unfold Extern.findNext;rcases h2 with h2|h2<;>simp only[h1,h2,nk.1,nk.2]<;>rfl
 have e2:Extern.find fn=some Extern.MathFloatBits.float64frombits:=by
  unfold Extern.find;simp only[h1]
  kernel_rfl
 simp only[callFunc,Sem.run_bind,run_program,Result.andThen_ok,hf,h1,hb,e1,e2,Option.isNone_none,aq,ak];rfl
theorem Fq {o:AO}{r:Rs}(h:BF o r=.ok):o=.gv/\r=.ok:=by
 cases o with
 |gv=>exact⟨rfl,h⟩
 |_=>cases h
theorem Dx {fn:Func}{tmps:Array Value}{R:Ending->World->Prop}{B:Nat->Prop}{w0:World}{nx:Pz}{ι:En}:∀(l:List Pz)(hp:Tr AO)(k:Tr AO->Rs),GR l hp k=.ok->Wf hp nx->∀{w:World},(∀ι',ao nx ι ι'->Core B w0 ι' hp w) ->
  ∃hp',k hp'=.ok/\Wf hp' nx/\∃w',(∀ι',ao nx ι ι'->Core B w0 ι' hp' w')/\((∃v,(results fn tmps).run P w'=.ok v w'/\R (.returned v) w')->LeavesInM (fw none) 0 P fn tmps R (marks ι l) .returning w)
 | [],hp,k,h,hw,w,hc=>⟨hp,h,hw,w,hc,fun h=>h⟩
 |id::l,hp,k,h,hw,w,hc=>by
  have h:hp.gx id (.bad 292) (fun o=>BF o (hp.du id .gone fun hp=>GR l hp k))=.ok:=h;obtain⟨o,ho,h⟩:=dm h;obtain⟨rfl,g⟩:=Fq h;rw[Tr.cK]at g;have hb0:=(hc ι (ao.refl _ _)).obj _ _ ho;have hlt:ι.aY id<w.heap.size:=(Array.getElem?_eq_some_iff.1 hb0).1
  have hc':∀ι',ao nx ι ι'->Core B w0 ι' (hp.set id .gone) (w.putObj (ι.aY id) (.deferred none)):=fun ι' hι=>by
   have c1:=hc ι' hι;have hbi:=(hι id (hw.lt _ _ ho)).1;have hbase:=c1.base _ _ ho trivial;rw[hbi]at hbase;have hoth:∀b,b≠ι'.aY id->(w.putObj (ι.aY id) (.deferred none)).heap[b]?=w.heap[b]?:=fun b hbne=>World.putObj_heap_other (fun e=>hbne (by rw[hbi];exact e));refine kW ho rfl (fun _ _ h=>by cases h) rfl (fun _ _ h=>by cases h) c1 (c1.below.trans ⟨rfl,rfl,rfl,by simp,fun b hb'=>hoth b (fun e=>hbase (by rw[<-hbi,<-e];exact hb'))⟩) (fun k hk=>by simp;exact c1.room k hk) hoth ?_;show ((w.putObj (ι.aY id) (.deferred none)).heap[ι'.aY id]?).isSome=true;rw[hbi,World.putObj_heap_same hlt];rfl
  obtain⟨hp',hk,hwf,w',hcc,hgo⟩:=Dx l _ k g (ql hw ho rfl (fun _ _ h=>by cases h) rfl (fun _ _ h=>by cases h)) hc';exact⟨hp',hk,hwf,w',hcc,fun hr=>⟨by simp,.inl ⟨_,_,rfl,run_takeDeferred hb0,hgo hr⟩⟩⟩
theorem PG {call:bH}(hrange:xz P call)(fu:Nat)(Pl:Nat->Nat->List Ph)(hpl:∀f fn c,P.funcs[f]?=some fn->fn.body=some c->dE P (Pl f) c=true)(hops:oD P call)(hdraw:∀nt,BU P call nt)
  {f:Nat} {args:List AV} {hp:Tr AO} {nx:Pz} {k:AV->Tr AO->Pz->Rs} (h:(VX P Pl f).run fu call args hp nx k=.ok):xA P f args hp nx k:=by
  unfold VX at h;cases hf:P.funcs[f]? with
  |none=>rw[hf]at h;cases h
  |some fn =>
   rw[hf]at h;simp only at h;cases hb:fn.body with
   |none =>
    rw[hb]at h;simp only at h;cases hq:(fn.name == "math.Float64frombits"&&(fn.origin == "math.Float64frombits"||fn.origin == ""))with
    |false=>rw[hq]at h;cases h
    |true =>
     rw[hq]at h;simp only at h;intro B w0 w ι cargs hw hc G hG
     obtain⟨n,rfl,hk⟩:∃n,args=[.int .u64 (.ofNat n)]/\k (.float .f64 n) hp nx=.ok:=by
      split at h
      ·exact⟨_,rfl,h⟩
      ·cases h
     refine .inl ⟨.float .f64 n,w,.inl ?_,hG (.float .f64 n) hp nx ι _ w hk hw (zad _) (ao.refl _ _) fun ι' hι=>⟨(hc ι' hι).1,by simp[ak]⟩⟩;rw[(hc ι (ao.refl _ _)).2];simp only[za,zaq,beq_iff_eq]at hq;exact xD hf hb hq.1 hq.2 n w
   |some c =>
    rw[hb]at h;simp only at h;cases hn:(fn.name == "runtime.NumGoroutine")with
    |true=>rw[hn]at h;cases h
    |false =>
     rw[hn]at h;obtain⟨hl,h⟩:=aJ h;have hl:=aN hl;obtain⟨t',h,hml,ht⟩:=xC _ _ _ _ h;intro B w0 w ι cargs hw hc R hR;refine .inr (.inl ⟨f,cargs,w,by simp only[callFunc,Sem.run_bind,run_program,Result.andThen_ok,hf,hn,hb,Option.isNone_some,zaf,if_false,Sem.run_pure],?_⟩);refine callsIn_wide.1 (callsIn_of_wp_marks (F:=fw none) (n:=0) hf hb trivial ?_)
     have hsat:Sat B w0 fn.ntmps t' hp nx ι { tmps:=cargs++Array.replicate (fn.ntmps-cargs.size) undef,defers:=[] } w:=by
      refine⟨hw,fun ι' hι=>⟨?_,(hc ι' hι).1⟩⟩;rw[(hc ι' hι).2];exact zN hml hl ht
     refine Dv (r:=none) hops (hdraw _) hrange c (hpl f fn c hf hb) (.inl rfl) fu t' hp nx _ h hsat (fun e tm' hp' nx' ι2 a' w' hk hle ha hs=>?_)
     have fin:GR tm'.ml hp' (fun hp'=>qQ P fn.results.toList tm' hp' fun vs=>J1 vs fun v=>k v hp' nx')=.ok->LeavesInM (fw none) 0 P fn a'.tmps (fun e w''=>∃cv,e=.returned cv/\R cv w'') a'.defers .returning w':=by
      intro hk;obtain⟨t0,c0⟩:=hs.2 ι2 (ao.refl _ _);rw[t0.defers];obtain⟨hp2,hk2,hwf2,w2,hc2,hgo⟩:=Dx tm'.ml hp' _ hk hs.1 fun ι' hι=>(hs.2 ι' hι).2;refine hgo ?_;obtain⟨v,hkv,hv⟩:=oZ (k:=fun v=>k v hp2 nx') hk2;refine⟨_,hv B w0 ι2 _ a' w2 t0 (hc2 ι2 (ao.refl _ _)),_,rfl,hR v hp2 nx' ι2 _ w2 hkv hwf2 hle ha (fun ι' hι=>?_)⟩;obtain⟨t2,_⟩:=hs.2 ι' hι;refine⟨hc2 ι' hι,?_⟩;have e1:=hv B w0 ι2 _ a' w2 t0 (hc2 ι2 (ao.refl _ _));have e2:=hv B w0 ι' _ a' w2 t2 (hc2 ι' hι);rw[e1]at e2;simpa using e2
     cases e with
     |gE=>exact fin hk
     |ext id=>cases hk
     |ret=>exact fin hk
end
end Go.aK
namespace Go.aK
open Go.RowKit
section
variable {P:Program}{o:Oper}{tm:Tm}{hp:Tr AO}{nx:Pz}{k:AV->Tr AO->Pz->Rs}{call:bH}
def Bd (tm:Tm)(y:Option Operand)(d n:Nat):Prop:=(y=none/\n=d)∨∃op kd,y=some op/\∀ι nt a,ca ι nt tm a->a.eval op=.int kd (n:Int)
theorem gV {y:Option Operand}{d:Nat}{k:Nat->Rs}(h:fP (y.map cQ) tm d k=.ok):∃n,k n=.ok/\Bd tm y d n:=by
 cases y with
 |none=>exact⟨d,h,.inl ⟨rfl,rfl⟩⟩
 |some op =>
  obtain⟨v,h,hv⟩:=aQ (x:=op) h;obtain⟨kd,n,rfl,g⟩:=jC h;exact⟨n,g,.inr ⟨op,kd,rfl,fun ι nt a ha=>by rw[hv ι nt a ha,eJ]⟩⟩
theorem qm {w:World}{kd:IntKind}{n y:Nat}{code:BoundsCode}(h:n<=y):(Instr.sliceBound (.int kd (n:Int)) y code).run P w=.ok n w:=by
 simp only[Instr.sliceBound,asIntOf,Sem.run_bind,Sem.run_pure,Result.andThen_ok];rw[if_pos ⟨by omega,by omega⟩];simp
theorem iC {w:World}{ι:En}{nt:Nat}{a:Act}{lo hi:Option Operand}{b:Bool}{len cap l h:Nat}(ha:ca ι nt tm a)(hh:Bd tm hi len h)(hl:Bd tm lo 0 l)(h1:l<=h)(h2:h<=cap) :
  (Instr.sliceBounds b len cap (lo.map a.eval) (hi.map a.eval) none).run P w=.ok (l,h,cap) w:=by
 unfold Instr.sliceBounds;rcases hh with ⟨rfl,rfl⟩|⟨oh,kh,rfl,eh⟩
 ·rcases hl with ⟨rfl,rfl⟩|⟨ol,kl,rfl,el⟩
  ·simp
  ·simp only[zaz,zbu,Sem.run_bind,Sem.run_pure,Result.andThen_ok,el ι nt a ha,qm h1,zdk,zaf,if_false]
 ·rcases hl with ⟨rfl,rfl⟩|⟨ol,kl,rfl,el⟩
  ·simp only[zaz,zbu,Sem.run_bind,Sem.run_pure,Result.andThen_ok,eh ι nt a ha,qm h2]
  ·simp only[zaz,zbu,Sem.run_bind,Sem.run_pure,Result.andThen_ok,eh ι nt a ha,el ι nt a ha,qm h2,qm h1,zdk,zaf,if_false]
theorem zO {t:TypeId}{x:Operand}{lo hi:Option Operand}(ho:o.op=.slice t x lo hi none)(hu:P.underlying t=some .string)
  (h:((cQ x).run tm fun v=>match v with
   |.str len n=>fP (hi.map cQ) tm len fun h=>fP (lo.map cQ) tm 0 fun l=>bM (Nat.ble l h&&Nat.ble h len) (bo (Nat.sub h l) fun ln=>bo (Nat.mod (Nat.div n (kO (Nat.sub len h))) (kO ln)) fun m=>k (.str ln m) hp nx) (.bad 50)
   |_=>.bad 51)=.ok):dz P o tm hp nx k:=by
 obtain⟨v,h,hv⟩:=aQ h;cases v with
 |str len n =>
  obtain⟨hh,h,bh⟩:=gV h;obtain⟨l,h,bl⟩:=gV h;obtain⟨hb,h⟩:=aJ h;simp only[za]at hb;have b1:=aN hb.1;have b2:=aN hb.2;rw[aM,aM]at h
  have key:gK P o tm hp (.str (Nat.sub hh l) (Nat.mod (Nat.div n (kO (Nat.sub len hh))) (kO (Nat.sub hh l)))):=fun B w0 ι nt a w ha hc=>by
   have hsz:(ByteArray.mk (bytesOf len n).toArray).size=len:=by show (bytesOf len n).toArray.size=len;simp[aB]
   simp only[execOp,ho];rw[hv ι nt a ha];simp only[ak,zbu,Instr.sliceAt,Instr.slice,Sem.run_bind,ay hu,Result.andThen_ok,zdk,zaf,if_false,Sem.run_pure];rw[hsz,iC ha bh bl b1 b2];simp only[Result.andThen_ok,Sem.run_pure,Result.ok.injEq,and_true,Next.value.injEq,Value.string.injEq];apply ByteArray.ext;rw[zeg];apply Array.ext';simp only[Array.toList_extract,jq]
   have e1:bytesOf hh (n/256 ^ (len-hh))=(bytesOf len n).take hh:=by
    have:=lN (len-hh) hh n;rw[show hh+(len-hh)=len by omega]at this;exact this
   have e2:bytesOf (hh-l) (n/256 ^ (len-hh))=(bytesOf hh (n/256 ^ (len-hh))).drop l:=by
    have:=pX (hh-l) l (n/256 ^ (len-hh));rw[show l+(hh-l)=hh by omega]at this;exact this
   show _=bytesOf (hh-l) (n/256 ^ (len-hh)%256 ^ (hh-l));rw[jX,e2,e1,zec]
  exact bJ key h
 |_=>cases h
theorem lS {w:World}{t el:TypeId}(hu:P.underlying t=some (.slice el)){b q len cap l h m:Nat}{lo hi mx:Option Value}(hb:(Instr.sliceBounds true len cap lo hi mx).run P w=.ok (l,h,m) w) :
  (Instr.sliceAt t (.slice (some ⟨b,q,none⟩) len cap) lo hi mx).run P w=.ok (.slice (some (if m=l then ⟨b,q,none⟩else ⟨b,q+l*af P el,none⟩)) (h-l) (m-l)) w∨P.info? el=none:=by
 cases hi':P.info? el with
 |none=>exact .inr rfl
 |some i =>
  refine .inl ?_;simp only[Instr.sliceAt,Instr.slice,Sem.run_bind,ay hu,Result.andThen_ok,hb,dy hi',Sem.run_pure];split
  ·simp[*]
  ·simp[*,gz]
theorem BV {t el:TypeId}{x:Operand}{lo hi:Option Operand}{id:Pz}{off len cap:Nat}(ho:o.op=.slice t x lo hi none)(hu:P.underlying t=some (.slice el))(hi':∃i,P.info? el=some i)(hv:∀ι nt a,ca ι nt tm a->a.eval x=ak ι (.slice id off len cap))
  (h:(fP (hi.map cQ) tm len fun h=>fP (lo.map cQ) tm 0 fun l=>bM (Nat.ble l h&&Nat.ble h cap)
          (bo (Nat.sub h l) fun ln=>bo (Nat.sub cap l) fun c=>bM (Nat.beq cap l) (k (.slice id off ln c) hp nx) (bo (off+l*af P el) fun off=>k (.slice id off ln c) hp nx)) (.bad 53))=.ok):dz P o tm hp nx k:=by
 obtain⟨hh,h,bh⟩:=gV h;obtain⟨l,h,bl⟩:=gV h;obtain⟨hb,h⟩:=aJ h;simp only[za]at hb;have b1:=aN hb.1;have b2:=aN hb.2;simp only[aM]at h;obtain⟨i,hi'⟩:=hi'
 have run:∀B w0 ι nt a w,ca ι nt tm a->Core B w0 ι hp w->(execOp a.eval o).run P w=.ok (.value (.slice (some (if cap=l then ⟨ι.aY id,ι.sh id+off,none⟩else ⟨ι.aY id,ι.sh id+off+l*af P el,none⟩)) (hh-l) (cap-l))) w:=by
  intro B w0 ι nt a w ha hc;simp only[execOp,ho];rw[hv ι nt a ha];simp only[ak,zbu,Sem.run_bind];rcases lS hu (b:=ι.aY id) (q:=ι.sh id+off) (iC (P:=P) (w:=w) (b:=true) ha bh bl b1 b2)with e|e
  ·rw[e];rfl
  ·rw[e]at hi';cases hi'
 rcases bW h with ⟨hq,h⟩|⟨hq,h⟩
 ·have hq:=aj hq
  have key:gK P o tm hp (.slice id off (Nat.sub hh l) (Nat.sub cap l)):=fun B w0 ι nt a w ha hc=>by
   rw[run B w0 ι nt a w ha hc,if_pos hq];simp[ak]
  exact bJ key h
 ·have hq:=qR hq
  have key:gK P o tm hp (.slice id (off+l*af P el) (Nat.sub hh l) (Nat.sub cap l)):=fun B w0 ι nt a w ha hc=>by
   rw[run B w0 ι nt a w ha hc,if_neg hq];simp[ak,zbp]
  exact bJ key h
theorem zP {t el:TypeId}{x:Operand}{lo hi:Option Operand}(ho:o.op=.slice t x lo hi none)(hu:P.underlying t=some (.slice el))(hi':∃i,P.info? el=some i)(hv:∀ι nt a,ca ι nt tm a->a.eval x=ak ι .ab)
  (h:(fP (hi.map cQ) tm 0 fun h=>fP (lo.map cQ) tm 0 fun l=>bM (Nat.beq h 0&&Nat.beq l 0) (k .ab hp nx) (.bad 59))=.ok):dz P o tm hp nx k:=by
 obtain⟨hh,h,bh⟩:=gV h;obtain⟨l,h,bl⟩:=gV h;obtain⟨hb,h⟩:=aJ h;simp only[za]at hb;have b1:=aj hb.1;have b2:=aj hb.2;subst b1;subst b2;obtain⟨i,hi'⟩:=hi'
 have key:gK P o tm hp .ab:=fun B w0 ι nt a w ha hc=>by
  simp only[execOp,ho];rw[hv ι nt a ha];simp only[ak,zbu,Sem.run_bind,Instr.sliceAt,Instr.slice,ay hu,Result.andThen_ok];rw[iC (P:=P) (w:=w) (b:=true) (cap:=0) ha bh bl (zad _) (zad _)];simp[dy hi']
 exact bJ key h
end
end Go.aK
namespace Go.aK
open Go.RowKit
section
variable {P:Program}{o:Oper}{tm:Tm}{hp:Tr AO}{nx:Pz}{k:AV->Tr AO->Pz->Rs}{call:bH}
theorem Fs {id f:Pz}{ep es n skip l:Nat}{eZ s0:Bool}{el:TypeId}{c:Tr (List AV)}(hw:Wf hp nx)(ho:hp.get id=some (.bX f ep eZ es n el c))(hf:hp.get f=some (.cO ep s0))(hl:skip+l=n){B:Nat->Prop}{w0 w:World}{ι:En}(hc:Core B w0 ι hp w)
  (hb:ι.aY nx=ι.aY id) (hs:ι.sh nx=if ι.kQ id-skip=l then ι.sh id+skip*es else ι.sh id+skip*es+l*es) (hk:ι.kQ nx=ι.kQ id-skip-l) :
  Core B w0 ι ((eE hp id f ep es n el c).set nx (.bX f ep eZ es 0 el .e)) w:=by
 have hep2:ep=ep∨ep=ep+1:=.inl rfl;have hlv:live hp f ep:=⟨_,hf⟩;have hw1:=xq (n0:=n) hw ho hf hep2;have hc1:=tJ (n0:=n) hw ho hf hep2 (zad _) hc;obtain⟨C,fz,g1,g2,g3,g4,g5⟩:=hc.obj _ _ ho hlv;have hmul:n*es=skip*es+l*es:=by rw[<-hl,zbh]
 have hkm:ι.kQ id*es=n*es+(ι.kQ id-skip-l)*es:=by rw[<-zbh];congr 1;omega
 have hsle:ι.sh nx<=ι.sh id+n*es:=by rw[hs];split<;>omega
 have hcell:∀i,(eE hp id f ep es n el c).get i≠none->True:=fun _ _=>trivial
 have hblk1:∀i o,i≠id->(eE hp id f ep es n el c).get i=some o->own (eE hp id f ep es n el c) o->ι.aY i=ι.aY id->gR o=some f:=by
  intro i o hi hg hown e;have hgid:(eE hp id f ep es n el c).get id=some (.bX f ep false es n el c):=Tr.bu _ _ _
  have hlid:live (eE hp id f ep es n el c) f ep:=by
   refine⟨false,?_⟩;have hne:f≠id:=fun e=>by rw[e,ho]at hf;cases hf
   unfold eE;rw[Tr.dw hne,Tr.bu]
  obtain⟨g,e1,e2⟩:=hc1.sep i id o _ hi hg hgid hown hlid e;cases e2;exact e1
 have hid:∀o,(eE hp id f ep es n el c).get id=some o->o=.bX f ep false es n el c:=by
  intro o hg;have hgid:(eE hp id f ep es n el c).get id=some (.bX f ep false es n el c):=Tr.bu _ _ _;rw[hgid]at hg;exact (Option.some.inj hg).symm
 refine lQ hw1 hc1 (fun _=>⟨C,fz,by rw[hb];exact g1,?_,zbo _,iT _ _ _ _ _,g5⟩) (fun i o hg hown=>hc1.obj i o hg) hc.below hc.room (by rw[hb];exact hc.base _ _ ho hlv) (fun i o hg hown e=>?_) (fun ht i f' e' tp' es' n' el' c'' hg hl'=>⟨fun e=>?_,fun e hlt=>?_⟩) (fun i f' e' es' n' el' c'' hg hl'=>⟨fun e=>?_,fun e hlt=>?_⟩)
 ·rw[hk,hs];split
  ·rename_i h;rw[h,zeb,zbw];omega
  ·omega
 ·rw[hb]at e;by_cases hi:i=id
  ·subst hi;rw[hid _ hg];rfl
  ·exact hblk1 i o hi hg hown e
 ·by_cases hi:i=id
  ·subst hi;cases hid _ hg;rfl
  ·exact (kT hw ho hf (.inl ⟨rfl,ht,rfl⟩) hc hi hg hl' e.symm).1
 ·rw[hb]at e;rw[zbw,zbt,hs,if_neg (by omega)];by_cases hi:i=id
  ·subst hi;cases hid _ hg;omega
  ·have hfo:=hblk1 i _ hi hg hl' e.symm;have:=(kT hw ho hf (.inl ⟨rfl,ht,rfl⟩) hc hi hg hl' (Option.some.inj hfo)).2 e.symm (by omega);omega
 ·by_cases hi:i=id
  ·subst hi;cases hid _ hg
  ·cases ht:eZ with
   |false=>rfl
   |true=>exact absurd (kT hw ho hf (.inl ⟨rfl,ht,rfl⟩) hc hi hg hl' e).1 (by decide)
 ·rw[hb]at e;by_cases hi:i=id
  ·subst hi;cases hid _ hg
  ·have hfo:=hblk1 i _ hi hg hl' e;rcases cq hg with ⟨h,_⟩|⟨_,_,h⟩|⟨_,_,h⟩
   ·exact absurd h hi
   ·cases h
   ·have hown:=(iM (o:=.bX f' e' true es' n' el' c'') hw ho hf hep2 hi h hl').1;have:=(hc.eZ i id _ _ _ _ _ _ _ _ _ _ _ _ _ hi h ho hown hlv).2 e hlt;rw[zbw,zbt];omega
theorem BW {t el:TypeId}{x:Operand}{lo hi:Option Operand}{id:Pz}{off len skip:Nat}(ho:o.op=.slice t x lo hi none)(hu:P.underlying t=some (.slice el))(hi':∃i,P.info? el=some i)(hv:∀ι nt a,ca ι nt tm a->a.eval x=ak ι (.bw id off len skip))
  (h:(fP (hi.map cQ) tm len fun h=>fP (lo.map cQ) tm 0 fun l =>
      hp.gx id (.bad 55) fun o=>match o with
      |.bX f ep eZ es n el' c=>vA hp f ep fun _=>bM (Nat.ble l h&&Nat.ble (skip+h) n)
       (bM (Nat.beq l 0&&Nat.blt 0 h) (k (.bw id off h skip) hp nx)
        (bM (Nat.blt (skip+l) n) (bo (Nat.sub h l) fun ln=>bo (off+l*af P el) fun off=>bo (skip+l) fun skip=>k (.bw id off ln skip) hp nx)
         (bM (Nat.beq es (af P el)&&Nat.beq off (skip*es))
           (hp.du f (.cO ep false) fun hp=>hp.du id (.bX f ep false es n el' c) fun hp =>
            newObj hp nx (.bX f ep eZ es 0 el' .e) fun id hp nx=>k (.bw id 0 0 0) hp nx) (.bad 56)))) (.bad 58)
      |_=>.bad 57)=.ok):jT P o tm hp nx k:=by
 obtain⟨hh,h,bh⟩:=gV h;obtain⟨l,h,bl⟩:=gV h;obtain⟨ob,hob,h⟩:=dm h;cases ob with
 |bX f ep eZ es n el' c =>
  obtain⟨s0,hf,h1⟩:=pY h;obtain⟨hb,h2⟩:=aJ h1;simp only[za]at hb;have b1:=aN hb.1;have b2:=aN hb.2;obtain⟨i,hi'⟩:=hi'
  have run:∀B w0 ι nt a w,ca ι nt tm a->Core B w0 ι hp w->n<=ι.kQ id/\(execOp a.eval o).run P w=.ok (.value (.slice (some (if ι.kQ id-skip=l then ⟨ι.aY id,ι.sh id+off,none⟩else ⟨ι.aY id,ι.sh id+off+l*af P el,none⟩)) (hh-l) (ι.kQ id-skip-l))) w:=by
   intro B w0 ι nt a w ha hc;obtain⟨C,fz,g1,g2,g3,g4,g5⟩:=hc.obj _ _ hob ⟨_,hf⟩;refine⟨g3,?_⟩;simp only[execOp,ho];rw[hv ι nt a ha];simp only[ak,zbu,Sem.run_bind];rcases lS hu (b:=ι.aY id) (q:=ι.sh id+off) (iC (P:=P) (w:=w) (b:=true) (cap:=ι.kQ id-skip) ha bh bl b1 (by omega))with e|e
   ·rw[e];rfl
   ·rw[e]at hi';cases hi'
  rcases bW h2 with ⟨hq,h3⟩|⟨_,h3⟩
  ·simp only[za]at hq;have q1:=aj hq.1;have q2:=ax hq.2;subst q1
   have key:gK P o tm hp (.bw id off hh skip):=fun B w0 ι nt a w ha hc=>by
    obtain⟨g3,hr⟩:=run B w0 ι nt a w ha hc;rw[hr,if_neg (by omega)];simp[ak]
   exact (bJ key h3).to
  ·rcases bW h3 with ⟨hq,h4⟩|⟨hq,h4⟩
   ·have hq:=ax hq;simp only[aM]at h4
    have key:gK P o tm hp (.bw id (off+l*af P el) (Nat.sub hh l) (skip+l)):=fun B w0 ι nt a w ha hc=>by
     obtain⟨g3,hr⟩:=run B w0 ι nt a w ha hc;rw[hr,if_neg (by omega)];simp[ak,zbp,Nat.sub_sub]
    exact (bJ key h4).to
   ·have hq:=PB hq;obtain⟨hz,h5⟩:=aJ h4;simp only[za]at hz;have z1:=aj hz.1;have z2:=aj hz.2;subst z1;subst z2;rw[Tr.cK,Tr.cK,cW]at h5;have hln:skip+l=n:=by omega
    have hhl:hh=l:=by omega
    refine Gx.to (v:=.bw nx 0 0 0) (hp':=(eE hp id f ep (af P el) n el' c).set nx (.bX f ep eZ (af P el) 0 el' .e)) (nx':=nx.succ) ⟨by rw[Pz.cE];omega,fun hw=>Du hw hob hf (.inl rfl),fun B w0 nt a w ι hs=>?_⟩ h5;obtain⟨t1,c1⟩:=hs.2 ι (ao.refl _ _);have hidlt:=hs.1.lt _ _ hob;obtain⟨g3,hr⟩:=run B w0 ι nt a w t1 c1;refine⟨_,_,w,ib ι nx (ι.aY id) (if ι.kQ id-skip=l then ι.sh id+skip*af P el else ι.sh id+skip*af P el+l*af P el) (ι.kQ id-skip-l),.inl hr,fun ι' hι=>?_⟩;obtain⟨ha,k1,k2,k3⟩:=eR hι;obtain⟨d1,d2,d3⟩:=ha id hidlt;obtain⟨t2,c2⟩:=hs.2 ι' ha;refine⟨Fs hs.1 hob hf hln c2 (by rw[k1,d1]) (by rw[k2,d2,d3]) (by rw[k3,d3]),?_⟩;simp only[ak,k1,k2,k3,zbt,zet,hhl,zeb];split<;>rfl
 |_=>cases h
end
end Go.aK
namespace Go.aK
open Go.RowKit
section
variable {P:Program}{o:Oper}{tm:Tm}{hp:Tr AO}{nx:Pz}{k:AV->Tr AO->Pz->Rs}{call:bH}
theorem BX {s t:TypeId}{x:Operand}{ks kt:IntKind}(ho:o.op=.convert s t x)(hs:P.underlying s=some (.int ks))(ht:P.underlying t=some (.int kt))
  (h:((cQ x).run tm fun v=>asInt v fun _ n=>tA kt n fun n=>k (.int kt n) hp nx)=.ok):dz P o tm hp nx k:=by
 obtain⟨v,h,hv⟩:=aQ h;obtain⟨kd,n,rfl,g⟩:=c8 h;have g:=tL g
 have key:gK P o tm hp (.int kt (kt.wrap n)):=fun B w0 ι nt a w ha hc=>by
  simp only[execOp,ho];rw[hv ι nt a ha];simp only[ak,convert,Sem.run_bind,ay hs,ay ht,Result.andThen_ok,Conv.intToInt,Sem.run_pure]
 exact bJ key g
theorem BZ {s t:TypeId}{x:Operand}(ho:o.op=.convert s t x)(hs:P.underlying s=some .string)(ht:P.underlying t=some .string)
  (h:((cQ x).run tm fun v=>match v with|.str l n=>k (.str l n) hp nx|_=>.bad 90)=.ok):dz P o tm hp nx k:=by
 obtain⟨v,h,hv⟩:=aQ h;cases v with
 |str l n =>
  have key:gK P o tm hp (.str l n):=fun B w0 ι nt a w ha hc=>by
   simp only[execOp,ho];rw[hv ι nt a ha];simp only[ak,convert,Sem.run_bind,ay hs,ay ht,Result.andThen_ok,Sem.run_pure]
  exact bJ key h
 |_=>cases h
theorem sd:∀(ls:List (List AV))(n:Nat)(k:Nat->Rs),mH ls n k=.ok->∃(m:Nat)(bs:List UInt8),k m=.ok/\bs.length=ls.length/\(∀l0,bytesOf (l0+ls.length) m=bytesOf l0 n++bs)/\(even 1 ls->∀ι,aq ι ls.flatten=bs.map fun b=>Value.int .u8 (b.toNat:Int))
 | [],n,k,h=>⟨n,[],h,rfl,fun l0=>by simp,fun _ ι=>rfl⟩
 |l::ls,n,k,h=>by
  obtain⟨v,hv,h⟩:=nO 0 (l:=l) (k:=fun v=>match v with|.int .u8 (.ofNat b)=>bM (Nat.blt b 256) (bo (n*256+b) fun n=>mH ls n k) (.bad 85)|_=>.bad 85) h;split at h
  ·rename_i b;obtain⟨hb,h⟩:=aJ h;have hb:=ax hb;rw[aM]at h;obtain⟨m,bs,hk,hl,hm,hr⟩:=sd ls _ k h;refine⟨m,UInt8.ofNat b::bs,hk,by simp[hl],fun l0=>?_,fun he ι=>?_⟩
   ·rw[zbi,show l0+(ls.length+1)=(l0+1)+ls.length by omega,hm,lM _ _ _ hb];simp
   ·have h1:=he l (zac ..)
    have h2:l=[.int .u8 (.ofNat b)]:=by
     cases l with
     |nil=>simp at hv
     |cons y ys =>
      simp only[zba,Option.some.injEq]at hv;simp only[zbi,Nat.add_eq_right,List.length_eq_zero_iff]at h1;rw[hv,h1]
    rw[zcc,e8,hr (fun x hx=>he x (zaa _ hx)) ι,h2];simp only[aq,zeh,zcz,zal,eJ];congr 3;rw[zdl];omega
  ·cases h
theorem Ft (bs:List UInt8){w:World}(f:Value->ByteArray->Sem (ForInStep ByteArray))(hf:∀(b:UInt8) s w,(f (.int .u8 (b.toNat:Int)) s).run P w=.ok (.yield (s.push b)) w)(s0:ByteArray) :
  (forIn (bs.map fun b=>Value.int .u8 (b.toNat:Int)) s0 f).run P w=.ok ⟨(s0.data.toList++bs).toArray⟩ w:=by
 induction bs generalizing s0 with
 |nil=>simp
 |cons b bs ih =>
  simp only[zal,List.forIn_cons,Sem.run_bind,hf,Result.andThen_ok];rw[ih];congr 2;simp
theorem xE {s t e:TypeId}{x:Operand}(ho:o.op=.convert s t x)(hs:P.underlying s=some (.slice e))(ht:P.underlying t=some .string)(he:P.underlying e=some (.int .u8))
  (h:((cQ x).run tm fun v=>match v with
   |.str _ _=>.bad 98
   |v=>lI hp 1 v fun ls=>bo ls.length fun l=>mH ls 0 fun n=>k (.str l n) hp nx)=.ok):dz P o tm hp nx k:=by
 obtain⟨v,h,hv⟩:=aQ h
 have main:(lI hp 1 v fun ls=>bo ls.length fun l=>mH ls 0 fun n=>k (.str l n) hp nx)=.ok->(∀ι,(∃b q len cap,ak ι v=.slice (some ⟨b,q,none⟩) len cap)∨ak ι v=.slice none 0 0)->dz P o tm hp nx k:=by
  intro h hkind;obtain⟨ls,h,hsrc⟩:=tW (P:=P) h;rw[aM]at h;obtain⟨m,bs,hk,hl,hm,hr⟩:=sd _ _ _ h;have hm0:bytesOf ls.length m=bs:=by have:=hm 0;simpa [bytesOf] using this
  have key:gK P o tm hp (.str ls.length m):=fun B w0 ι nt a w ha hc=>by
   have hs':=hsrc B w0 ι w hc;have hlen:=hs'.len;have hcells:=hs'.cells;simp only[execOp,ho];rw[hv ι nt a ha];simp only[ak,hm0];rcases hkind ι with ⟨b,q,len,cap,ee⟩|ee
   ·rw[ee]at hlen hcells ⊢;simp only[Builtin.lenOf,Sem.run_pure,Result.ok.injEq,and_true]at hlen;simp only[Builtin.firstCells,zey]at hcells;rw[hr hs'.even ι]at hcells
    have hb:(Conv.bytesToString (.slice (some ⟨b,q,none⟩) len cap)).run P w=.ok (.string ⟨bs.toArray⟩) w:=by
     unfold Conv.bytesToString;rw[Sem.run_bind,hlen,hcells,Result.andThen_ok,Sem.run_bind,<-Array.forIn_toList];rw[show ((bs.map fun b=>Value.int .u8 (b.toNat:Int)).toArray).toList=bs.map fun b=>Value.int .u8 (b.toNat:Int)from rfl];rw[Ft (P:=P) bs (w:=w) _ (fun b s w=>by simp) ByteArray.empty];simp
    simp only[convert,Sem.run_bind,ay hs,ay ht,ay he,Result.andThen_ok,hb,Sem.run_pure]
   ·rw[ee]at hlen ⊢;simp only[Builtin.lenOf,Sem.run_pure,Result.ok.injEq,and_true]at hlen;have:bs=[]:=List.eq_nil_of_length_eq_zero (by rw[hl,<-hlen]);subst this;simp only[convert,Sem.run_bind,ay hs,ay ht,ay he,Result.andThen_ok,Conv.bytesToString,Sem.run_pure];rfl
  exact bJ key hk
 cases v with
 |slice id off len cap=>exact main h (fun ι=>.inl ⟨ι.aY id,ι.sh id+off,len,cap,by simp only[ak]⟩)
 |bw id off len skip=>exact main h (fun ι=>.inl ⟨ι.aY id,ι.sh id+off,len,ι.kQ id-skip,by simp only[ak]⟩)
 |ab=>exact main h (fun ι=>.inr (by simp only[ak]))
 |_=>cases h
end
end Go.aK
namespace Go.aK
open Go.RowKit
theorem xF (w:World)(C:Array Value)(e:TypeId):(w.alloc (.cells C e (0,0))).freeze ⟨w.heap.size,C.size,none⟩ 1=w.alloc (.cells C e (C.size,C.size+1)):=by
 unfold World.freeze;rw[if_neg (by decide)]
 have hh:(w.heap.push (Obj.cells C e (0,0))).modify w.heap.size (fun
   |.cells c elem (lo,hi)=>.cells c elem (if lo==hi then (C.size,C.size+1)else (min lo C.size,max hi (C.size+1)))
   |o=>o)=w.heap.push (Obj.cells C e (C.size,C.size+1)):=by
  apply Array.ext_getElem?;intro i;rw[zcn,zeu,zeu];by_cases hi:w.heap.size=i
  ·subst hi;simp
  ·rw[if_neg hi,if_neg (fun h=>hi h.symm),if_neg (fun h=>hi h.symm)]
 exact congrArg (fun h=>({ w with heap:=h }:World)) hh
theorem B0 {P:Program}(w:World)(C:Array Value)(e:TypeId):(newRow e C).run P w=.ok ⟨w.heap.size,0,none⟩ (w.alloc (.cells C e (0,0))):=rfl
theorem run_mark {P:Program}(w:World)(C:Array Value)(e:TypeId):(markStringish ⟨w.heap.size,0,none⟩).run P (w.alloc (.cells C e (0,0)))=.ok () (w.alloc (.cells C e (C.size,C.size+1))):=by
 have h:(w.alloc (.cells C e (0,0))).shape? w.heap.size=some (e,C.size):=by
  unfold World.shape?;rw[heap_alloc_new]
 simp only[markStringish,Sem.run_bind,run_shape,h,Result.andThen_ok,run_freeze];rw[xF]
section
variable {P:Program}{o:Oper}{tm:Tm}{hp:Tr AO}{nx:Pz}{k:AV->Tr AO->Pz->Rs}{call:bH}
theorem ua {s t e:TypeId}{x:Operand}(ho:o.op=.convert s t x)(hs:P.underlying s=some .string)(ht:P.underlying t=some (.slice e))(he:P.underlying e=some (.int .u8))
  (h:((cQ x).run tm fun v=>match v with
   |.str l n=>kP l n [] fun ls=>bM (gZ l 1) (grow hp nx e 1 ls k) (.bad 91)
   |_=>.bad 92)=.ok):jT P o tm hp nx k:=by
 obtain⟨v,h,hv⟩:=aQ h;cases v with
 |str l n =>
  have h:(kP l n [] fun ls=>bM (gZ l 1) (grow hp nx e 1 ls k) (.bad 91))=.ok:=h;rw[nj,zbg]at h;obtain⟨hsm,h⟩:=aJ h;unfold grow at h;rw[aM,lR,cW,cW]at h;have hlen:(tV l n).length=l:=by simp[tV,aB]
  have heven:even 1 (tV l n):=fun x hx=>by
   unfold tV at hx;obtain⟨b,_,rfl⟩:=List.mem_map.1 hx;rfl
  rw[hlen]at h;refine (zK (fun B w0 ι nt a w ha hc=>?_)).to h;generalize hcap:(Question.appendCap l 0 e).cut (w.tape w.drawn (.appendCap l 0 e))=cap;have hle:l<=cap:=by rw[<-hcap];simp only[Question.cut];omega
  generalize hC:((bytesOf l n).toArray.map fun b=>Value.int .u8 (b.toNat:Int))++Array.replicate (cap-l) (Value.int .u8 0)=C;have hCs:C.size=cap:=by rw[<-hC];simp[aB];omega
  refine⟨cap,C,(C.size,C.size+1),w.drew,iA hc,rfl,?_,hle,by rw[hCs];omega,?_,Or.inr (zad _)⟩
  ·simp only[execOp,ho];rw[hv ι nt a ha];have hsz:(ByteArray.mk (bytesOf l n).toArray).size=l:=by show (bytesOf l n).toArray.size=l;simp[aB]
   have e1:({ w with drawn:=w.drawn+1 }:World)=w.drew:=rfl;simp only[ak,convert,Sem.run_bind,ay hs,ay ht,ay he,Result.andThen_ok,Conv.stringToBytes,hsz,run_choose,Question.forced,zaf,if_false,hcap,e1,B0,Sem.run_pure,hC,run_mark]
  ·have:=gT (ι:=ι) (C:=C) (C':=C) (base:=0) (c:=.e) (iT ι C 0 1 .e) heven (fun i hi=>rfl) (fun i hi=>?_)
   ·rw[zap,hlen]at this;exact this
   ·rw[zbw,zap,zap];rw[hlen,zey]at hi
    have hfl:(tV l n).flatten=(bytesOf l n).map fun b=>AV.int .u8 (.ofNat b.toNat):=by
     unfold tV;generalize bytesOf l n=bs
     induction bs with
     |nil=>rfl
     |cons b bs ih=>simp only[zal,zcc,ih];rfl
    rw[hfl,<-hC,Array.getElem?_append_left (by simp[aB,hi]),Array.getElem?_map,zao,zcd,Option.map_map];congr 1
 |_=>cases h
end
end Go.aK
namespace Go.aK
open Go.RowKit
section
variable {P:Program}
def Found (P:Program)(t:TypeId)(k:AV)(es:List ME)(r:Option (Nat×ME)):Prop :=
 match r with
 |none=>∀e∈es,vk P 9 t k e.key false
 |some (j,e)=>∃pre post,es=pre++e::post/\j=pre.length/\(∀x∈pre,vk P 9 t k x.key false)/\vk P 9 t k e.key true
theorem np {t:TypeId}{k:AV}:∀(es:List ME)(i:Nat)(z:Rs)(kk:Nat->ME->Rs),mg P t k es i z kk=.ok->(z=.ok/\Found P t k es none)∨∃j e,kk (i+j) e=.ok/\Found P t k es (some (j,e))
 | [],i,z,kk,h=>.inl ⟨h,fun e he=>by simp at he⟩
 |e::es,i,z,kk,h=>by
  have h:jS P 9 t k e.key (fun b=>bM b (kk i e) (bo (i+1) fun i=>mg P t k es i z kk))=.ok:=h;obtain⟨b,h,hb⟩:=jY P _ _ _ _ _ h;rcases bW h with ⟨rfl,h⟩|⟨rfl,h⟩
  ·exact .inr ⟨0,e,h,[],es,rfl,rfl,fun x hx=>by simp at hx,hb⟩
  ·rw[aM]at h;rcases np es (i+1) z kk h with ⟨h1,h2⟩|⟨j,e',h1,pre,post,h2,h3,h4,h5⟩
   ·refine .inl ⟨h1,fun x hx=>?_⟩;rcases List.mem_cons.1 hx with rfl|hx
    ·exact hb
    ·exact h2 x hx
   ·refine .inr ⟨j+1,e',by rw[show i+(j+1)=i+1+j by omega];exact h1,e::pre,post,by rw[h2];rfl,by rw[h3];rfl,fun x hx=>?_,h5⟩;rcases List.mem_cons.1 hx with rfl|hx
    ·exact hb
    ·exact h4 x hx
noncomputable def fh (ι:En)(i:Nat):Option (Nat×ME)->Option (Nat×Value)
 |none=>none
 |some (j,e)=>some (i+j,ak ι e.val)
theorem qV {t:TypeId}{k:AV}{w:World}{ι:En}:∀(es:List ME)(i:Nat)(r:Option (Nat×ME)),Found P t k es r->(Instr.findAsking t (ak ι k) (es.map (dM ι)) i).run P w=.ok (fh ι i r) w
 | [],i,none,h=>rfl
 | [],i,some (j,e),h=>by obtain⟨pre,post,h1,_⟩:=h;cases pre<;>cases h1
 |e::es,i,none,h=>by
  have he:=iO (h e (zac ..)) ι w;simp only[zal,Instr.findAsking,Sem.run_bind,dM,he,Result.andThen_ok,zaf,if_false];exact qV es (i+1) none (fun x hx=>h x (zaa _ hx))
 |e::es,i,some (j,e'),h=>by
  obtain⟨pre,post,h1,h2,h3,h4⟩:=h;cases pre with
  |nil =>
   cases h1;have he:=iO h4 ι w;simp only[zal,Instr.findAsking,Sem.run_bind,dM,he,Result.andThen_ok,if_true,Sem.run_pure,fh,h2];rfl
  |cons x pre =>
   cases h1;have he:=iO (h3 e (zac ..)) ι w;simp only[zal,Instr.findAsking,Sem.run_bind,dM,he,Result.andThen_ok,zaf,if_false];have:=qV (t:=t) (k:=k) (w:=w) (ι:=ι) (pre++e'::post) (i+1) (some (pre.length,e')) ⟨pre,post,rfl,rfl,fun y hy=>h3 y (zaa _ hy),h4⟩;refine this.trans ?_;rw[h2];simp only[fh,zbi];congr 3;omega
theorem bc {t:TypeId}{d:TypeDesc}{a b:Value}{c:Bool}(hu:P.underlying t=some d)(h:Instr.sameNow d a b=some c)(w:World):(Op.equal t a b).run P w=.ok c w:=by
 unfold Instr.sameNow at h;split at h
 ·rename_i kd k a k' b;by_cases hk:k=k'
  ·subst hk;rw[if_pos rfl]at h;cases h;exact run_equalIn_int w 9999 t k kd a b hu
  ·rw[if_neg hk]at h;cases h
 ·rename_i a b;cases h;have:=run_equalIn_string w 9999 t a b hu;rw[<-beq_toListBytes]at this;exact this
 ·rename_i a b;cases h;exact run_equalIn_bool' w 9999 t a b hu
 ·cases h
theorem B1 {t:TypeId}{d:TypeDesc}{k:AV}{ι:En}(hu:P.underlying t=some d):∀(es:List ME)(i:Nat)(r:Option (Nat×ME))(q:Option (Nat×Value)),Found P t k es r->Instr.findNow d (ak ι k) (es.map (dM ι)) i=some q->q=fh ι i r
 | [],i,none,q,h,hq=>by cases hq;rfl
 | [],i,some (j,e),q,h,hq=>by obtain⟨pre,post,h1,_⟩:=h;cases pre<;>cases h1
 |e::es,i,r,q,h,hq=>by
  simp only[zal,Instr.findNow,dM]at hq;cases hs:Instr.sameNow d (ak ι k) (ak ι e.key)with
  |none=>rw[hs]at hq;cases hq
  |some c =>
   rw[hs]at hq;have hc:=bc hu hs default;cases r with
   |none =>
    have he:=iO (h e (zac ..)) ι default;rw[hc]at he;cases he;exact B1 hu es (i+1) none q (fun x hx=>h x (zaa _ hx)) hq
   |some je =>
    obtain⟨j,e'⟩:=je;obtain⟨pre,post,h1,h2,h3,h4⟩:=h;cases pre with
    |nil =>
     cases h1;have he:=iO h4 ι default;rw[hc]at he;cases he;cases hq;rw[h2];rfl
    |cons x pre =>
     cases h1;have he:=iO (h3 e (zac ..)) ι default;rw[hc]at he;cases he;have:=B1 hu (pre++e'::post) (i+1) (some (pre.length,e')) q ⟨pre,post,rfl,rfl,fun y hy=>h3 y (zaa _ hy),h4⟩ hq;rw[this,h2];simp only[fh,zbi];congr 2;omega
theorem fX {t:TypeId}{d:TypeDesc}{k:AV}{ι:En}{w:World}{es:List ME}{r:Option (Nat×ME)}(hu:P.underlying t=some d)(h:Found P t k es r):(Instr.findKey t (ak ι k) (es.map (dM ι))).run P w=.ok (fh ι 0 r) w:=by
 unfold Instr.findKey;rw[Sem.run_bind,ay hu,Result.andThen_ok];cases hn:Instr.findNow d (ak ι k) (es.map (dM ι)) 0 with
 |none=>exact qV es 0 r h
 |some q=>simp only[Sem.run_pure];rw[B1 hu es 0 r q h hn]
end
end Go.aK
namespace Go.aK
open Go.RowKit
section
variable {hp:Tr AO}{id:Pz}{x y:AO}
def jD (w:World)(b:Nat)(E:Array MapEntry)(cl:Nat):World:={ w with heap:=w.heap.setIfInBounds b (.map E cl) }
theorem fH {es es':List ME}{cl cl':Nat}(ho:hp.get id=some (.map es cl)):(∀nx,Wf hp nx->Wf (hp.set id (.map es' cl')) nx)/\∀B w0 ι w,Core B w0 ι hp w->∀E':Array MapEntry,E'.toList=es'.map (dM ι)->Core B w0 ι (hp.set id (.map es' cl')) (jD w (ι.aY id) E' cl'):=by
 refine⟨fun nx hw=>ql hw ho rfl (fun _ _ h=>by cases h) rfl (fun _ _ h=>by cases h),fun B w0 ι w hc E' hE=>?_⟩;obtain⟨E,h1,h2⟩:=hc.obj _ _ ho;have hb:=hc.base _ _ ho trivial;have hlt:=(Array.getElem?_eq_some_iff.1 h1).1
 have hoth:∀b,b≠ι.aY id->(jD w (ι.aY id) E' cl').heap[b]?=w.heap[b]?:=fun b hbne=>by
  show (w.heap.setIfInBounds _ _)[b]?=_;rw[zcf (fun e=>hbne e.symm)]
 refine kW ho rfl (fun _ _ h=>by cases h) rfl (fun _ _ h=>by cases h) hc (hc.below.trans ⟨rfl,rfl,rfl,by simp[jD],fun b hb'=>hoth b (fun e=>hb (e▸hb'))⟩) (fun k hk=>by simp[jD];exact hc.room k hk) hoth ⟨E',?_,hE⟩;show (w.heap.setIfInBounds _ _)[ι.aY id]?=_;simp[hlt]
end
end Go.aK
namespace Go.aK
open Go.RowKit
section
variable {P:Program}{o:Oper}{tm:Tm}{hp:Tr AO}{nx:Pz}{k:AV->Tr AO->Pz->Rs}{call:bH}
theorem zQ {a b:AV}(h:tB a b=true)(ι:En):ak ι a=ak ι b/\∀n,Instr.sameBits n (ak ι a) (ak ι b)=true:=by
 unfold tB at h;split at h
 ·rename_i x y;obtain rfl:x=y:=by simpa using h
  exact⟨rfl,fun n=>by cases n<;>simp[ak,Instr.sameBits]⟩
 ·simp only[za,decide_eq_true_eq,beq_iff_eq]at h;obtain⟨rfl,rfl⟩:=h;exact⟨rfl,fun n=>by cases n<;>simp[ak,Instr.sameBits]⟩
 ·rw[dZ]at h;have h:=by simpa using h
  simp only[ak];rw[h];exact⟨rfl,fun n=>by cases n<;>(simp only[Instr.sameBits];rw[beq_toListBytes];exact beq_self_eq_true _)⟩
 ·cases h
theorem zR (ι:En):∀{as bs:List AV},vF as bs=true->aq ι as=aq ι bs/\∀n,((aq ι as).zip (aq ι bs)).all (fun (x,y)=>Instr.sameBits n x y)=true
 | [],[],_=>⟨rfl,fun n=>rfl⟩
 | [],_::_,h=>by cases h
 |_::_,[],h=>by cases h
 |a::as,b::bs,h=>by
  simp only[vF,za]at h;obtain⟨h1,h2⟩:=zQ h.1 ι;obtain⟨h3,h4⟩:=zR ι h.2;exact⟨by simp only[aq];rw[h1,h3],fun n=>by simp only[aq,List.zip_cons_cons,zdv,za];exact⟨h2 n,h4 n⟩⟩
theorem ub {a b:AV}(h:oz a b=true)(ι:En):ak ι a=ak ι b/\Instr.sameBits 10000 (ak ι a) (ak ι b)=true:=by
 unfold oz at h;split at h
 ·obtain⟨h1,h2⟩:=zR ι h;refine⟨by simp only[ak];rw[h1],?_⟩;simp only[ak,Instr.sameBits,za];refine⟨by rw[h1];simp,?_⟩;have:=h2 9999;simpa using this
 ·obtain⟨h1,h2⟩:=zQ h ι;exact⟨h1,h2 _⟩
theorem iD {t:TypeId}{d:TypeDesc}(hu:P.underlying t=some d)(hd:d=.bool∨(∃kd,d=.int kd)∨d=.string)(e:Bool)(n:Nat)(v:Value)(w:World):(Instr.checkKey e (n+1) t v).run P w=.ok () w:=by
 unfold Instr.checkKey;rw[Sem.run_bind,ay hu,Result.andThen_ok];rcases hd with rfl|⟨kd,rfl⟩|rfl<;>rfl
theorem nU:∀(d:Nat){t:TypeId}{v:AV},BI P d t v=true->(∃dd,P.underlying t=some dd)/\∀e n ι w,(Instr.checkKey e (n+d) t (ak ι v)).run P w=.ok () w
 |0,t,v,h=>by cases h
 |d+1,t,v,h=>by
  unfold BI at h;split at h
  ·rename_i hu;exact⟨⟨_,hu⟩,fun e n ι w=>iD hu (.inl rfl) e (n+d) _ w⟩
  ·rename_i hu;exact⟨⟨_,hu⟩,fun e n ι w=>iD hu (.inr (.inl ⟨_,rfl⟩)) e (n+d) _ w⟩
  ·rename_i hu;exact⟨⟨_,hu⟩,fun e n ι w=>iD hu (.inr (.inr rfl)) e (n+d) _ w⟩
  ·rename_i fs hu;cases v with
   |agg cs =>
    simp only at h;refine⟨⟨_,hu⟩,fun e n ι w=>?_⟩;rw[show n+(d+1)=(n+d)+1 by omega];unfold Instr.checkKey;rw[Sem.run_bind,ay hu,Result.andThen_ok];simp only[ak];rw[<-Array.forIn_toList];generalize fs.toList=l at h
    induction l with
    |nil=>rfl
    |cons f l ih =>
     rw[zdv,za]at h;obtain⟨h1,h3⟩:=h
     obtain⟨u,hp',hc⟩:∃u,(part f.type (aq ι cs).toArray f.offset).run P w=.ok (ak ι u) w/\(Instr.checkKey e (n+d) f.type (ak ι u)).run P w=.ok () w:=by
      cases hagg:ec P f.type with
      |true =>
       rw[hagg]at h1;exact⟨_,tR hagg ι w,(nU d h1).2 e n ι w⟩
      |false =>
       rw[hagg]at h1;simp only at h1;cases hg:cs[f.offset]? with
       |none=>rw[hg]at h1;cases h1
       |some u =>
        rw[hg]at h1;simp only at h1;obtain⟨⟨dd,hd⟩,hk⟩:=nU d h1;exact⟨u,nh (by unfold cM;rw[hd];rfl) hagg hg ι w,hk e n ι w⟩
     have ih:=ih h3;rw[List.forIn_cons];rw[Sem.run_bind]at ih;by_cases hn:f.name≠"_"
     ·simp only[if_pos hn,Sem.run_bind,hp',hc,Result.andThen_ok,Sem.run_pure];exact ih
     ·simp only[if_neg hn,Sem.run_bind,Result.andThen_ok,Sem.run_pure];exact ih
   |_=>cases h
  ·rename_i nn e hu;split at h
   ·rename_i a b;simp only[za,zam]at h;obtain⟨⟨h1,ha,hi,hs⟩,h3,h4⟩:=h;obtain rfl:=zab h1;obtain⟨i,hi⟩:=Option.isSome_iff_exists.1 hi;have hs:P.cellsOf e=1:=zab hs;obtain⟨⟨dd,hd⟩,k3⟩:=nU d h3;obtain⟨_,k4⟩:=nU d h4;refine⟨⟨_,hu⟩,fun em n ι w=>?_⟩;rw[show n+(d+1)=(n+d)+1 by omega];unfold Instr.checkKey;rw[Sem.run_bind,ay hu,Result.andThen_ok];simp only[ak];have p0:∀w,(part e (aq ι [a,b]).toArray 0).run P w=.ok (ak ι a) w:=fun w=>nh (by unfold cM;rw[hd];rfl) ha (by rfl) ι w;have p1:∀w,(part e (aq ι [a,b]).toArray 1).run P w=.ok (ak ι b) w:=fun w=>nh (by unfold cM;rw[hd];rfl) ha (by rfl) ι w;simp only[Std.Legacy.Range.forIn_eq_forIn_range',Std.Legacy.Range.size,zet,Nat.add_one_sub_one,Nat.div_one,List.range',List.forIn_cons,List.forIn_nil,Sem.run_bind,run_sizeOf w hi,Result.andThen_ok,hs,zbw,zez,zap,zey,p0,p1,k3,k4,Sem.run_pure]
   ·cases h
  ·cases h
theorem nV {t:TypeId}{v:AV}{r:Rs}(h:kj P t v r=.ok):r=.ok/\(∃d,P.underlying t=some d)/\∀e ι w,(Instr.checkKey e 10000 t (ak ι v)).run P w=.ok () w:=by
 unfold kj at h;split at h
 ·rename_i hu;exact⟨h,⟨_,hu⟩,fun e ι w=>iD hu (.inl rfl) e 9999 _ w⟩
 ·rename_i hu;exact⟨h,⟨_,hu⟩,fun e ι w=>iD hu (.inr (.inl ⟨_,rfl⟩)) e 9999 _ w⟩
 ·rename_i hu;exact⟨h,⟨_,hu⟩,fun e ι w=>iD hu (.inr (.inr rfl)) e 9999 _ w⟩
 ·obtain⟨h1,h⟩:=aJ h;obtain⟨h2,h3⟩:=nU 4 h1;exact⟨h,h2,fun e ι w=>h3 e 9996 ι w⟩
 ·obtain⟨h1,h⟩:=aJ h;obtain⟨h2,h3⟩:=nU 4 h1;exact⟨h,h2,fun e ι w=>h3 e 9996 ι w⟩
 ·cases h
theorem bO {w:World}{b:Nat}{E:Array MapEntry}{cl:Nat}(h:w.heap[b]?=some (.map E cl)):(getObj b).run P w=.ok (.map E cl) w:=by
 simp[getObj,Sem.run,h]
theorem fi {w:World}{b:Nat}{E E':Array MapEntry}{cl cl':Nat}(h:w.heap[b]?=some (.map E cl)):(setObj b (.map E' cl')).run P w=.ok () (jD w b E' cl'):=by
 simp[setObj,Sem.run,h,jD]
theorem qn {v:AV}{kk:Pz->List ME->Nat->Rs}(h:pR hp v kk=.ok):∃id es c,v=.map id/\hp.get id=some (.map es c)/\kk id es c=.ok:=by
 unfold pR at h;cases v with
 |map id =>
  have h:hp.gx id (.bad 102) (fun o=>oP o fun es c=>kk id es c)=.ok:=h;obtain⟨ob,ho,h⟩:=dm h;cases ob with
  |map es c=>exact⟨id,es,c,rfl,ho,h⟩
  |_=>cases h
 |_=>cases h
theorem Fu {t kt et:TypeId}{m i:Operand}{ok:Bool}{z:AV}(ho:o.op=.lookup t m i ok)(hu:P.underlying t=some (.map kt et))(hz:zeroOf P et=some z)
  (h:((cQ m).run tm fun m=>(cQ i).run tm fun i=>kj P kt i (match m with
    |.bg=>Bool.rec (motive:=fun _=>Rs) (k z hp nx) (k (.cN [z,.bool false]) hp nx) ok
    |m=>pR hp m fun _ es _=>mg P kt i es 0 (Bool.rec (motive:=fun _=>Rs) (k z hp nx) (k (.cN [z,.bool false]) hp nx) ok) fun _ e=>Bool.rec (motive:=fun _=>Rs) (k e.val hp nx) (k (.cN [e.val,.bool true]) hp nx) ok))=.ok):dz P o tm hp nx k:=by
 obtain⟨mv,h,hm⟩:=aQ h;obtain⟨iv,h,hi⟩:=aQ h;obtain⟨h,⟨d,hd⟩,hchk⟩:=nV h;obtain⟨_,zv,_,_,_,hzero⟩:=cG hz
 have outK:∀{v:AV} {b:Bool},(Bool.rec (motive:=fun _=>Rs) (k v hp nx) (k (.cN [v,.bool b]) hp nx) ok)=.ok->k (if ok then .cN [v,.bool b]else v) hp nx=.ok:=by
  intro v b h;cases ok<;>exact h
 have big:pR hp mv (fun _ es _=>mg P kt iv es 0 (Bool.rec (motive:=fun _=>Rs) (k z hp nx) (k (.cN [z,.bool false]) hp nx) ok) fun _ e=>Bool.rec (motive:=fun _=>Rs) (k e.val hp nx) (k (.cN [e.val,.bool true]) hp nx) ok)=.ok->dz P o tm hp nx k:=by
  intro h;obtain⟨id,es,c,rfl,hob,h⟩:=qn h;rcases np _ _ _ _ h with ⟨h,hf⟩|⟨j,e,h,hf⟩
  ·have key:gK P o tm hp (if ok then .cN [z,.bool false]else z):=fun B w0 ι nt a w ha hc=>by
     obtain⟨E,h1,h2⟩:=hc.obj _ _ hob;have hfind:=fX (ι:=ι) (w:=w) hd hf;simp only[execOp,ho,Sem.run_bind];rw[hm ι nt a ha,hi ι nt a ha];simp only[ak,Instr.lookup,Sem.run_bind,ay hu,Result.andThen_ok,bO h1,Sem.run_pure,hchk,h2,hfind,fh,hzero ι];cases ok<;>simp[ak,aq]
   exact bJ key (outK h)
  ·have key:gK P o tm hp (if ok then .cN [e.val,.bool true]else e.val):=fun B w0 ι nt a w ha hc=>by
     obtain⟨E,h1,h2⟩:=hc.obj _ _ hob;have hfind:=fX (ι:=ι) (w:=w) hd hf;simp only[execOp,ho,Sem.run_bind];rw[hm ι nt a ha,hi ι nt a ha];simp only[ak,Instr.lookup,Sem.run_bind,ay hu,Result.andThen_ok,bO h1,Sem.run_pure,hchk,h2,hfind,fh];cases ok<;>simp[ak,aq]
   exact bJ key (outK h)
 cases mv with
 |bg =>
  have key:gK P o tm hp (if ok then .cN [z,.bool false]else z):=fun B w0 ι nt a w ha hc=>by
   have hfind:=fX (ι:=ι) (w:=w) (es:=[]) (r:=none) (k:=iv) hd (fun e he=>by simp at he);simp only[execOp,ho,Sem.run_bind];rw[hm ι nt a ha,hi ι nt a ha];simp only[ak,Instr.lookup,Sem.run_bind,ay hu,Result.andThen_ok,Sem.run_pure,hchk];rw[show ([]:List MapEntry)=([]:List ME).map (dM ι)from rfl,hfind];simp only[fh,Result.andThen_ok,Sem.run_bind,hzero ι,Sem.run_pure];cases ok<;>simp[ak,aq]
  exact bJ key (outK h)
 |_=>exact big h
theorem qW {v:AV}:∀(j:Nat){es:List ME}{kk:List ME->Rs},pQ v j es kk=.ok->∃e,es[j]?=some e/\kk (es.set j ⟨e.key,v,e.born⟩)=.ok
 |0,[],kk,h=>by cases h
 |0,e::es,kk,h=>⟨e,rfl,h⟩
 |j+1,[],kk,h=>by cases h
 |j+1,e::es,kk,h=>by
  obtain⟨e',h1,h2⟩:=qW j (es:=es) (kk:=fun t=>kk (e::t)) h;exact⟨e',by simpa using h1,by simpa using h2⟩
theorem uc (e:ME):∀(es:List ME)(kk:List ME->Rs),vG e es kk=kk (es++[e])
 | [],kk=>rfl
 |x::es,kk=>by
  show vG e es (fun t=>kk (x::t))=_;rw[uc e es];rfl
theorem zU:∀(j:Nat){es:List ME}{kk:List ME->Rs},De j es kk=.ok->kk (es.eraseIdx j)=.ok/\j<es.length
 |0,[],kk,h=>by cases h
 |0,e::es,kk,h=>⟨h,by simp⟩
 |j+1,[],kk,h=>by cases h
 |j+1,e::es,kk,h=>by
  obtain⟨h1,h2⟩:=zU j (es:=es) (kk:=fun t=>kk (e::t)) h;exact⟨by simpa using h1,by simpa using h2⟩
theorem zV {b:Nat}:∀(es:List ME)(i:Nat)(kk:Nat->Rs),Dg b es i kk=.ok->∃j,kk (i+j)=.ok/\∀ι,(es.map (dM ι)).findIdx? (fun e=>(e.born:Int)==(b:Int))=some j
 | [],i,kk,h=>by cases h
 |e::es,i,kk,h=>by
  rcases bW (b:=Nat.beq e.born b) (x:=kk i) (y:=bo (i+1) fun i=>Dg b es i kk) h with ⟨hb,h⟩|⟨hb,h⟩
  ·exact⟨0,h,fun ι=>by rw[zal,List.findIdx?_cons,if_pos (by simp[dM,aj hb])]⟩
  ·rw[aM]at h;obtain⟨j,h1,h2⟩:=zV es _ _ h;refine⟨j+1,by rw[show i+(j+1)=i+1+j by omega];exact h1,fun ι=>?_⟩;have hne:=qR hb;rw[zal,List.findIdx?_cons,if_neg (by simp[dM];omega),h2 ι];rfl
theorem qo (E:Array MapEntry)(j:Nat)(f:MapEntry->MapEntry)(l:List MapEntry)(h:E.toList=l):(E.modify j f).toList=l.modify j f:=by rw[Array.toList_modify,h]
theorem nq (ι:En)(v:AV)(kn:Value):∀(es:List ME)(j:Nat)(e:ME),es[j]?=some e->kn=ak ι e.key->(es.map (dM ι)).modify j (fun x=>{ x with key:=kn,val:=ak ι v })=(es.set j ⟨e.key,v,e.born⟩).map (dM ι)
 | [],j,e,h,_=>by simp at h
 |x::es,0,e,h,hk=>by
  simp only[zba,Option.some.injEq]at h;subst h;simp[dM,hk]
 |x::es,j+1,e,h,hk=>by
  have:=nq ι v kn es j e (by simpa using h) hk;simp only[zal,zem,List.set_cons_succ];rw[this]
theorem v9 (ι:En)(kn:Value):∀(es:List ME)(j:Nat)(e:ME),es[j]?=some e->kn=ak ι e.key->(es.map (dM ι)).modify j (fun x=>{ x with key:=kn })=es.map (dM ι)
 | [],j,e,h,_=>by simp at h
 |x::es,0,e,h,hk=>by
  simp only[zba,Option.some.injEq]at h;subst h;simp[dM,hk]
 |x::es,j+1,e,h,hk=>by
  have:=v9 ι kn es j e (by simpa using h) hk;simp only[zal,zem];rw[this]
theorem zW (ι:En)(v:AV):∀(es:List ME)(j:Nat)(e:ME),es[j]?=some e->(es.map (dM ι)).modify j (fun x=>{ x with val:=ak ι v })=(es.set j ⟨e.key,v,e.born⟩).map (dM ι)
 | [],j,e,h=>by simp at h
 |x::es,0,e,h=>by
  simp only[zba,Option.some.injEq]at h;subst h;simp[dM]
 |x::es,j+1,e,h=>by
  have:=zW ι v es j e (by simpa using h);simp only[zal,zem,List.set_cons_succ];rw[this]
theorem ud {t:TypeId}{kv:AV}{es:List ME}{j:Nat}{e:ME}(h:Found P t kv es (some (j,e))):es[j]?=some e:=by
 obtain⟨pre,post,h1,h2,_⟩:=h;rw[h1,h2];simp
theorem PH {ι:En}{E:Array MapEntry}{es:List ME}{j:Nat}{e:ME}(h2:E.toList=es.map (dM ι))(hj:es[j]?=some e):E[j]?=some (dM ι e):=by
 rw[<-zcj,h2,zcd,hj];rfl
theorem wa {t kt et:TypeId}{m i x:Operand}(ho:o.op=.mapUpdate t m i x∨o.op=.insert t m i x)(hu:P.underlying t=some (.map kt et))
  (h:((cQ m).run tm fun m=>(cQ i).run tm fun i=>(cQ x).run tm fun x=>kj P kt i (pR hp m fun id es c =>
    mg P kt i es 0 (vG ⟨i,x,c⟩ es fun es=>bo (c+1) fun c=>hp.du id (.map es c) fun hp=>k aG hp nx)
     fun j e=>bM (oz e.key i) (pQ x j es fun es=>hp.du id (.map es c) fun hp=>k aG hp nx) (.bad 107)))=.ok):jT P o tm hp nx k:=by
 obtain⟨mv,h,hm⟩:=aQ h;obtain⟨iv,h,hi⟩:=aQ h;obtain⟨xv,h,hx⟩:=aQ h;obtain⟨h,⟨d,hd⟩,hchk⟩:=nV h;obtain⟨id,es,c,rfl,hob,h⟩:=qn h
 have hexec:∀(a:Act),execOp a.eval o=(do Instr.mapUpdate t (a.eval m) (a.eval i) (a.eval x);pure .skip):=by
  intro a;rcases ho with ho|ho<;>simp only[execOp,ho]
 rcases np _ _ _ _ h with ⟨h,hf⟩|⟨j,e,h,hf⟩
 ·rw[uc,aM,Tr.cK]at h
  have key:Fg P o tm hp nx aG (hp.set id (.map (es++[⟨iv,xv,c⟩]) (c+1))):=by
   refine⟨(fH hob).1 nx,fun B w0 ι nt a w hw ha hc=>?_⟩;obtain⟨E,h1,h2⟩:=hc.obj _ _ hob;have hfind:=fX (ι:=ι) (w:=w) hd hf;refine⟨_,undef,.inr ⟨?_,rfl⟩,(dq ι).symm,(fH hob).2 B w0 ι w hc (E.push ⟨ak ι iv,ak ι xv,c⟩) (by simp[h2,dM])⟩;rw[hexec,hm ι nt a ha,hi ι nt a ha,hx ι nt a ha];simp only[ak,Instr.mapUpdate,Sem.run_bind,ay hu,Result.andThen_ok,bO h1,hchk,h2,hfind,fh,fi h1,Sem.run_pure]
  exact key.Ff.to h
 ·obtain⟨hb,h⟩:=aJ h;rw[zap]at h;obtain⟨e',he',h⟩:=qW _ h;rw[Tr.cK]at h;have hat:=ud hf;rw[hat]at he';cases he'
  have key:Fg P o tm hp nx aG (hp.set id (.map (es.set j ⟨e.key,xv,e.born⟩) c)):=by
   refine⟨(fH hob).1 nx,fun B w0 ι nt a w hw ha hc=>?_⟩;obtain⟨E,h1,h2⟩:=hc.obj _ _ hob;have hfind:=fX (ι:=ι) (w:=w) hd hf;obtain⟨hb1,hb2⟩:=ub hb ι;refine⟨_,undef,.inr ⟨?_,rfl⟩,(dq ι).symm,(fH hob).2 B w0 ι w hc (E.modify j fun y=>{ y with key:=ak ι iv,val:=ak ι xv }) (by rw[qo _ _ _ _ h2];exact nq ι xv _ es j e hat hb1.symm)⟩;rw[hexec,hm ι nt a ha,hi ι nt a ha,hx ι nt a ha];simp only[ak,Instr.mapUpdate,Sem.run_bind,ay hu,Result.andThen_ok,bO h1,hchk,h2,hfind,fh,zap,PH h2 hat,zaz,zcb,Instr.keyThatStays];rw[show (dM ι e).key=ak ι e.key from rfl,hb2];simp only[if_true,Sem.run_pure,Result.andThen_ok,fi h1]
  exact key.Ff.to h
theorem Hj {t kt et:TypeId}{m i:Operand}{z:AV}(ho:o.op=.mapEntry t m i)(hu:P.underlying t=some (.map kt et))(hz:zeroOf P et=some z)
  (h:((cQ m).run tm fun m=>(cQ i).run tm fun i=>kj P kt i (pR hp m fun id es c =>
    mg P kt i es 0 (vG ⟨i,z,c⟩ es fun es=>bo (c+1) fun c'=>hp.du id (.map es c') fun hp=>k (.cN [z,.int .i64 (.ofNat c)]) hp nx)
     fun _ e=>bM (oz e.key i) (hp.du id (.map es c) fun hp=>k (.cN [e.val,.int .i64 (.ofNat e.born)]) hp nx) (.bad 107)))=.ok):jT P o tm hp nx k:=by
 obtain⟨mv,h,hm⟩:=aQ h;obtain⟨iv,h,hi⟩:=aQ h;obtain⟨h,⟨d,hd⟩,hchk⟩:=nV h;obtain⟨id,es,c,rfl,hob,h⟩:=qn h;obtain⟨_,zv,_,_,_,hzero⟩:=cG hz;rcases np _ _ _ _ h with ⟨h,hf⟩|⟨j,e,h,hf⟩
 ·rw[uc,aM,Tr.cK]at h
  have key:Fg P o tm hp nx (.cN [z,.int .i64 (.ofNat c)]) (hp.set id (.map (es++[⟨iv,z,c⟩]) (c+1))):=by
   refine⟨(fH hob).1 nx,fun B w0 ι nt a w hw ha hc=>?_⟩;obtain⟨E,h1,h2⟩:=hc.obj _ _ hob;have hfind:=fX (ι:=ι) (w:=w) hd hf;refine⟨_,_,.inl ?_,rfl,(fH hob).2 B w0 ι w hc (E.push ⟨ak ι iv,ak ι z,c⟩) (by simp[h2,dM])⟩;simp only[execOp,ho];rw[hm ι nt a ha,hi ι nt a ha];simp only[ak,aq,Instr.mapEntry,Sem.run_bind,ay hu,Result.andThen_ok,bO h1,hchk,h2,hfind,fh,hzero ι,fi h1,Sem.run_pure,goInt];rfl
  exact key.Ff.to h
 ·obtain⟨hb,h⟩:=aJ h;rw[Tr.cK]at h;have hat:=ud hf
  have key:Fg P o tm hp nx (.cN [e.val,.int .i64 (.ofNat e.born)]) (hp.set id (.map es c)):=by
   refine⟨(fH hob).1 nx,fun B w0 ι nt a w hw ha hc=>?_⟩;obtain⟨E,h1,h2⟩:=hc.obj _ _ hob;have hfind:=fX (ι:=ι) (w:=w) hd hf;obtain⟨hb1,hb2⟩:=ub hb ι;refine⟨_,_,.inl ?_,rfl,(fH hob).2 B w0 ι w hc (E.modify j fun y=>{ y with key:=ak ι iv }) (by rw[qo _ _ _ _ h2];exact v9 ι _ es j e hat hb1.symm)⟩;simp only[execOp,ho];rw[hm ι nt a ha,hi ι nt a ha];simp only[ak,aq,Instr.mapEntry,Sem.run_bind,ay hu,Result.andThen_ok,bO h1,hchk,h2,hfind,fh,zap,PH h2 hat,zaz,zcb,Instr.keyThatStays];rw[show (dM ι e).key=ak ι e.key from rfl,hb2];simp only[if_true,Sem.run_pure,Sem.run_bind,Result.andThen_ok,fi h1,goInt,dM];rfl
  exact key.Ff.to h
theorem vo {t:TypeId}{m s x:Operand}(ho:o.op=.entryStore t m s x)
  (h:((cQ m).run tm fun m=>(cQ s).run tm fun s=>(cQ x).run tm fun x=>pR hp m fun id es c=>asNat s fun b =>
  Dg b es 0 fun j=>pQ x j es fun es=>hp.du id (.map es c) fun hp=>k aG hp nx)=.ok):jT P o tm hp nx k:=by
 obtain⟨mv,h,hm⟩:=aQ h;obtain⟨sv,h,hsv⟩:=aQ h;obtain⟨xv,h,hx⟩:=aQ h;obtain⟨id,es,c,rfl,hob,h⟩:=qn h;obtain⟨kd,b,rfl,h⟩:=jC h;obtain⟨j,h,hj⟩:=zV _ _ _ h;rw[zap]at h;obtain⟨e,he,h⟩:=qW _ h;rw[Tr.cK]at h
 have key:Fg P o tm hp nx aG (hp.set id (.map (es.set j ⟨e.key,xv,e.born⟩) c)):=by
  refine⟨(fH hob).1 nx,fun B w0 ι nt a w hw ha hc=>?_⟩;obtain⟨E,h1,h2⟩:=hc.obj _ _ hob;refine⟨_,undef,.inr ⟨?_,rfl⟩,(dq ι).symm,(fH hob).2 B w0 ι w hc (E.modify j fun y=>{ y with val:=ak ι xv }) (by rw[qo _ _ _ _ h2];exact zW ι xv es j e he)⟩
  have hfi:E.findIdx? (fun e=>(e.born:Int)==(b:Int))=some j:=by
   have e1:E=E.toList.toArray:=rfl;rw[<-hj ι,<-h2];exact List.findIdx?_toArray _ E.toList
  simp only[execOp,ho];rw[hm ι nt a ha,hsv ι nt a ha,hx ι nt a ha,eJ];simp only[ak,Instr.entryStore,Sem.run_bind,Result.andThen_ok,bO h1,Go.asInt,asIntOf,Sem.run_pure,hfi,fi h1]
 exact key.Ff.to h
theorem Fv {c:Call}{b:Builtin}{ts:TypeId}{tss:List TypeId}{s x:Operand}(ho:o.op=.call c)(hc:c.callee=.builtin b)(ht:c.argTypes.toList=ts::tss)(hx:c.args.toList=[s,x]){a:Act}{w:World}{f:Array TypeId->TypeId->Array Value->Sem Value}
  (hb:∀ats ty cs as,builtin b ats ty cs as=(do pure (.value (<-f ats ty as)))):(execOp a.eval o).run P w=((f (ts::tss).toArray o.type #[a.eval s,a.eval x]).run P w).andThen fun v w'=>.ok (.value v) w':=by
 have hargs:c.args.map a.eval=#[a.eval s,a.eval x]:=by rw[map_mk,hx];rfl
 have hats:c.argTypes=(ts::tss).toArray:=by apply Array.ext';rw[ht]
 simp only[execOp,ho,resolve,hc,hargs,hats,Sem.run_bind,Sem.run_pure,Result.andThen_ok,invoke,hb]
theorem oE (ι:En):∀(es:List ME)(j:Nat),(es.map (dM ι)).eraseIdx j=(es.eraseIdx j).map (dM ι)
 | [],j=>by simp
 |e::es,0=>by simp
 |e::es,j+1=>by simp[oE ι es j]
theorem Fw {c:Call}{t kt et:TypeId}{ts:List TypeId}{m i:Operand}(ho:o.op=.call c)(hc:c.callee=.builtin .delete)(ht:c.argTypes.toList=t::ts)(hx:c.args.toList=[m,i])(hu:P.underlying t=some (.map kt et))
  (h:((cQ m).run tm fun m=>(cQ i).run tm fun i=>kj P kt i (match m with
    |.bg=>k aG hp nx
    |m=>pR hp m fun id es c=>mg P kt i es 0 (hp.du id (.map es c) fun hp=>k aG hp nx) fun j _=>De j es fun es=>hp.du id (.map es c) fun hp=>k aG hp nx))=.ok):jT P o tm hp nx k:=by
 obtain⟨mv,h,hm⟩:=aQ h;obtain⟨iv,h,hi⟩:=aQ h;obtain⟨h,⟨d,hd⟩,hchk⟩:=nV h;have hrun:∀(a:Act) (w:World),(execOp a.eval o).run P w=((Builtin.delete_ (t::ts).toArray o.type #[a.eval m,a.eval i]).run P w).andThen fun v w'=>.ok (.value v) w':=fun a w=>Fv ho hc ht hx (fun _ _ _ _=>rfl)
 have big:pR hp mv (fun id es c=>mg P kt iv es 0 (hp.du id (.map es c) fun hp=>k aG hp nx) fun j _=>De j es fun es=>hp.du id (.map es c) fun hp=>k aG hp nx)=.ok->jT P o tm hp nx k:=by
  intro h;obtain⟨id,es,c,rfl,hob,h⟩:=qn h;rcases np _ _ _ _ h with ⟨h,hf⟩|⟨j,e,h,hf⟩
  ·rw[Tr.cK]at h
   have key:Fg P o tm hp nx aG (hp.set id (.map es c)):=by
    refine⟨(fH hob).1 nx,fun B w0 ι nt a w hw ha hc=>?_⟩;obtain⟨E,h1,h2⟩:=hc.obj _ _ hob;have hfind:=fX (ι:=ι) (w:=w) hd hf;refine⟨_,undef,.inl ?_,(dq ι).symm,(fH hob).2 B w0 ι w hc E h2⟩;rw[hrun,hm ι nt a ha,hi ι nt a ha];simp only[Builtin.delete_,zao,zba,zbn,ak,Sem.run_bind,ay hu,Result.andThen_ok,bO h1,hchk,h2,hfind,fh,fi h1,Sem.run_pure];rfl
   exact key.Ff.to h
  ·rw[zap]at h;obtain⟨h,hlt⟩:=zU _ h;rw[Tr.cK]at h
   have key:Fg P o tm hp nx aG (hp.set id (.map (es.eraseIdx j) c)):=by
    refine⟨(fH hob).1 nx,fun B w0 ι nt a w hw ha hc=>?_⟩;obtain⟨E,h1,h2⟩:=hc.obj _ _ hob;have hfind:=fX (ι:=ι) (w:=w) hd hf;refine⟨_,undef,.inl ?_,(dq ι).symm,(fH hob).2 B w0 ι w hc (E.eraseIdxIfInBounds j) (by rw[Array.toList_eraseIdxIfInBounds,h2,oE])⟩;rw[hrun,hm ι nt a ha,hi ι nt a ha];simp only[Builtin.delete_,zao,zba,zbn,ak,Sem.run_bind,ay hu,Result.andThen_ok,bO h1,hchk,h2,hfind,fh,zap,fi h1,Sem.run_pure];rfl
   exact key.Ff.to h
 cases mv with
 |bg =>
  have key:gK P o tm hp aG:=fun B w0 ι nt a w ha hcc=>by
   rw[hrun,hm ι nt a ha,hi ι nt a ha];simp only[Builtin.delete_,zao,zba,zbn,ak,Sem.run_bind,ay hu,Result.andThen_ok,hchk,Sem.run_pure];rfl
  exact (bJ key h).to
 |_=>exact big h
end
end Go.aK
namespace Go.aK
open Go.RowKit
section
variable {P:Program}{o:Oper}{tm:Tm}{hp:Tr AO}{nx:Pz}{k:AV->Tr AO->Pz->Rs}{call:bH}
theorem wb {c:Call}{b:Builtin}{s x:Operand}(ho:o.op=.call c)(hc:c.callee=.builtin b)(hx:c.args.toList=[s,x]){a:Act}{w:World}{f:Array TypeId->TypeId->Array Value->Sem Value}
  (hb:∀ats ty cs as,builtin b ats ty cs as=(do pure (.value (<-f ats ty as)))):(execOp a.eval o).run P w=((f c.argTypes o.type #[a.eval s,a.eval x]).run P w).andThen fun v w'=>.ok (.value v) w':=by
 have hargs:c.args.map a.eval=#[a.eval s,a.eval x]:=by rw[map_mk,hx];rfl
 simp only[execOp,ho,resolve,hc,hargs,Sem.run_bind,Sem.run_pure,Result.andThen_ok,invoke,hb]
theorem Kj {mx:Bool}{v y:AV}{kk:AV->Rs}(h:J0 mx v y kk=.ok):∃ka a b,v=.int ka a/\y=.int ka b/\kk (.int ka (if (if mx then b > a else b<a)then b else a))=.ok:=by
 obtain⟨ka,a,rfl,g⟩:=c8 h;obtain⟨kb,b,rfl,g2⟩:=c8 g;obtain⟨hk,g3⟩:=aJ g2;obtain rfl:=tM hk;clear h g g2;have h:=g3;clear g3;refine⟨ka,a,b,rfl,rfl,?_⟩;cases mx
 ·rcases bW h with ⟨hb,h⟩|⟨hb,h⟩
  ·have hb:b<a:=of_decide_eq_true hb;simpa [hb] using h
  ·have hb:¬b<a:=of_decide_eq_false hb;simpa [hb] using h
 ·rcases bW h with ⟨hb,h⟩|⟨hb,h⟩
  ·have hb:b > a:=of_decide_eq_true hb;simpa [hb] using h
  ·have hb:¬b > a:=of_decide_eq_false hb;simpa [hb] using h
theorem Hk {mx:Bool}{c:Call}{x y:Operand}(ho:o.op=.call c)(hc:c.callee=.builtin (if mx then .max else .min))(hx:c.args.toList=[x,y])(h:((cQ x).run tm fun a=>(cQ y).run tm fun b=>J0 mx a b fun v=>k v hp nx)=.ok):dz P o tm hp nx k:=by
 obtain⟨v,h,hv⟩:=aQ h;obtain⟨u,h,hu⟩:=aQ h;obtain⟨ka,p,q,rfl,rfl,g⟩:=Kj h;refine bJ (fun B w0 ι nt a w ha hcc=>?_) g;cases mx with
 |false =>
  rw[wb ho hc hx (f:=Builtin.min_) (fun _ _ _ _=>rfl),hv ι nt a ha,hu ι nt a ha];simp only[Builtin.min_,zej,zen,ak,Builtin.min2,Sem.run_bind,Sem.run_pure,Result.andThen_ok,zaf,if_false]
 |true =>
  rw[wb ho hc hx (f:=Builtin.max_) (fun _ _ _ _=>rfl),hv ι nt a ha,hu ι nt a ha];simp only[Builtin.max_,zej,zen,ak,Builtin.max2,Sem.run_bind,Sem.run_pure,Result.andThen_ok,if_true]
theorem wc (w:World)(a:Addr)(n b:Nat)(h:b≠a.block):(w.freeze a n).heap[b]?=w.heap[b]?:=by
 unfold World.freeze;split
 ·rfl
 ·show (w.heap.modify _ _)[b]?=_;rw[zcn,if_neg (fun e=>h e.symm)]
theorem se (w:World)(a:Addr)(n:Nat):(w.freeze a n).heap.size=w.heap.size:=by
 unfold World.freeze;split
 ·rfl
 ·simp
theorem Fx {w:World}{b:Nat}{C:Array Value}{el:TypeId}{fz:Nat×Nat}(h:w.heap[b]?=some (.cells C el fz))(hf:fR fz C.size):∃fz',(w.freeze ⟨b,C.size,none⟩ 1).heap[b]?=some (.cells C el fz')/\fR fz' C.size:=by
 obtain⟨lo,hi⟩:=fz;unfold World.freeze;rw[if_neg (by decide)];refine⟨if lo==hi then (C.size,C.size+1)else (min lo C.size,max hi (C.size+1)),?_,?_⟩
 ·show (w.heap.modify _ _)[b]?=_;rw[zcn,if_pos rfl,h];rfl
 ·by_cases he:lo=hi
  ·rw[if_pos (by simpa using he)];exact .inr (zad _)
  ·rw[if_neg (by simpa using he)];rcases hf with hf|hf
   ·exact absurd hf he
   ·exact .inr (by simp only at hf ⊢;omega)
theorem zX {s t e e':TypeId}{x:Operand}(ho:o.op=.convert s t x)(hs:P.underlying s=some (.slice e'))(ht:P.underlying t=some (.slice e))(he:P.underlying e=some (.int .u8))
  (h:((cQ x).run tm fun v=>match v with
   |.slice id off len cap=>bM (Nat.beq s t) (hp.gx id (.bad 230) fun o=>match o with
    |.arr _ _ _ _=>k (.slice id off len cap) hp nx
    |_=>.bad 231) (.bad 232)
   |_=>.bad 233)=.ok):jT P o tm hp nx k:=by
 obtain⟨v,h,hv⟩:=aQ h;cases v with
 |slice id off len cap =>
  obtain⟨zm,h⟩:=aJ h;have zm:=aj zm;obtain⟨ob,hob,h⟩:=dm h;cases ob with
  |arr es n el c =>
   have key:Fg P o tm hp nx (.slice id off len cap) hp:=by
    refine⟨fun hw=>hw,fun B w0 ι nt a w hw ha hc=>?_⟩;obtain⟨C,fz,h1,h2,h3,h4,h5⟩:=hc.obj _ _ hob;have hb:=hc.base _ _ hob trivial;obtain⟨fz',f1,f2⟩:=Fx h1 h5;refine⟨w.freeze ⟨ι.aY id,C.size,none⟩ 1,_,.inl ?_,rfl,?_⟩
    ·have hsh:w.shape? (ι.aY id)=some (el,C.size):=by
       unfold World.shape?;rw[h1]
     have hm:(markStringish ⟨ι.aY id,ι.sh id+off,none⟩).run P w=.ok () (w.freeze ⟨ι.aY id,C.size,none⟩ 1):=by
      simp only[markStringish,Sem.run_bind,run_shape,hsh,Result.andThen_ok,run_freeze]
     simp only[execOp,ho];rw[hv ι nt a ha];simp only[ak,convert,Sem.run_bind,ay hs,ay ht,ay he,Result.andThen_ok,show (s==t)=true by simp[zm],hm,Sem.run_pure]
    ·refine⟨hc.below.trans ⟨?_,?_,?_,by rw[se];exact zad _,fun b hb'=>wc _ _ _ _ (fun e=>hb (by have e:b=ι.aY id:=e;rw[<-e];exact hb'))⟩,fun b hb'=>by rw[se];exact hc.room b hb',fun i p hi=>?_,hc.base,hc.sep,hc.eZ⟩
     ·unfold World.freeze;split<;>rfl
     ·unfold World.freeze;split<;>rfl
     ·unfold World.freeze;split<;>rfl
     ·by_cases hi':i=id
      ·subst hi';rw[hob]at hi;cases hi;exact⟨C,fz',f1,h2,h3,h4,f2⟩
      ·refine (hc.obj i p hi).aU (fun x=>x) fun ho'=>wc _ _ _ _ (fun e=>?_);obtain⟨f,_,g⟩:=hc.sep _ _ _ _ hi' hi hob ho' trivial e;cases g
   exact key.Ff.to h
  |_=>cases h
 |_=>cases h
end
end Go.aK
namespace Go.aK
open Go.RowKit
section
variable {P:Program}{o:Oper}{tm:Tm}{hp:Tr AO}{nx:Pz}{k:AV->Tr AO->Pz->Rs}{call:bH}
theorem Kk {a b:Rs}(h:Pt a b=.ok):a=.ok/\b=.ok:=by
 cases a with
 |ok=>exact⟨rfl,h⟩
 |bad n=>cases h
theorem ue {o:AO}{kk:Pz->Nat->List Nat->Nat->Rs}(h:xd o kk=.ok):∃m s l c,o=.iter m s l c/\kk m s l c=.ok:=by
 cases o with
 |iter m s l c=>exact⟨m,s,l,c,rfl,h⟩
 |_=>cases h
theorem qX {o:AO}{kk:List ME->Nat->Rs}(h:oP o kk=.ok):∃es c,o=.map es c/\kk es c=.ok:=by
 cases o with
 |map es c=>exact⟨es,c,rfl,h⟩
 |_=>cases h
theorem xG (b:Nat):∀l,Ta b l=l.contains b
 | []=>rfl
 |x::l=>by
  show Bool.rec (motive:=fun _=>Bool) (Ta b l) true (Nat.beq x b)=_;rw[List.contains_cons];cases hb:Nat.beq x b with
  |true=>rw[aj hb];simp
  |false =>
   have:(b==x)=false:=by
    rw[beq_eq_false_iff_ne];intro e;subst e;rw[zcm]at hb;cases hb
   rw[this];simpa using xG b l
theorem Dy {since:Nat}:∀{es:List ME},Pu since es=true->∀e∈es,e.born<since
 | [],_,e,he=>by simp at he
 |x::es,h,e,he=>by
  have h:Bool.rec (motive:=fun _=>Bool) false (Pu since es) (Nat.blt x.born since)=true:=h;cases hb:Nat.blt x.born since with
  |false=>rw[hb]at h;cases h
  |true =>
   rw[hb]at h;rcases List.mem_cons.1 he with rfl|he
   ·exact ax hb
   ·exact Dy h e he
theorem nr {seen:List Nat}{z:Rs}{kk:ME->Rs}:∀{es:List ME}{sm:Bool},pS seen es z kk sm=.ok ->
  (∀e∈es,seen.contains e.born=false->kk e=.ok)/\(sm=false->(∀e∈es,seen.contains e.born=true)->z=.ok)
 | [],sm,h=>⟨fun e he=>by simp at he,fun hs _=>by subst hs;exact h⟩
 |x::es,sm,h=>by
  have h:Bool.rec (motive:=fun _=>Rs) (Pt (kk x) (pS seen es z kk true)) (pS seen es z kk sm) (Ta x.born seen)=.ok:=h;cases hb:Ta x.born seen with
  |true =>
   rw[hb]at h;obtain⟨h1,h2⟩:=nr h;rw[xG]at hb;refine⟨fun e he hn=>?_,fun hs ha=>h2 hs fun e he=>ha e (zaa _ he)⟩;rcases List.mem_cons.1 he with rfl|he
   ·rw[hb]at hn;cases hn
   ·exact h1 e he hn
  |false =>
   rw[hb]at h;obtain⟨h0,h⟩:=Kk h;obtain⟨h1,h2⟩:=nr h;rw[xG]at hb;refine⟨fun e he hn=>?_,fun hs ha=>by rw[ha x (zac ..)]at hb;cases hb⟩;rcases List.mem_cons.1 he with rfl|he
   ·exact h0
   ·exact h1 e he hn
theorem Fy {t:TypeId}{x:Operand}(ho:o.op=.range t x)(h:(BJ P t (cQ x)).run call tm hp nx k=.ok):jT P o tm hp nx k:=by
 unfold BJ at h;split at h
 ·rename_i kt et hu;obtain⟨v,h,hv⟩:=aQ h;cases v with
  |map m =>
   have h:hp.gx m (.bad 263) (fun o=>oP o fun es c=>newObj hp nx (.iter m c [] c) fun id hp nx=>k (.ptr id 0) hp nx)=.ok:=h;obtain⟨ob,hob,h⟩:=dm h;obtain⟨es,c,rfl,g⟩:=qX h;rw[cW]at g;refine (Gx.new (x:=.iter m c [] c) rfl (fun _ _ h=>by cases h) (fun B w0 ι nt a w ha hc hb hs=>?_)).to g;obtain⟨E,h1,h2⟩:=hc.obj _ _ hob;refine⟨.mapIter (some (ι.aY m)) c #[] c,?_,?_⟩
   ·simp only[execOp,ho,hv ι nt a ha,ak,Instr.range,Sem.run_bind,ay hu,Result.andThen_ok,bO h1,Sem.run_pure];rw[hb,hs];rfl
   ·exact⟨by rw[hb];exact cb _ _,hs⟩
  |_=>cases h
 ·cases h
theorem Hl {it:Operand}(ho:o.op=.next it false)(h:(MN (cQ it)).run call tm hp nx k=.ok):jT P o tm hp nx k:=by
 obtain⟨v,h,hv⟩:=aQ h;obtain⟨id,off,rfl,g⟩:=g9 h;obtain⟨h0,g⟩:=aJ g;have h0:=aj h0;subst h0;obtain⟨ob,hob,g⟩:=dm g;obtain⟨m,since,seen,at',rfl,g1⟩:=ue g;obtain⟨ob,hom,g2⟩:=dm g1;obtain⟨es,c,rfl,g3⟩:=qX g2;obtain⟨hq,g4⟩:=aJ g3;rw[za]at hq;have hold:=Dy hq.1;have hsc:=aN hq.2;obtain⟨hl,hz⟩:=nr g4;intro B w0 nt a w ι hs G hn;have hcore:=fun ι' hι=>hs.2 ι' hι;obtain⟨t1,c1⟩:=hcore ι (ao.refl _ _);obtain⟨i1,i2⟩:=c1.obj _ _ hob;obtain⟨E,m1,m2⟩:=c1.obj _ _ hom
 have hE:∀ι',ao nx ι ι'->E.toList=es.map (dM ι'):=fun ι' hι=>by
  obtain⟨E',m1',m2'⟩:=(hcore ι' hι).2.obj _ _ hom;have hb:=(hι m (hs.1.lt _ _ hom)).1;rw[hb,m1]at m1';cases m1';exact m2'
 have hrun:(execOp a.eval o).run P w=((Instr.next (.pointer (some ⟨ι.aY id,0,none⟩)) false o.type).run P w).andThen fun v w=>.ok (.value v) w:=by
  simp only[execOp,ho,hv ι nt a t1,ak,i2,zap,Sem.run_bind,Sem.run_pure]
 have hval:∀ι',ao nx ι ι'->∀e∈es,ak ι' e.key=ak ι e.key/\ak ι' e.val=ak ι e.val:=by
  intro ι' hι e he;have h1:=hE ι' hι;rw[m2]at h1;have:=List.map_inj_left.1 h1 e he;simp only[dM,MapEntry.mk.injEq]at this;exact⟨this.1.symm,this.2.1.symm⟩
 rcases run_next_at (P:=P) w o.type (ι.aY id) (ι.aY m) since at' seen.reverse.toArray E c i1 m1 (fun x hx=>by
   rw[m2]at hx;obtain⟨e,he,rfl⟩:=List.mem_map.1 hx
   exact hold e he) hsc with ⟨hleft,hr⟩|⟨e,he,w1,hw1,hr⟩
 ·refine .inl ⟨.tuple #[.bool false],w,.inl (by rw[hrun,hr];rfl),hn (.cN [.bool false]) hp nx ι _ w (hz rfl fun e he=>?_) hs.1 (zad _) (ao.refl _ _) fun ι' hι=>⟨(hcore ι' hι).2,by simp[ak,aq]⟩⟩;have hem:leftOf E seen.reverse.toArray=#[]:=Array.eq_empty_of_size_eq_zero hleft;unfold leftOf at hem;rw[Array.filter_eq_empty_iff]at hem;have:=hem (dM ι e) (by rw[<-zcx,m2];exact List.mem_map.2 ⟨e,he,rfl⟩);simpa [dM] using this
 ·unfold leftOf at he;rw[zcx,Array.mem_filter]at he;obtain⟨he1,he2⟩:=he;rw[<-zcx,m2]at he1;obtain⟨e',he',rfl⟩:=List.mem_map.1 he1;have hns:seen.contains e'.born=false:=by simpa [dM] using he2
  have hk:=hl e' he' hns;rw[Tr.cK]at hk;have hw1h:w1.heap=w.heap:=by rcases hw1 with rfl|rfl<;>rfl
  refine .inl ⟨_,_,.inl (by rw[hrun,hr];rfl),hn (.cN [.bool true,e'.key,e'.val]) _ nx ι _ _ hk (ql hs.1 hob rfl (fun _ _ h=>by cases h) rfl (fun _ _ h=>by cases h)) (zad _) (ao.refl _ _) fun ι' hι=>?_⟩;obtain⟨t2,c2⟩:=hcore ι' hι;have hbi:=(hι id (hs.1.lt _ _ hob)).1;have hbm:=(hι m (hs.1.lt _ _ hom)).1;obtain⟨q1,q2⟩:=hval ι' hι e' he';refine⟨?_,by simp only[ak,aq,dM,q1,q2]⟩;have hblk:=c2.base _ _ hob trivial;rw[hbi]at hblk;have hlt:ι.aY id<w.heap.size:=(Array.getElem?_eq_some_iff.1 i1).1
  have hoth:∀b,b≠ι'.aY id->(Go.ChangeMaps.setBlock w1 (ι.aY id) (.mapIter (some (ι.aY m)) since (seen.reverse.toArray.push (dM ι e').born) c)).heap[b]?=w.heap[b]?:=fun b hbne=>by
   show (w1.heap.setIfInBounds _ _)[b]?=_;rw[hw1h,zcf (fun e=>hbne (by rw[hbi];exact e.symm))]
  refine kW hob rfl (fun _ _ h=>by cases h) rfl (fun _ _ h=>by cases h) c2 ?_ (fun k hk=>by
   show k<(w1.heap.setIfInBounds _ _).size;rw[hw1h,zdh]
   exact c2.room k hk) hoth ⟨?_,(c2.obj _ _ hob).2⟩
  ·refine c2.below.trans ⟨?_,?_,?_,?_,fun b hb'=>hoth b (fun e=>hblk (by rw[<-hbi,<-e];exact hb'))⟩
   ·rcases hw1 with rfl|rfl<;>rfl
   ·rcases hw1 with rfl|rfl<;>rfl
   ·rcases hw1 with rfl|rfl<;>rfl
   ·show w.heap.size<=(w1.heap.setIfInBounds _ _).size;rw[hw1h,zdh];exact zad _
  ·show (w1.heap.setIfInBounds _ _)[ι'.aY id]?=_;rw[hbi,hbm,hw1h];simp[hlt,dM]
theorem nu {w:World}{b:Nat}{m:Option Nat}{s:Nat}{l:Array Nat}{c:Nat}(h:w.heap[b]?=some (.mapIter m s l c)):(getObj b).run P w=.ok (.mapIter m s l c) w:=by
 simp[getObj,Sem.run,h]
theorem zY {b:Nat}{kk:ME->Rs}:∀{es:List ME},GP b es kk=.ok->∃e,es.find? (fun e=>e.born==b)=some e/\kk e=.ok
 | [],h=>by cases h
 |x::es,h=>by
  have h:bM (Nat.beq x.born b) (kk x) (GP b es kk)=.ok:=h;rw[List.find?_cons];rcases bW h with ⟨hb,h⟩|⟨hb,h⟩
  ·have:=aj hb;exact⟨x,by rw[this];simp,h⟩
  ·obtain⟨e,h1,h2⟩:=zY h
   have hne:(x.born==b)=false:=by
    rw[beq_eq_false_iff_ne];intro e;rw[e,zcm]at hb;cases hb
   exact⟨e,by rw[hne];exact h1,h2⟩
theorem zZ {it:Operand}(ho:o.op=.entry it)(h:(yU (cQ it)).run call tm hp nx k=.ok):jT P o tm hp nx k:=by
 obtain⟨v,h,hv⟩:=aQ h;obtain⟨id,off,rfl,g⟩:=g9 h;obtain⟨h0,g⟩:=aJ g;have h0:=aj h0;subst h0;obtain⟨ob,hob,g⟩:=dm g;obtain⟨m,since,seen,at',rfl,g1⟩:=ue g;obtain⟨ob,hom,g2⟩:=dm g1;obtain⟨es,c,rfl,g3⟩:=qX g2;obtain⟨hq,g4⟩:=aJ g3;have hq:=aj hq;subst hq;cases seen with
 |nil=>cases g4
 |cons b seen =>
  obtain⟨e,he,g5⟩:=zY (kk:=fun e=>k (.cN [e.key,e.val]) hp nx) g4;refine dz.to ⟨_,g5,fun B w0 ι nt a w ha hc=>?_⟩;obtain⟨i1,i2⟩:=hc.obj _ _ hob;obtain⟨E,m1,m2⟩:=hc.obj _ _ hom
  have hf:E.find? (fun x=>x.born==b)=some (dM ι e):=by
   rw[<-Array.find?_toList,m2,List.find?_map];show (es.find? (fun e=>e.born==b)).map _=_;rw[he];rfl
  have hb:(seen.reverse++[b]).toArray.back?=some b:=by simp
  have i1:w.heap[ι.aY id]?=some (.mapIter (some (ι.aY m)) since (seen.reverse++[b]).toArray c):=by rw[i1,List.reverse_cons]
  simp only[execOp,ho,hv ι nt a ha,ak,i2,zap,Instr.entry,Sem.run_bind,nu i1,bO m1,Result.andThen_ok,hb,bne_self_eq_false,zaf,if_false,hf,Sem.run_pure];simp[aq,dM]
end
end Go.aK
