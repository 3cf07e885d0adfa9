/- Part Xt of the proof of CollectEnds: no condition. -/
import Derived.ReadAgain
import Derived.ChangeOld
import Derived.Test.YtmabojcaklojhaaGreatXr
import Derived.Test.YtmabojcaklojhaaGreatXac
import Derived.Test.YtmabojcaklojhaaGreatXl
import Derived.Test.YtmabojcaklojhaaGreatXp19
set_option linter.unusedSimpArgs false
set_option linter.unusedVariables false
namespace Go.Rd
open Go.aI Go.RowKit Go.Rt Go.Proofs
theorem Fp {P:Program}{W:World}{r:Reach}{base:Nat}{t e:TypeId}{v:Value}(hu:P.underlying t=some (.slice e))(h:Value.okWide P W r base t v):∃o l c,v=.slice o l c:=by
 unfold Value.okWide at h;rw[hu]at h;have h:Cell.okWide P W r base t v:=h;unfold Cell.okWide at h;rw[hu]at h;have h:Cell.ok P W r base t v:=by cases v<;>exact h
 unfold Cell.ok at h;rw[hu]at h;cases v<;>first|exact⟨_,_,_,rfl⟩|exact h.elim
theorem tA {P:Program}{W:World}{r:Reach}{base:Nat}{t:TypeId}{fs:Array Field}{v:Value}(hu:P.underlying t=some (.struct fs))(h:Value.okWide P W r base t v):∃cs,v=.agg cs/\cs.size=P.cellsOf t:=by
 unfold Value.okWide at h;rw[hu]at h;obtain⟨cs,h1,h2,_⟩:=h;exact⟨cs,h1,h2⟩
theorem vB {P:Program}{Φ:Forms}{G:GH}{c:Nat}{v:AV}{fs:List TF}(h:jQ P Φ G [.sl c] [v] fs):∃ns,lq P Φ G v c ns/\ns.length<=jB/\iO Φ fs=bif Φ.fr c then 0 else ns.sum+ns.length:=by
 obtain⟨v',cs',f,fs',e1,e2,⟨ns,e3⟩,e4,e5⟩:=h.w 0;subst e4 e5 e3;cases e1;rw[zbg]at e2;subst e2;exact⟨ns,h.raw _ _ _ _ (List.mem_singleton.2 rfl),h.yX _ _ _ _ (List.mem_singleton.2 rfl),by simp[iO,sw]⟩
theorem Kj {P:Program}{Φ:Forms}{G:GH}{c c':Nat}{cs:List AV}{fs:List TF}(h:jQ P Φ G [.int .i64,.sl c,.str,.sl c'] cs fs):∃a v l n v' ns ns',cs=[.int .i64 a,v,.str l n,v']/\l<=jb/\lq P Φ G v c ns/\ns.length<=jB/\lq P Φ G v' c' ns'/\ns'.length<=jB:=by
 obtain⟨v0,c0,f0,g0,rfl,e0,⟨⟨a,rfl⟩,rfl⟩,v1,c1,f1,g1,rfl,e1,⟨ns,rfl⟩,v2,c2,f2,g2,rfl,e2,⟨⟨l,n,rfl,hl⟩,rfl⟩,v3,c3,f3,g3,rfl,e3,⟨ns',rfl⟩,rfl,e4⟩:=h.w 0;subst e4 e3 e2 e1;have m1:TF.sl v1 c (gi Φ Gd.d0 0 c) ns∈fs:=by rw[e0];simp
 have m2:TF.sl v3 c' (gi Φ Gd.d0 0 c') ns'∈fs:=by rw[e0];simp
 exact⟨a,v1,l,n,v3,ns,ns',rfl,hl,h.raw _ _ _ _ m1,h.yX _ _ _ _ m1,h.raw _ _ _ _ m2,h.yX _ _ _ _ m2⟩
theorem Kk {W W':World}(hk:aI.um W W'){p:MemPlace}(hp:p.block<W.heap.size):W.sameAt W' p:=by
 have:=hk.block p.block hp;cases p with
 |cell b off =>
  show W'.cell? ⟨b,off,none⟩=W.cell? ⟨b,off,none⟩;unfold World.cell?;have this:W'.heap[b]?=W.heap[b]?:=this;show (match W'.heap[b]? with|some (.cells c _ _)=>_|_=>_)=_;rw[this];rfl
 |map b=>exact this
theorem pJ {H:Type}{enc:TypeId×Value->H}{P:Program}{w w':World}{base:Nat}{spare:Nat->Bool}{held:Bool}:∀{ts:List TypeId}{vs:List Value}{ds:List (DataW H)}{ps:List MemPlace},
  (∀p∈ps,w.sameAt w' p)->DataW.TrodAll enc P w base spare held ts vs ds ps->DataW.TrodAll enc P w' base spare held ts vs ds ps
 | [],[],[],_,_,h=>h
 |_::_,_::_,_::_,_,hs,⟨p,q,⟨n,hn⟩,h2,e⟩ =>
  ⟨p,q,⟨n,DataW.trod_carry n _ _ _ hn fun x hx=>hs x (by rw[e];exact zbo _ hx)⟩,pJ (fun x hx=>hs x (by rw[e];exact zbt _ hx)) h2,e⟩
end Go.Rd
namespace Go.Rd
open Go.aI Go.RowKit Go.Rt Go.Proofs
open Go.Proofs.YtmabojcaklojhaaGreat (Rows.uptoBulk Rows.uptoBulkAll)
set_option maxRecDepth 100000
theorem GR {B:Nat->Prop}{w0 w:World}{ι:En}(h1:Kept B w0 w)(h2:∀k,B k->k<w.heap.size):Core B w0 ι .e w :=
 ⟨h1,h2,fun id o h=>absurd h (by simp[Tr.fD]),fun id o h=>absurd h (by simp[Tr.fD]),fun id id' o o' _ h=>absurd h (by simp[Tr.fD]),fun id id' f ep es n el c f' ep' tp' es' n' el' c' _ h=>absurd h (by simp[Tr.fD])⟩
theorem J6 {P:Program}{f:Nat}{nx nx':Pz}{v:AV}(h:Tu P f [] .e nx v .e nx')(hv:nf v){G:GH}:aI.Spec P f [] G fun v' G'=>v'=v/\G'=G:=by
 intro B w0 w ι cargs hc hg hca;refine (h (fun k=>k<w.heap.size) w w ι cargs (qx _) fun ι' _=>⟨uo _ _,hca⟩).mono fun cv w' ⟨ι2,_,_,_,hh⟩=>?_;obtain⟨c,e⟩:=hh ι2 (al.refl _ _);have hk:Kept (fun k=>k<w.heap.size) w w':=c.below;refine⟨v,G,⟨rfl,rfl⟩,hv,by rw[e];exact hv _ _,GR (hc.below.trans (hk.mono fun k hk'=>hc.room k hk')) fun k hk'=>zaw (hc.room k hk') hk.size,?_,fun b hb=>.inl hb,fun b hb=>hb⟩
 exact DP hg (hk.mono fun k hk'=>by
  rcases hk' with hk'|hk'
  ·exact hc.room k hk'
  ·obtain⟨g,hg'⟩:=Option.isSome_iff_exists.1 hk'
   exact (hg k g hg').lt)
theorem J7 {P:Program}{Φ:Forms}{S Sg:List Nat}{G:GH}{Γ:dy}{ρ:aZ}{q:SS}(hz:q.fs=[]/\q.bs=[]/\q.pw=[]/\q.ats=[]/\q.cU=[]/\q.ne=[]/\q.fz=[]/\q.sb=[])(ho:q.os=[]/\q.ty=[]/\q.gs=[])(ht:HT P Φ G Γ):Out P Φ S Sg G Γ G Γ ρ q:=by
 obtain⟨a1,a2,a3,a4,a5,a6,a7,a8⟩:=hz;obtain⟨b1,b2,b3⟩:=ho
 exact⟨⟨fun f h=>(by rw[a1]at h;cases h),fun f h=>(by rw[a2]at h;cases h),fun f h=>(by rw[a3]at h;cases h),fun f h=>(by rw[a4]at h;cases h),fun f h=>(by rw[a5]at h;cases h),fun f h=>(by rw[a6]at h;cases h),fun f h=>(by rw[a7]at h;cases h),fun f h=>(by rw[a8]at h;cases h)⟩,
  Rl.refl _ _ _ _ _,ht,fun f h=>(by rw[b1]at h;cases h),by rw[b1];exact List.nodup_nil,fun f h=>(by rw[b1]at h;cases h),fun f h=>(by rw[b2]at h;cases h),fun f h=>(by rw[b3]at h;cases h)⟩
theorem Dq (m:Nat):kx Tryz.prog Φ7 Qo m:=fun ρ G Γ hin hm=>by
 show aI.Spec Tryz.prog 22 [] G _;refine (J6 (P:=Tryz.prog) (f:=22) (v:=.bool true) aI.dI.Qs (lX true)).mono fun v G' ⟨hv,hG⟩=>?_;subst hv hG;exact⟨Γ,ρ,_,zba (i:=0) rfl,rfl,cM.refl _ _,J7 ⟨rfl,rfl,rfl,rfl,rfl,rfl,rfl,rfl⟩ ⟨rfl,rfl,rfl⟩ hin.ht⟩
theorem GS (m:Nat):kx Tryz.prog Φ7 QP m :=
 JU MO mixed (ext:=[Qo]) (fun sp hsp m=>by rw[List.mem_singleton.1 hsp];exact Dq m) Qr QP (zbo _ (List.mem_map.2 ⟨(QP,Vc),zba (i:=0) rfl,rfl⟩)) m
theorem kD {P:Program}{Φ:Forms}{G:GH}{v:AV}{c:Nat}{ns:List Nat}(h:lq P Φ G v c ns):cr v=true:=by cases h<;>rfl
theorem jl {x:AV}{l:List Nat}(h:cr x=true):(U.v x l).vv=x:=by show (bif cr x then x else .ab)=x;rw[h];rfl
theorem TT {fn:Func}(hf3:Tryz.prog.funcs[4]?=some fn)(hb3:fn.body.isNone=false)(hn3:(fn.name == "runtime.NumGoroutine")=false)(W:World){v0 x1 y0 y1 y2 y3:Value}{ns0 ns1 ns3 ns5:List Nat}{a:Int}{l n:Nat}(h0:lq Tryz.prog Φ7 (pG W) (fC v0) 8 ns0)(hl0:ns0.length<=jB)(hw:ns0.sum+ns0.length<=WU)(h1:lq Tryz.prog Φ7 (pG W) (fC x1) 6 ns1)(hl1:ns1.length<=jB)
  (ha:fC y0=.int .i64 a) (h3:lq Tryz.prog Φ7 (pG W) (fC y1) 15 ns3) (hl3:ns3.length<=jB) (hs:fC y2=.str l n) (hsl:l<=jb) (h5:lq Tryz.prog Φ7 (pG W) (fC y3) 16 ns5) (hl5:ns5.length<=jB) :
  Calls Tryz.prog 4 #[v0,.agg #[x1],.agg #[y0,y1,y2,y3]] W fun e w'=>e=.returned (.bool true)/\aI.um W w':=by
 let ρ:aZ:=fun k=>match k with|0=>.v (fC v0) ns0|1=>.v (fC x1) ns1|2=>.z a|3=>.v (fC y1) ns3|4=>.s l n|_=>.v (fC y3) ns5
 let Γ0:dy:=⟨fun _=>none,fun _=>Gd.d0,1⟩
 have e0:(ρ 0).vv=fC v0:=jl (kD h0);have e1:(ρ 1).vv=fC x1:=jl (kD h1);have e3:(ρ 3).vv=fC y1:=jl (kD h3);have e5:(ρ 5).vv=fC y3:=jl (kD h5);have n0:(ρ 0).ns=ns0:=U.iw hl0;have n1:(ρ 1).ns=ns1:=U.iw hl1;have n3:(ρ 3).ns=ns3:=U.iw hl3;have n5:(ρ 5).ns=ns5:=U.iw hl5;have hu:∀v:AV,cr v=true->v≠aE:=fun v h e=>by subst e;cases h
 have hin:In Tryz.prog Φ7 (pG W) Γ0 ρ QP.pre:=by
  refine⟨⟨fun f hf=>?_,fun p hp=>(by cases hp),fun p hp=>(by cases hp),fun p hp=>(by cases hp),fun p hp=>(by cases hp),fun p hp=>(by cases hp),fun p hp=>(by cases hp),fun p hp=>(by cases hp)⟩,
   ⟨⟨rfl,Nat.one_pos⟩,fun b x hb=>(by cases hb)⟩,fun o ho=>(by cases ho),List.nodup_nil,fun f hf=>?_,fun p hp=>(by cases hp)⟩
  ·have hf:f∈[(⟨2097152,[(-1,.wt 0)]⟩:LE)]:=hf;rw[List.mem_singleton.1 hf];show (0:Int)<=2097152+((-1)*(((ρ 0).ns.sum+(ρ 0).ns.length:Nat):Int)+0);rw[n0];have:ns0.sum+ns0.length<=2097152:=hw;omega
  ·have hf:f∈[c6.sl 5 16 0,c6.sl 3 15 0,c6.sl 1 6 0,c6.sl 0 8 0]:=hf;simp only[List.mem_cons,List.not_mem_nil,or_false]at hf;rcases hf with rfl|rfl|rfl|rfl
   ·show fF _ _ _ _ (.sl (ρ 5).vv 16 0 (ρ 5).ns);rw[e5,n5];exact⟨hl5,.inr (.inl ⟨rfl,h5⟩)⟩
   ·show fF _ _ _ _ (.sl (ρ 3).vv 15 0 (ρ 3).ns);rw[e3,n3];exact⟨hl3,.inr (.inl ⟨rfl,h3⟩)⟩
   ·show fF _ _ _ _ (.sl (ρ 1).vv 6 0 (ρ 1).ns);rw[e1,n1];exact⟨hl1,.inr (.inl ⟨rfl,h1⟩)⟩
   ·show fF _ _ _ _ (.sl (ρ 0).vv 8 0 (ρ 0).ns);rw[e0,n0];exact⟨hl0,.inr (.inl ⟨rfl,h0⟩)⟩
 have s4:AV.str (ρ 4).sl (ρ 4).sm=fC y2:=by rw[hs];show AV.str (U.s l n).sl (U.s l n).sm=_;rw[U.mB hsl];rfl
 have g:=GS _ ρ (pG W) Γ0 hin rfl (fun k=>k<W.heap.size) W W ⟨fun _=>0,fun _=>0,fun _=>0⟩ #[v0,.agg #[x1],.agg #[y0,y1,y2,y3]] (uo _ _) (MS _ _) (by
  show _=(ao _ [(ρ 0).vv,.agg [(ρ 1).vv],.agg [.int .i64 ((LE.a (.z 2)).ev ρ),(ρ 3).vv,.str (ρ 4).sl (ρ 4).sm,(ρ 5).vv]]).toArray;rw[LE.aQ,show At.ev ρ (.z 2)=a from rfl,e0,e1,e3,e5,s4,<-ha];simp only[ao,ak]
  rw[jP _ _ (hu _ (kD h0)),jP _ _ (hu _ (kD h1)),jP _ _ (hu _ (kD h3)),jP _ _ (hu _ (kD h5)),jP _ _ (by rw[ha];intro e;cases e),jP _ _ (by rw[hs];intro e;cases e)])
 refine Calls.mono (Az hf3 hb3 hn3 g) fun e w' ⟨cv,he,v,G',⟨Γ',ρ',p,hp,hv,_,_⟩,_,Tt,hc,_⟩=>⟨?_,hc.below⟩
 have hp':v=.bool true:=by
  rw[hv];cases hp with
  |head=>rfl
  |tail _ hp=>cases hp
 rw[he,Tt,hp'];simp[ak]
end Go.Rd
