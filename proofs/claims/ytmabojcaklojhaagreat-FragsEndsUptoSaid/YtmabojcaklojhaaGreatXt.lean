/- Part Xt of the proof of FragsEnds: no condition. -/
import Derived.ReadAgain
import Derived.ChangeOld
import Derived.Test.YtmabojcaklojhaaGreatXr
import Derived.Test.YtmabojcaklojhaaGreatXac
import Derived.Test.YtmabojcaklojhaaGreatXl
import Derived.Test.YtmabojcaklojhaaGreatXp9
set_option linter.unusedSimpArgs false
set_option linter.unusedVariables false
namespace Go.Rd
open Go.aQ Go.RowKit Go.Rt Go.Proofs
theorem Dp {P:Program} {W:World} {r:Reach} {base:Nat} {t e:TypeId} {v:Value} (hu:P.underlying t=some (.slice e)) (h:Value.okWide P W r base t v):∃o l c,v=.slice o l c:=by
 unfold Value.okWide at h
 rw [hu] at h
 have h:Cell.okWide P W r base t v:=h
 unfold Cell.okWide at h
 rw [hu] at h
 have h:Cell.ok P W r base t v:=by cases v<;>exact h
 unfold Cell.ok at h
 rw [hu] at h
 cases v<;>first | exact⟨_,_,_,rfl⟩ | exact h.elim
theorem zJ {P:Program} {W:World} {r:Reach} {base:Nat} {t:TypeId} {fs:Array Field} {v:Value} (hu:P.underlying t=some (.struct fs)) (h:Value.okWide P W r base t v):∃cs,v=.agg cs/\cs.size=P.cellsOf t:=by
 unfold Value.okWide at h
 rw [hu] at h
 obtain⟨cs,h1,h2,_⟩:=h
 exact⟨cs,h1,h2⟩
theorem ui {P:Program} {Φ:Forms} {G:GH} {c:Nat} {v:AV} {fs:List TF} (h:jq P Φ G [.sl c] [v] fs):∃ns,nh P Φ G v c ns/\ns.length<=kT/\iH Φ fs=bif Φ.fy c then 0 else ns.sum+ns.length:=by
 obtain⟨v',cs',f,fs',e1,e2,⟨ns,e3⟩,e4,e5⟩:=h.w 0
 subst e4 e5 e3
 cases e1
 rw [List.append_nil] at e2
 subst e2
 exact⟨ns,h.raw _ _ _ _ (List.mem_singleton.2 rfl),h.zE _ _ _ _ (List.mem_singleton.2 rfl),by simp [iH,sw]⟩
theorem JG {W W':World} (hk:aQ.sG W W') {p:MemPlace} (hp:p.block<W.heap.size):W.sameAt W' p:=by
 have:=hk.block p.block hp
 cases p with
 | cell b off =>
   show W'.cell? ⟨b,off,none⟩=W.cell? ⟨b,off,none⟩
   unfold World.cell?
   have this:W'.heap[b]?=W.heap[b]?:=this
   show (match W'.heap[b]? with | some (.cells c _ _)=>_ | _=>_)=_
   rw [this]
   rfl
 | map b=>exact this
theorem oj {H:Type} {enc:TypeId × Value->H} {P:Program} {w w':World} {base:Nat} {spare:Nat->Bool} {held:Bool}:∀{ts:List TypeId} {vs:List Value} {ds:List (DataW H)} {ps:List MemPlace},
  (∀p∈ps,w.sameAt w' p)->DataW.TrodAll enc P w base spare held ts vs ds ps->DataW.TrodAll enc P w' base spare held ts vs ds ps
 | [],[],[],_,_,h=>h
 | _::_,_::_,_::_,_,hs,⟨p,q,⟨n,hn⟩,h2,e⟩ =>
   ⟨p,q,⟨n,DataW.trod_carry n _ _ _ hn fun x hx=>hs x (by rw [e]; exact List.mem_append_left _ hx)⟩,oj (fun x hx=>hs x (by rw [e]; exact List.mem_append_right _ hx)) h2,e⟩
end Go.Rd
namespace Go.Rd
open Go.aQ Go.RowKit Go.Rt Go.Proofs
open Go.Proofs.YtmabojcaklojhaaGreat (Rows.uptoBulk Rows.uptoBulkAll)
set_option maxRecDepth 100000
theorem EI {B:Nat->Prop} {w0 w:World} {ι:En} (h1:Kept B w0 w) (h2:∀k,B k->k<w.heap.size):Core B w0 ι .e w :=
 ⟨h1,h2,fun id o h=>absurd h (by simp [Tr.fD]),fun id o h=>absurd h (by simp [Tr.fD]),fun id id' o o' _ h=>absurd h (by simp [Tr.fD]),fun id id' f ep es n el c f' ep' tp' es' n' el' c' _ h=>absurd h (by simp [Tr.fD])⟩
theorem Jy {P:Program} {f:Nat} {nx nx':Pz} {v:AV} (h:Up P f [] .e nx v .e nx') (hv:nf v) {G:GH}:aQ.Spec P f [] G fun v' G'=>v'=v/\G'=G:=by
 intro B w0 w ι cargs hc hg hca
 refine (h (fun k=>k<w.heap.size) w w ι cargs (yI _) fun ι' _=>⟨sH _ _,hca⟩).mono fun cv w' ⟨ι2,_,_,_,hh⟩=>?_
 obtain⟨c,e⟩:=hh ι2 (al.refl _ _)
 have hk:Kept (fun k=>k<w.heap.size) w w':=c.below
 refine⟨v,G,⟨rfl,rfl⟩,hv,by rw [e]; exact hv _ _,EI (hc.below.trans (hk.mono fun k hk'=>hc.room k hk')) fun k hk'=>Nat.lt_of_lt_of_le (hc.room k hk') hk.size,?_,fun b hb=>.inl hb,fun b hb=>hb⟩
 exact Kr hg (hk.mono fun k hk'=>by
  rcases hk' with hk' | hk'
  · exact hc.room k hk'
  · obtain⟨g,hg'⟩:=Option.isSome_iff_exists.1 hk'
    exact (hg k g hg').lt)
theorem Jz {P:Program} {Φ:Forms} {S Sg:List Nat} {G:GH} {Γ:c8} {ρ:bc} {q:SS} (hz:q.fs=[]/\q.bs=[]/\q.pw=[]/\q.ats=[]/\q.c9=[]/\q.ne=[]/\q.fz=[]/\q.sb=[]) (ho:q.os=[]/\q.ty=[]/\q.gs=[]) (ht:HT P Φ G Γ):Out P Φ S Sg G Γ G Γ ρ q:=by
 obtain⟨a1,a2,a3,a4,a5,a6,a7,a8⟩:=hz
 obtain⟨b1,b2,b3⟩:=ho
 exact⟨⟨fun f h=>(by rw [a1] at h; cases h),fun f h=>(by rw [a2] at h; cases h),fun f h=>(by rw [a3] at h; cases h),fun f h=>(by rw [a4] at h; cases h),fun f h=>(by rw [a5] at h; cases h),fun f h=>(by rw [a6] at h; cases h),fun f h=>(by rw [a7] at h; cases h),fun f h=>(by rw [a8] at h; cases h)⟩,
  Rl.refl _ _ _ _ _,ht,fun f h=>(by rw [b1] at h; cases h),by rw [b1]; exact List.nodup_nil,fun f h=>(by rw [b1] at h; cases h),fun f h=>(by rw [b2] at h; cases h),fun f h=>(by rw [b3] at h; cases h)⟩
theorem Bo (m:Nat):jD Tryz.prog Φ7 P8 m:=fun ρ G Γ hin hm=>by
 show aQ.Spec Tryz.prog 27 [] G _
 refine (Jy (P:=Tryz.prog) (f:=27) (v:=.bool true) aQ.pH.m9_ok (iL true)).mono fun v G' ⟨hv,hG⟩=>?_
 subst hv hG
 exact⟨Γ,ρ,_,List.mem_of_getElem? (i:=0) rfl,rfl,de.refl _ _,Jz ⟨rfl,rfl,rfl,rfl,rfl,rfl,rfl,rfl⟩ ⟨rfl,rfl,rfl⟩ hin.ht⟩
theorem EJ (m:Nat):jD Tryz.prog Φ7 Q7 m :=
 Jj L0 mixed (ext:=[P8]) (fun sp hsp m=>by rw [List.mem_singleton.1 hsp]; exact Bo m) QN Q7 (List.mem_append_left _ (List.mem_map.2 ⟨(Q7,eY 5),List.mem_of_getElem? (i:=168) rfl,rfl⟩)) m
theorem rB {P:Program} {Φ:Forms} {G:GH} {v:AV} {c:Nat} {ns:List Nat} (h:nh P Φ G v c ns):bZ v=true:=by cases h<;>rfl
theorem jy {x:AV} {l:List Nat} (h:bZ x=true):(U.v x l).vv=x:=by show (bif bZ x then x else .aB)=x; rw [h]; rfl
theorem UP {fn:Func} (hf3:Tryz.prog.funcs[5]?=some fn) (hb3:fn.body.isNone=false) (hn3:(fn.name == "runtime.NumGoroutine")=false) (W:World) {v0 x1:Value} {ns0 ns1:List Nat} (h0:nh Tryz.prog Φ7 (qy W) (iG v0) 8 ns0) (hl0:ns0.length<=kT) (hw:ns0.sum+ns0.length<=WU) (h1:nh Tryz.prog Φ7 (qy W) (iG x1) 6 ns1) (hl1:ns1.length<=kT) :
  Calls Tryz.prog 5 #[v0,.agg #[x1]] W fun e w'=>e=.returned (.bool true)/\aQ.sG W w':=by
 let ρ:bc:=fun k=>match k with | 0=>.v (iG v0) ns0 | _=>.v (iG x1) ns1
 let Γ0:c8:=⟨fun _=>none,fun _=>Gd.d0,1⟩
 have e0:(ρ 0).vv=iG v0:=jy (rB h0)
 have e1:(ρ 1).vv=iG x1:=jy (rB h1)
 have n0:(ρ 0).ns=ns0:=U.j4 hl0
 have n1:(ρ 1).ns=ns1:=U.j4 hl1
 have hu:∀v:AV,bZ v=true->v≠aD:=fun v h e=>by subst e; cases h
 have hin:In Tryz.prog Φ7 (qy W) Γ0 ρ Q7.pre:=by
  refine⟨⟨fun f hf=>?_,fun p hp=>(by cases hp),fun p hp=>(by cases hp),fun p hp=>(by cases hp),fun p hp=>(by cases hp),fun p hp=>(by cases hp),fun p hp=>(by cases hp),fun p hp=>(by cases hp)⟩,
   ⟨⟨rfl,Nat.one_pos⟩,fun b x hb=>(by cases hb)⟩,fun o ho=>(by cases ho),List.nodup_nil,fun f hf=>?_,fun p hp=>(by cases hp)⟩
  · have hf:f∈[(⟨2097152,[(-1,.wt 0)]⟩:LE)]:=hf
    rw [List.mem_singleton.1 hf]
    show (0:Int)<=2097152+((-1)*(((ρ 0).ns.sum+(ρ 0).ns.length:Nat):Int)+0)
    rw [n0]
    have:ns0.sum+ns0.length<=2097152:=hw
    omega
  · have hf:f∈[dw.sl 1 6 0,dw.sl 0 8 0]:=hf
    rcases List.mem_cons.1 hf with rfl | hf
    · show fx _ _ _ _ (.sl (ρ 1).vv 6 0 (ρ 1).ns)
      rw [e1,n1]; exact⟨hl1,.inr (.inl ⟨rfl,h1⟩)⟩
    · rw [List.mem_singleton.1 hf]
      show fx _ _ _ _ (.sl (ρ 0).vv 8 0 (ρ 0).ns)
      rw [e0,n0]; exact⟨hl0,.inr (.inl ⟨rfl,h0⟩)⟩
 have g:=EJ _ ρ (qy W) Γ0 hin rfl (fun k=>k<W.heap.size) W W ⟨fun _=>0,fun _=>0,fun _=>0⟩ #[v0,.agg #[x1]] (sH _ _) (L7 _ _) (by
  show _=(ao _ [(ρ 0).vv,.agg [(ρ 1).vv]]).toArray
  rw [e0,e1]
  simp only [ao,aj]
  rw [tH _ _ (hu _ (rB h0)),tH _ _ (hu _ (rB h1))])
 refine Calls.mono (yJ hf3 hb3 hn3 g) fun e w' ⟨cv,he,v,G',⟨Γ',ρ',p,hp,hv,_,_⟩,_,Mg,hc,_⟩=>⟨?_,hc.below⟩
 have hp':v=.bool true:=by
  rw [hv]
  cases hp with
  | head=>rfl
  | tail _ hp=>cases hp
 rw [he,Mg,hp']
 simp [aj]
end Go.Rd
