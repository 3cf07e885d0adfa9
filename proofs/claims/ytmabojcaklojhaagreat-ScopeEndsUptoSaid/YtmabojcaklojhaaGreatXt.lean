/- Part Xt of the proof of ScopeEnds: no condition. -/
import Derived.ReadAgain
import Derived.ChangeOld
import Derived.Test.YtmabojcaklojhaaGreatXr
import Derived.Test.YtmabojcaklojhaaGreatXac
import Derived.Test.YtmabojcaklojhaaGreatXl
import Derived.Test.YtmabojcaklojhaaGreatXp5
set_option linter.unusedSimpArgs false
set_option linter.unusedVariables false
namespace Go.Rd
open Go.Rex Go.RowKit Go.Rt Go.Proofs
theorem slice_val {P:Program} {W:World} {r:Reach} {base:Nat} {t e:TypeId} {v:Value} (hu:P.underlying t=some (.slice e)) (h:Value.okWide P W r base t v):∃o l c,v=.slice o l c:=by
 unfold Value.okWide at h
 rw [hu] at h
 have h:Cell.okWide P W r base t v:=h
 unfold Cell.okWide at h
 rw [hu] at h
 have h:Cell.ok P W r base t v:=by cases v<;>exact h
 unfold Cell.ok at h
 rw [hu] at h
 cases v<;>first | exact⟨_,_,_,rfl⟩ | exact h.elim
theorem struct_val {P:Program} {W:World} {r:Reach} {base:Nat} {t:TypeId} {fs:Array Field} {v:Value} (hu:P.underlying t=some (.struct fs)) (h:Value.okWide P W r base t v):∃cs,v=.agg cs/\cs.size=P.cellsOf t:=by
 unfold Value.okWide at h
 rw [hu] at h
 obtain⟨cs,h1,h2,_⟩:=h
 exact⟨cs,h1,h2⟩
theorem raw_slice {P:Program} {Φ:Forms} {G:GH} {c:Nat} {v:AV} {fs:List TF} (h:RawF P Φ G [.sl c] [v] fs):∃ns,RawS P Φ G v c ns/\ns.length<=LIM/\wgt Φ fs=bif Φ.uni c then 0 else ns.sum+ns.length:=by
 obtain⟨v',cs',f,fs',e1,e2,⟨ns,e3⟩,e4,e5⟩:=h.w 0
 subst e4 e5 e3
 cases e1
 rw [List.append_nil] at e2
 subst e2
 exact⟨ns,h.raw _ _ _ _ (List.mem_singleton.2 rfl),h.lim _ _ _ _ (List.mem_singleton.2 rfl),by simp [wgt,sw]⟩
theorem same_of {W W':World} (hk:Rex.Stood W W') {p:MemPlace} (hp:p.block<W.heap.size):W.sameAt W' p:=by
 have:=hk.block p.block hp
 cases p with
 | cell b off =>
   show W'.cell? ⟨b,off,none⟩=W.cell? ⟨b,off,none⟩
   unfold World.cell?
   have this:W'.heap[b]?=W.heap[b]?:=this
   show (match W'.heap[b]? with | some (.cells c _ _)=>_ | _=>_)=_
   rw [this]
   rfl
 | map b=>exact this
theorem trodAll_stay {H:Type} {enc:TypeId × Value->H} {P:Program} {w w':World} {base:Nat} {spare:Nat->Bool} {held:Bool}:∀{ts:List TypeId} {vs:List Value} {ds:List (DataW H)} {ps:List MemPlace},
  (∀p∈ps,w.sameAt w' p)->DataW.TrodAll enc P w base spare held ts vs ds ps->DataW.TrodAll enc P w' base spare held ts vs ds ps
 | [],[],[],_,_,h=>h
 | _::_,_::_,_::_,_,hs,⟨p,q,⟨n,hn⟩,h2,e⟩ =>
   ⟨p,q,⟨n,DataW.trod_carry n _ _ _ hn fun x hx=>hs x (by rw [e]; exact List.mem_append_left _ hx)⟩,trodAll_stay (fun x hx=>hs x (by rw [e]; exact List.mem_append_right _ hx)) h2,e⟩
end Go.Rd
namespace Go.Rd
open Go.Rex Go.RowKit Go.Rt Go.Proofs
open Go.Proofs.YtmabojcaklojhaaGreat (Rows.uptoBulk Rows.uptoBulkAll)
set_option maxRecDepth 100000
theorem core_none {B:Nat->Prop} {w0 w:World} {ι:En} (h1:Kept B w0 w) (h2:∀k,B k->k<w.heap.size):Core B w0 ι .e w :=
 ⟨h1,h2,fun id o h=>absurd h (by simp [Tr.get_e]),fun id o h=>absurd h (by simp [Tr.get_e]),fun id id' o o' _ h=>absurd h (by simp [Tr.get_e]),fun id id' f ep es n el c f' ep' tp' es' n' el' c' _ h=>absurd h (by simp [Tr.get_e])⟩
theorem spec_ran {P:Program} {f:Nat} {nx nx':Pz} {v:AV} (h:Ran P f [] .e nx v .e nx') (hv:nf v) {G:GH}:Rex.Spec P f [] G fun v' G'=>v'=v/\G'=G:=by
 intro B w0 w ι cargs hc hg hca
 refine (h (fun k=>k<w.heap.size) w w ι cargs (wf_start _) fun ι' _=>⟨core_start _ _,hca⟩).mono fun cv w' ⟨ι2,_,_,_,hh⟩=>?_
 obtain⟨c,e⟩:=hh ι2 (Agree.refl _ _)
 have hk:Kept (fun k=>k<w.heap.size) w w':=c.below
 refine⟨v,G,⟨rfl,rfl⟩,hv,by rw [e]; exact hv _ _,core_none (hc.below.trans (hk.mono fun k hk'=>hc.room k hk')) fun k hk'=>Nat.lt_of_lt_of_le (hc.room k hk') hk.size,?_,fun b hb=>.inl hb,fun b hb=>hb⟩
 exact gok_out hg (hk.mono fun k hk'=>by
  rcases hk' with hk' | hk'
  · exact hc.room k hk'
  · obtain⟨g,hg'⟩:=Option.isSome_iff_exists.1 hk'
    exact (hg k g hg').lt)
theorem out_none {P:Program} {Φ:Forms} {S Sg:List Nat} {G:GH} {Γ:Gam} {ρ:Rho} {q:SS} (hz:q.fs=[]/\q.bs=[]/\q.pw=[]/\q.ats=[]/\q.fls=[]/\q.ne=[]/\q.fz=[]/\q.sb=[]) (ho:q.os=[]/\q.ty=[]/\q.gs=[]) (ht:HT P Φ G Γ):Out P Φ S Sg G Γ G Γ ρ q:=by
 obtain⟨a1,a2,a3,a4,a5,a6,a7,a8⟩:=hz
 obtain⟨b1,b2,b3⟩:=ho
 exact⟨⟨fun f h=>(by rw [a1] at h; cases h),fun f h=>(by rw [a2] at h; cases h),fun f h=>(by rw [a3] at h; cases h),fun f h=>(by rw [a4] at h; cases h),fun f h=>(by rw [a5] at h; cases h),fun f h=>(by rw [a6] at h; cases h),fun f h=>(by rw [a7] at h; cases h),fun f h=>(by rw [a8] at h; cases h)⟩,
  Rl.refl _ _ _ _ _,ht,fun f h=>(by rw [b1] at h; cases h),by rw [b1]; exact List.nodup_nil,fun f h=>(by rw [b1] at h; cases h),fun f h=>(by rw [b2] at h; cases h),fun f h=>(by rw [b3] at h; cases h)⟩
theorem sp7_holds (m:Nat):Holds Tryz.prog Φ7 sp7 m:=fun ρ G Γ hin hm=>by
 show Rex.Spec Tryz.prog 7 [] G _
 refine (spec_ran (P:=Tryz.prog) (f:=7) (v:=.bool true) Rex.RexS.m13_ok (nf_bool true)).mono fun v G' ⟨hv,hG⟩=>?_
 subst hv hG
 exact⟨Γ,ρ,_,List.mem_of_getElem? (i:=0) rfl,rfl,Agr.refl _ _,out_none ⟨rfl,rfl,rfl,rfl,rfl,rfl,rfl,rfl⟩ ⟨rfl,rfl,rfl⟩ hin.ht⟩
theorem sp3_holds (m:Nat):Holds Tryz.prog Φ7 sp3 m :=
 all_hold keys_ok mixed (ext:=[sp7]) (fun sp hsp m=>by rw [List.mem_singleton.1 hsp]; exact sp7_holds m) all_ok sp3 (List.mem_append_left _ (List.mem_map.2 ⟨(sp3,gu3),List.mem_of_getElem? (i:=119) rfl,rfl⟩)) m
theorem raw_ref {P:Program} {Φ:Forms} {G:GH} {v:AV} {c:Nat} {ns:List Nat} (h:RawS P Φ G v c ns):isRefA v=true:=by cases h<;>rfl
theorem vv_of {x:AV} {l:List Nat} (h:isRefA x=true):(U.v x l).vv=x:=by show (bif isRefA x then x else .nils)=x; rw [h]; rfl
theorem law3 {fn:Func} (hf3:Tryz.prog.funcs[3]?=some fn) (hb3:fn.body.isNone=false) (hn3:(fn.name == "runtime.NumGoroutine")=false) (W:World) {v0 x1:Value} (i:Int) {ns0 ns1:List Nat} (h0:RawS Tryz.prog Φ7 (gRaw W) (absR v0) 8 ns0) (hl0:ns0.length<=LIM) (hw:ns0.sum+ns0.length<=WU) (h1:RawS Tryz.prog Φ7 (gRaw W) (absR x1) 6 ns1) (hl1:ns1.length<=LIM) :
  Calls Tryz.prog 3 #[v0,.agg #[x1],.int .i64 i] W fun e w'=>e=.returned (.bool true)/\Rex.Stood W w':=by
 let ρ:Rho:=fun k=>match k with | 0=>.v (absR v0) ns0 | 1=>.v (absR x1) ns1 | _=>.z i
 let Γ0:Gam:=⟨fun _=>none,fun _=>Gd.d0,1⟩
 have e0:(ρ 0).vv=absR v0:=vv_of (raw_ref h0)
 have e1:(ρ 1).vv=absR x1:=vv_of (raw_ref h1)
 have n0:(ρ 0).ns=ns0:=U.ns_of hl0
 have n1:(ρ 1).ns=ns1:=U.ns_of hl1
 have hu:∀v:AV,isRefA v=true->v≠undefA:=fun v h e=>by subst e; cases h
 have hin:In Tryz.prog Φ7 (gRaw W) Γ0 ρ sp3.pre:=by
  refine⟨⟨fun f hf=>?_,fun p hp=>(by cases hp),fun p hp=>(by cases hp),fun p hp=>(by cases hp),fun p hp=>(by cases hp),fun p hp=>(by cases hp),fun p hp=>(by cases hp),fun p hp=>(by cases hp)⟩,
   ⟨⟨rfl,Nat.one_pos⟩,fun b x hb=>(by cases hb)⟩,fun o ho=>(by cases ho),List.nodup_nil,fun f hf=>?_,fun p hp=>(by cases hp)⟩
  · have hf:f∈[(⟨2097152,[(-1,.wt 0)]⟩:LE)]:=hf
    rw [List.mem_singleton.1 hf]
    show (0:Int)<=2097152+((-1)*(((ρ 0).ns.sum+(ρ 0).ns.length:Nat):Int)+0)
    rw [n0]
    have:ns0.sum+ns0.length<=2097152:=hw
    omega
  · have hf:f∈[STF.sl 1 6 0,STF.sl 0 8 0]:=hf
    rcases List.mem_cons.1 hf with rfl | hf
    · show TOk _ _ _ _ (.sl (ρ 1).vv 6 0 (ρ 1).ns)
      rw [e1,n1]; exact⟨hl1,.inr (.inl ⟨rfl,h1⟩)⟩
    · rw [List.mem_singleton.1 hf]
      show TOk _ _ _ _ (.sl (ρ 0).vv 8 0 (ρ 0).ns)
      rw [e0,n0]; exact⟨hl0,.inr (.inl ⟨rfl,h0⟩)⟩
 have g:=sp3_holds _ ρ (gRaw W) Γ0 hin rfl (fun k=>k<W.heap.size) W W ⟨fun _=>0,fun _=>0,fun _=>0⟩ #[v0,.agg #[x1],.int .i64 i] (core_start _ _) (gRaw_ok _ _) (by
  show _=(renL _ [(ρ 0).vv,.agg [(ρ 1).vv],.int .i64 _]).toArray
  rw [e0,e1]
  simp only [renL,ren]
  rw [ren_absR _ _ (hu _ (raw_ref h0)),ren_absR _ _ (hu _ (raw_ref h1))]
  congr 4
  show _=Value.int .i64 (0+(1*i+0))
  congr 1
  omega)
 refine Calls.mono (gives_calls hf3 hb3 hn3 g) fun e w' ⟨cv,he,v,G',⟨Γ',ρ',p,hp,hv,_,_⟩,_,hcv,hc,_⟩=>⟨?_,hc.below⟩
 have hp':v=.bool true:=by
  rw [hv]
  cases hp with
  | head=>rfl
  | tail _ hp=>cases hp
 rw [he,hcv,hp']
 simp [ren]
end Go.Rd
