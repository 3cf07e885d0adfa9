/- Part Xdd of the proof of ScopeEnds: no condition. -/
import Derived.Test.YtmabojcaklojhaaGreatXdc
set_option linter.unusedSimpArgs false
set_option linter.unusedVariables false
namespace Go.Rd
open Go.Rex Go.RowKit Go.Rt
def hop1 (cf:Cf) (rk:Rk) (an:An) (o:Op) (d:Option Nat) (s:SS) (K:SS->R):R:=match o,d with
 | .alloc t,some d=>hal cf t d s K
 | .box t x,some d=>wv s x fun v=>hbx cf t v d s K
 | .buildSlice t len ps,some d=>hbs cf t len ps.toList d an s K
 | .makeMap _ none,some d=>hmm cf d an s K
 | .makeSlice t yl yc,some d=>wv s yl fun v=>wv s yc fun u=>hms cf t d v u an s K
 | .store t (.tmp x) y,none=>wv s (.tmp x) fun v=>wv s y fun u=>sto2 cf t v u s K
 | .mapUpdate t m k v,none=>wv s m fun a=>wv s k fun b=>wv s v fun e=>hmu cf t a b e s K
 | .call cl,d=>(match cl.callee with
   | .builtin .append=>(match cl.args.toList,cl.argTypes.toList,d with
     | [ys,yx],[ts,tx],some d=>wv s ys fun v=>wv s yx fun u=>hap2 cf ts tx d v u an s K
     | _,_,_=>.bad 400 s)
   | .value f=>wv s f fun fv=>(match vls s cl.args.toList with | some vs=>hcl cf rk fv vs d s K | none=>.bad 401 s)
   | _=>(match d with | some d=>lop2 cf (.call cl) s fun v s=>K (sput s d v) | none=>.bad 402 s))
 | o,some d=>lop2 cf o s fun v s=>K (sput s d v)
 | _,none=>.bad 403 s
def dIn (nt:Nat):Option Nat->Bool | some d=>Nat.blt d nt | none=>true
def hop (cf:Cf) (rk:Rk) (an:An) (ops:Array Oper) (i:Nat) (s:SS) (K:SS->R):R:=bif dIn cf.nt (opAt ops i).dst then (match (opAt ops i).guard with
 | none=>hop1 cf rk an (opAt ops i).op (opAt ops i).dst s K
 | some (g,b)=>(match (opAt ops g).dst,(opAt ops i).dst with
   | some dg,some d=>(match lkS s.L dg with
     | some (.v false [.bool be])=>split s be (fun s=>bif b then hop1 cf rk an (opAt ops i).op (some d) s K else K (sput s d .undef)) (fun s=>bif b then K (sput s d .undef) else hop1 cf rk an (opAt ops i).op (some d) s K)
     | some .undef=>K (sput s d .undef)
     | _=>.bad 404 s)
   | _,_=>.bad 405 s))
 else .bad 406 s
section
variable {c:Cx} {T:Tm} {G G':GH} {Γ Γ':Gam} {ρ ρ':Rho} {s0 s s':SS} {ops:Array Oper} {i d:Nat} {cf:Cf} {rk:Rk}
theorem hop1_ok {an:An} {K:SS->R} (hP:cf.P=c.P) (hΦ:cf.Φ=c.Φ) (hK:KeysOk cf) (hR:RkOk c rk ρ) (hg:(opAt ops i).guard=none) (hlt:∀d,(opAt ops i).dst=some d->d<c.nt) (h:(hop1 cf rk an (opAt ops i).op (opAt ops i).dst s K).Ok) (hk:Ok c T G Γ ρ s):Hv c T G Γ ops i s ρ K:=by
 unfold hop1 at h
 split at h
 · rename_i ho hd; exact hal_ok ho hg hd (hlt _ hd) hP h hk
 · rename_i ho hd; obtain⟨v,h,_,e⟩:=wv_ok h hk; exact hbx_ok ho hg hd (hlt _ hd) h hk e
 · rename_i ho hd; exact hbs_ok ho hg hd (hlt _ hd) hP hΦ h hk
 · rename_i ho hd; exact hmm_ok ho hg hd (hlt _ hd) hP hΦ h hk
 · rename_i ho hd; obtain⟨v,h,_,e⟩:=wv_ok h hk; obtain⟨u,h,_,e'⟩:=wv_ok h hk; exact hms_ok ho hg hd (hlt _ hd) hP hΦ h hk e e'
 · rename_i ho hd; obtain⟨v,h,e0,e⟩:=wv_ok h hk; obtain⟨u,h,_,e'⟩:=wv_ok h hk; exact sto2_ok ho hg hd hP hΦ h hk (opv_tmp e0 hk.q) e'
 · rename_i ho hd
   obtain⟨a,h,_,e1⟩:=wv_ok h hk
   obtain⟨b,h,_,e2⟩:=wv_ok h hk
   obtain⟨e,h,_,e3⟩:=wv_ok h hk
   exact hmu_ok ho hg hd hP hΦ hK h hk e1 e2 e3
 · rename_i cl ho
   split at h
   · rename_i hcal
     split at h
     · rename_i h1 h2 hd
       obtain⟨v,h,_,e⟩:=wv_ok h hk
       obtain⟨u,h,_,e'⟩:=wv_ok h hk
       exact hap2_ok hg hd (hlt _ hd) ho hcal h2 h1 hP hΦ h hk e e'
     · cases h
   · rename_i f hcal
     obtain⟨fv,h,_,e⟩:=wv_ok h hk
     split at h
     · rename_i vs hvs
       exact hcl_ok hΦ hR hg rfl hlt (by unfold callC; rw [ho]; simp only; rw [hcal]) e hvs h hk
     · cases h
   · split at h
     · rename_i d hd
       rw [<-ho] at h
       exact Lo.hv hd (hlt _ hd) (lop2_ok hg hP hΦ hK h hk)
     · cases h
 · rename_i d hd _ _ _ _ _ _
   first
    | exact Lo.hv ‹_› (hlt _ ‹_›) (lop2_ok hg hP hΦ hK h hk)
    | skip
 · cases h
theorem RkOk.agr {n:Nat} (h:RkOk c rk ρ) (hm:rk.ms.lt n=true) (ha:Agr n ρ ρ'):RkOk c rk ρ':=fun sp hsp m hc=>h sp hsp m (by rw [LE.agr ha hm] at hc; exact hc)
theorem LE.ltM {e:LE} {n m:Nat} (h:e.lt n=true) (hn:n<=m):e.lt m=true:=List.all_eq_true.2 fun p hp=>by
 have:=blt_ok (List.all_eq_true.1 h p hp)
 exact blt_of' (by omega)
theorem Hv.to {K:SS->R} (hn:s'.nx=s.nx) (h:Hv c T G Γ ops i s' ρ K):Hv c T G Γ ops i s ρ K:=StG.mono h fun T' hp' nx' G' ⟨h1,h2,Γ',ρ',s2,h3,h4,h5,h6⟩=>⟨h1,h2,Γ',ρ',s2,h3,by rw [<-hn]; exact h4,by omega,h6⟩
theorem hop_ok {an:An} {K:SS->R} (hP:cf.P=c.P) (hΦ:cf.Φ=c.Φ) (hnt:cf.nt=c.nt) (hK:KeysOk cf) (hR:RkOk c rk ρ) (h:(hop cf rk an ops i s K).Ok) (hk:Ok c T G Γ ρ s):Hv c T G Γ ops i s ρ K:=by
 unfold hop at h
 cases hdi:dIn cf.nt (opAt ops i).dst with
 | false=>rw [hdi] at h; cases h
 | true =>
   rw [hdi] at h
   simp only [cond_true] at h
   have hlt:∀d,(opAt ops i).dst=some d->d<c.nt:=fun d hd=>by
    rw [hd,hnt] at hdi; exact blt_ok hdi
   split at h
   · rename_i hg
     exact hop1_ok hP hΦ hK hR hg hlt h hk
   · rename_i g b hg
     split at h
     · rename_i dg d hdg hd
       split at h
       · rename_i be hl
         have hT:T.at dg=.bool (be.ev ρ):=hk.q.at_ _ _ (lkS_den hl)
         have run:∀s1,s1.nx=s.nx->Ok c T G Γ ρ s1->be.ev ρ=b->(hop1 cf rk an (opAt ops i).op (some d) s1 K).Ok->Hv c T G Γ ops i s ρ K:=fun s1 n1 o1 e1 h1=>by
          rw [e1] at hT
          have:=hop1_ok (ops:=clrA ops) (i:=i) hP hΦ hK hR (clr_guard ops i) (by rw [clr_dst]; exact hlt) (by rw [clr_op,clr_dst,hd]; exact h1) o1
          exact Hv.to n1 (stg_guard1 hg hdg hT this)
         have idle:∀s1,s1.nx=s.nx->Ok c T G Γ ρ s1->be.ev ρ≠b->(K (sput s1 d .undef)).Ok->Hv c T G Γ ops i s ρ K:=fun s1 n1 o1 e1 h1 =>
          Hv.to n1 (Lo.hv hd (hlt d hd) (Lo.here o1 (v:=.undef) h1 (lvg_guard0 hg hdg hT e1)))
         obtain⟨s1,n1,_,o1,h1 | h1⟩:=split_ok h hk
         · obtain⟨e1,h1⟩:=h1
           cases b with
           | true=>exact run s1 n1 o1 e1 h1
           | false=>exact idle s1 n1 o1 (by rw [e1]; decide) h1
         · obtain⟨e1,h1⟩:=h1
           cases b with
           | true=>exact idle s1 n1 o1 (by rw [e1]; decide) h1
           | false=>exact run s1 n1 o1 e1 h1
       · rename_i hl
         exact Lo.hv hd (hlt d hd) (Lo.here hk (v:=.undef) h (lvg_guardU hg hdg (hk.q.at_ _ _ (lkS_den hl))))
       · cases h
     · cases h
def KR (c:Cx) (s:SS) (ρ:Rho) (K:Ex->SS->R) (e:Ex) (T:Tm) (hp:Tr AO) (nx:Pz) (G:GH):Prop:=hp=.e/\nx=z 0/\∃Γ ρ' s',(K e s').Ok/\Agr s.nx ρ ρ'/\s.nx<=s'.nx/\Ok c T G Γ ρ' s'
theorem KR.up {K:Ex->SS->R} {e:Ex} {hp:Tr AO} {nx:Pz} (ha:Agr s.nx ρ ρ') (hn:s.nx<=s'.nx) (h:KR c s' ρ' K e T hp nx G):KR c s ρ K e T hp nx G:=by
 obtain⟨h1,h2,Γ,ρ2,s2,h3,h4,h5,h6⟩:=h
 exact⟨h1,h2,Γ,ρ2,s2,h3,ha.trans h4 hn,by omega,h6⟩
def exO (cf:Cf) (rk:Rk) (an:Nat->An) (ops:Array Oper) (i:Nat) (m:Nat) (s:SS) (K:SS->R):R:=match m with
 | 0=>K s
 | m+1=>hop cf rk (an i) ops i s fun s=>exO cf rk an ops (i+1) m s K
theorem exO_ok {an:Nat->An} {K:Ex->SS->R} (hP:cf.P=c.P) (hΦ:cf.Φ=c.Φ) (hnt:cf.nt=c.nt) (hK:KeysOk cf):∀{m i:Nat} {T:Tm} {G:GH} {Γ:Gam} {ρ:Rho} {s:SS},i+m=ops.size->RkOk c rk ρ->rk.ms.lt s.nx=true->(exO cf rk an ops i m s (K .nrm)).Ok->Ok c T G Γ ρ s->GoesGOps c.P c.n0 c.nt ops i m T .e (z 0) G (KR c s ρ K)
 | 0,i,T,G,Γ,ρ,s,_,_,_,h,hk=>opsG_end ⟨rfl,rfl,Γ,ρ,s,h,Agr.refl _ _,Nat.le_refl _,hk⟩
 | m+1,i,T,G,Γ,ρ,s,hi,hR,hm,h,hk=>by
   have hh:=hop_ok hP hΦ hnt hK hR (show (hop cf rk (an i) ops i s (fun s=>exO cf rk an ops (i+1) m s (K .nrm))).Ok from h) hk
   refine opsG_st (by omega) (StG.mono hh fun T' hp' nx' G' ⟨e1,e2,Γ',ρ',s',h1,h2,h3,h4⟩=>?_)
   subst e1 e2
   have:=exO_ok (K:=K) hP hΦ hnt hK (by omega) (hR.agr hm h2) (LE.ltM hm h3) h1 h4
   exact fun B w0 w ι a hs Q hn=>this B w0 w ι a hs Q fun e T2 hp2 nx2 G2 ι2 a2 w2 k1 k2=>hn e T2 hp2 nx2 G2 ι2 a2 w2 (KR.up h2 h3 k1) k2
end
end Go.Rd
namespace Go.Rex
open Go.RowKit
section
variable {P:Program} {n0 nt:Nat} {T:Tm} {hp:Tr AO} {nx:Pz} {G:GH} {ops:Array Oper} {light:List Nat} {f:Nat} {ce ch:List Nat} {K:Tm->Tr AO->Pz->GH->Prop}
theorem gdr_heavies (hm:((nextL ops light ce ch).isEmpty&&ce.all fun i=>light.contains i)=true) (hne:nextH ops light ce ch≠[]) (hst:∀h∈nextH ops light ce ch,StG P n0 nt ops h T hp nx G fun T' hp' nx' G' =>
      (∀i∈stillL ops ce (h::ch),∀d,(opAt ops i).dst=some d->LVG P ops n0 nt i T' hp' nx' G' (T'.at d))/\GDr P n0 nt ops light f ce (h::ch) T' hp' nx' G' K):GDr P n0 nt ops light (f+1) ce ch T hp nx G K:=by
 intro B w0 ι a w hs Z hz
 obtain⟨h,hh⟩:∃h,h∈nextH ops light ce ch:=by
  cases hc:nextH ops light ce ch with
  | nil=>exact absurd hc hne
  | cons h l=>exact⟨h,List.mem_cons_self ..⟩
 rw [Bool.and_eq_true,List.all_eq_true] at hm
 obtain⟨hm,hce⟩:=hm
 refine .inr ⟨fun i hi hlt hc hd=>?_,fun hall=>?_,fun g hlt hl hc hd=>?_⟩
 · have:i∈nextL ops light ce ch:=List.mem_filter.2 ⟨List.mem_range.2 hlt,by
    rw [depsB_of (l:=ce++ch) (fun j hj=>List.mem_append.2 hj) hd]
    simp [hi,hc]⟩
   rw [List.isEmpty_iff.1 hm] at this
   simp at this
 · exfalso
   obtain⟨q1,q2⟩:=List.mem_filter.1 hh
   simp only [Bool.and_eq_true,Bool.not_eq_true'] at q2
   rcases hall h (List.mem_range.1 q1) with hc | hc
   · have:=hce h hc
     rw [this] at q2
     exact absurd q2.1 (by decide)
   · rw [<-List.contains_iff_mem] at hc
     rw [hc] at q2
     exact absurd q2.2.1 (by decide)
 · have hg:g∈nextH ops light ce ch:=List.mem_filter.2 ⟨List.mem_range.2 hlt,by
    rw [depsB_of (l:=ce++ch) (fun j hj=>List.mem_append.2 hj) hd]
    simp [hl,hc]⟩
   have hst:=hst g hg
   have h2:∀a' w',(∃T' hp' nx' G' ι2,((∀i∈stillL ops ce (g::ch),∀d,(opAt ops i).dst=some d->LVG P ops n0 nt i T' hp' nx' G' (T'.at d))/\GDr P n0 nt ops light f ce (g::ch) T' hp' nx' G' K)/\SatG n0 B w0 nt T' hp' nx' G' ι2 a' w') ->
     (∀i d,i∈ce->(opAt ops i).dst=some d->(∀g',(g'=g∨g'∈ch)->¬bf ops g' i)->Yv P ops (opAt ops i) a' w' (tv a' d))/\Dr P ops light Z f (fun j=>j∈ce) (fun j=>j=g∨j∈ch) a' w':=by
    rintro a' w' ⟨T',hp',nx',G',ι2,⟨g1,g2⟩,g5⟩
    refine⟨fun i d hi hdd hp=>?_,?_⟩
    · have hst:i∈stillL ops ce (g::ch):=List.mem_filter.2 ⟨hi,by
       rw [List.all_eq_true]
       intro g' hg'
       have:=hp g' (List.mem_cons.1 hg')
       unfold bf at this
       cases hb:bit (Region.before ops) g' i with
       | false=>rfl
       | true=>exact absurd hb this⟩
      have:=g1 i hst d hdd B w0 ι2 a' w' g5
      rw [show tv a' d=ren ι2 (T'.at d) from (g5.1.2 ι2 (Agree.refl _ _)).1.val d]
      exact this
    · have:=g2 B w0 ι2 a' w' g5 Z hz
      have e:(fun j=>j∈g::ch)=fun j=>j=g∨j∈ch:=funext fun j=>by simp
      rw [e] at this
      exact this
   rcases hst B w0 ι a w hs with ⟨p1,p2⟩ | ⟨p1,p2⟩
   · exact .inl ⟨p1,p2.mono fun cv w' q=>h2 _ _ q⟩
   · exact .inr ⟨p1,h2 _ _ p2⟩
theorem gdr_mono {K':Tm->Tr AO->Pz->GH->Prop} (h:GDr P n0 nt ops light f ce ch T hp nx G K) (hk:∀T hp nx G,K T hp nx G->K' T hp nx G):GDr P n0 nt ops light f ce ch T hp nx G K' :=
 fun B w0 ι a w hs Z hz=>h B w0 ι a w hs Z fun T' hp' nx' G' ι2 a' w' k1 k2=>hz T' hp' nx' G' ι2 a' w' (hk _ _ _ _ k1) k2
end
end Go.Rex
namespace Go.Rd
open Go.Rex Go.RowKit Go.Rt
def acEl (cf:Cf) (y:Nat) (e:LE) (off n:Nat) (s:SS) (K:SS->R):R:=match fSl s.ty y with
 | some (cc,g)=>bif inS s y e then lde2 cf y e off n true cc g s (fun _ s=>K s) else .bad 511 s
 | none=>.bad 512 s
def acPwE (y:Nat) (e:LE) (s:SS) (K:SS->R):R:=match pwOf s y e with
 | some w=>bif ent s (e.sub (.a (.len y))) then K (addF s (w.sub (.a (.wt y)))) else .bad 513 s
 | none=>.bad 514 s
def acAbs (s:SS) (K:SS->R):R:=bif ent s (.k (-1)) then .ok else K s
inductive Ga where
 | pwE (y:Nat) (e:LE) | abs
 | el (y:Nat) (e:LE) (off n:Nat)
 | new (ns:List (Nat × LE)) (sub:Nat) | newA (ns:List (Nat × LE)) (sub b k:Nat) | bump (g k:Nat) (e:LE) | frz (g:Nat) | frzU (g x cc:Nat) | pubL (b cc g:Nat) | pubM (b cc g:Nat)
def act (cf:Cf) (a:Ga) (s:SS) (K:SS->R):R:=match a with
 | .pwE y e=>acPwE y e s K
 | .abs=>acAbs s K
 | .el y e off n=>acEl cf y e off n s K
 | .new ns sub=>acNew ns sub s K
 | .newA ns sub b k=>acNewA ns sub b k s K
 | .bump g k e=>acBump g k e s K
 | .frz g=>acFrz g s K
 | .frzU g x cc=>acFrzU cf g x cc s K
 | .pubL b cc g=>acPubL cf b cc g s K
 | .pubM b cc g=>acPubM cf b cc g s K
def acts (cf:Cf):List (SS->Option Ga)->SS->(SS->R)->R
 | [],s,K=>K s
 | a::l,s,K=>match a s with
   | some g=>act cf g s fun s=>acts cf l s K
   | none=>acts cf l s K
section
variable {c:Cx} {T:Tm} {G G':GH} {Γ Γ':Gam} {ρ ρ':Rho} {s0 s s':SS} {cf:Cf} {rk:Rk}
theorem acEl_ok {y off n:Nat} {e:LE} {K:SS->R} (hP:cf.P=c.P) (hΦ:cf.Φ=c.Φ) (h:(acEl cf y e off n s K).Ok) (hk:Ok c T G Γ ρ s):Ac c T G Γ s ρ K:=by
 unfold acEl at h
 cases hf:fSl s.ty y with
 | none=>rw [hf] at h; cases h
 | some p =>
   obtain⟨cc,g⟩:=p
   rw [hf] at h
   simp only at h
   cases hi:inS s y e with
   | false=>rw [hi] at h; cases h
   | true =>
     rw [hi] at h
     have h:(lde2 cf y e off n true cc g s (fun _ s=>K s)).Ok:=h
     obtain⟨cc',g',b0,o0,cp0,r1,r2,r3,r4,r5⟩:=inS_ok hi hk
     rw [hf] at r1
     simp only [Option.some.injEq,Prod.mk.injEq] at r1
     obtain⟨rfl,rfl⟩:=r1
     obtain⟨ρ2,s2,a2,n2,o2,xs,b,o',cap,kd,el,size,C,g1,_⟩:=lde2_ok hP hΦ h hk r3 r4 r5 hf
     exact⟨G,Γ,ρ2,s2,Ret.refl _,g1,a2,n2,o2⟩
theorem acPwE_ok {y:Nat} {e:LE} {K:SS->R} (h:(acPwE y e s K).Ok) (hk:Ok c T G Γ ρ s):Ac c T G Γ s ρ K:=by
 unfold acPwE at h
 cases hw:pwOf s y e with
 | none=>rw [hw] at h; cases h
 | some w =>
   rw [hw] at h
   simp only at h
   cases hb:ent s (e.sub (.a (.len y))) with
   | false=>rw [hb] at h; cases h
   | true =>
     rw [hb] at h
     have h1:=pwOf_ok hw hk.sat
     have h2:=ent_ok hb hk.sat
     rw [LE.ev_sub,LE.ev_a] at h2
     have h2:0<=e.ev ρ-((ρ y).ns.length:Int):=h2
     rw [List.take_of_length_le (by omega)] at h1
     refine⟨G,Γ,ρ,_,Ret.refl _,h,Agr.refl _ _,Nat.le_refl _,hk.addF ?_⟩
     rw [LE.ev_sub,LE.ev_a]
     show 0<=w.ev ρ-(((ρ y).ns.sum+(ρ y).ns.length:Nat):Int)
     omega
theorem acAbs_ok {K:SS->R} (h:(acAbs s K).Ok) (hk:Ok c T G Γ ρ s):Ac c T G Γ s ρ K:=by
 unfold acAbs at h
 cases hb:ent s (.k (-1)) with
 | false=>rw [hb] at h; exact⟨G,Γ,ρ,s,Ret.refl _,h,Agr.refl _ _,Nat.le_refl _,hk⟩
 | true =>
   have:=ent_ok hb hk.sat
   rw [LE.ev_k] at this
   omega
theorem act_ok {a:Ga} {K:SS->R} (hP:cf.P=c.P) (hΦ:cf.Φ=c.Φ) (h:(act cf a s K).Ok) (hk:Ok c T G Γ ρ s):Ac c T G Γ s ρ K:=by
 cases a with
 | pwE y e=>exact acPwE_ok h hk
 | abs=>exact acAbs_ok h hk
 | el y e off n=>exact acEl_ok hP hΦ h hk
 | new ns sub=>exact acNew_ok h hk
 | newA ns sub b k=>exact acNewA_ok h hk
 | bump g k e=>exact acBump_ok h hk
 | frz g=>exact acFrz_ok h hk
 | frzU g x cc=>exact acFrzU_ok hΦ h hk
 | pubL b cc g=>exact acPubL_ok hP hΦ h hk
 | pubM b cc g=>exact acPubM_ok hΦ h hk
theorem ret_trans {G G1 G2:GH} (h:Ret G G1) (h':Ret G1 G2):Ret G G2:=fun b=>by
 rcases h b with e | ⟨el,size,C,e1,e2⟩
 · rcases h' b with e' | ⟨el,size,C,e1,e2⟩
   · exact .inl (e'.trans e)
   · exact .inr ⟨el,size,C,by rw [<-e]; exact e1,e2⟩
 · rcases h' b with e' | ⟨el',size',C',e1',e2'⟩
   · exact .inr ⟨el,size,C,e1,e'.trans e2⟩
   · rw [e2] at e1'; cases e1'
theorem acts_ok (hP:cf.P=c.P) (hΦ:cf.Φ=c.Φ):∀{l:List (SS->Option Ga)} {T:Tm} {G:GH} {Γ:Gam} {ρ:Rho} {s:SS} {K:SS->R},(acts cf l s K).Ok->Ok c T G Γ ρ s->Ac c T G Γ s ρ K
 | [],T,G,Γ,ρ,s,K,h,hk=>⟨G,Γ,ρ,s,Ret.refl _,h,Agr.refl _ _,Nat.le_refl _,hk⟩
 | a::l,T,G,Γ,ρ,s,K,h,hk=>by
   unfold acts at h
   split at h
   · obtain⟨G1,Γ1,ρ1,s1,r1,k1,a1,n1,o1⟩:=act_ok hP hΦ h hk
     obtain⟨G2,Γ2,ρ2,s2,r2,k2,a2,n2,o2⟩:=acts_ok hP hΦ k1 o1
     exact⟨G2,Γ2,ρ2,s2,ret_trans r1 r2,k2,a1.trans a2 n1,by omega,o2⟩
   · exact acts_ok hP hΦ h hk
end
def again (cf:Cf) (ops:Array Oper) (i:Nat) (s:SS):R:=match (opAt ops i).dst with
 | some d=>(match lkS s.L d with
   | some w=>bif w.lt s.nx then gop2 cf ops i s (fun v s2=>bif v.same w then .ok else .bad 420 s2) else .bad 421 s
   | none=>.bad 422 s)
 | none=>.ok
def dstI (ops:Array Oper) (nt i:Nat):Option Nat:=match (opAt ops i).dst with | some d=>bif Nat.blt d nt then some d else none | none=>none
def exD (cf:Cf) (rk:Rk) (an:Nat->An) (a2:Nat->List (SS->Option Ga)) (ops:Array Oper) (lig:List Nat) (K:SS->R):Nat->List Nat->List Nat->SS->R
 | 0,_,_,s=>.bad 423 s
 | f+1,ce,ch,s=>match nextL ops lig ce ch with
   | i::_=>(match dstI ops cf.nt i with
     | some d=>bif lig.contains i&&(!ce.contains i&&(Nat.blt i ops.size&&depsB ops (ce++ch) i)) then gop2 cf ops i s fun v s=>exD cf rk an a2 ops lig K f (i::ce) ch (sput s d v) else .bad 424 s
     | none=>.bad 425 s)
   | []=>match nextH ops lig ce ch with
     | []=>bif leftB ops ce ch&&(((List.range ops.size).all fun i=>!lig.contains i||ce.contains i)&&((List.range ops.size).all fun i=>lig.contains i||ch.contains i)) then K s else .bad 426 s
     | h::hs=>bif ce.all fun i=>lig.contains i then allR ((h::hs).map fun h=>acts cf (a2 h) s fun s=>hop cf rk (an h) ops h s fun s=>(allR ((stillL ops ce (h::ch)).map fun i=>again cf ops i s)).and (exD cf rk an a2 ops lig K f ce (h::ch) s)) else .bad 427 s
section
variable {c:Cx} {T:Tm} {G G':GH} {Γ Γ':Gam} {ρ ρ':Rho} {s0 s s':SS} {ops:Array Oper} {i d:Nat} {cf:Cf} {rk:Rk}
theorem again_ok (hP:cf.P=c.P) (hΦ:cf.Φ=c.Φ) (hK:KeysOk cf) (h:(again cf ops i s).Ok) (hd:(opAt ops i).dst=some d) (hk:Ok c T G Γ ρ s):LVG c.P ops c.n0 c.nt i T .e (z 0) G (T.at d):=by
 unfold again at h
 rw [hd] at h
 simp only at h
 split at h
 · rename_i w hw
   cases hb:w.lt s.nx with
   | false=>rw [hb] at h; cases h
   | true =>
     rw [hb] at h
     obtain⟨ρ2,s2,a,n,o,v,h1,h2⟩:=gop2_ok hP hΦ hK (show (gop2 cf ops i s (fun v s2=>bif v.same w then .ok else .bad 420 s2)).Ok from h) hk
     have h1:((bif v.same w then R.ok else .bad 420 s2)).Ok:=h1
     cases hs:v.same w with
     | false=>rw [hs] at h1; cases h1
     | true =>
       rw [hk.q.at_ _ _ (lkS_den hw),<-SV.agr a hb,<-SV.same_ok hs ρ2]
       exact h2
 · cases h
theorem dstI_ok {nt:Nat} (h:dstI ops nt i=some d):(opAt ops i).dst=some d/\d<nt:=by
 unfold dstI at h
 split at h
 · rename_i d' hd
   cases hb:Nat.blt d' nt with
   | false=>rw [hb] at h; cases h
   | true=>rw [hb] at h; cases h; exact⟨hd,blt_ok hb⟩
 · cases h
theorem stG_ret {h:Nat} {R:Tm->Tr AO->Pz->GH->Prop} {n0 nt:Nat} {P:Program} {hp:Tr AO} {nx:Pz} (hr:Ret G G') (hs:StG P n0 nt ops h T hp nx G' R):StG P n0 nt ops h T hp nx G R:=fun B w0 ι a w h=>hs B w0 ι a w (satG_ret h hr)
theorem exD_ok {an:Nat->An} {a2:Nat->List (SS->Option Ga)} {lig:List Nat} {K:Ex->SS->R} (hP:cf.P=c.P) (hΦ:cf.Φ=c.Φ) (hnt:cf.nt=c.nt) (hK:KeysOk cf):∀{f:Nat} {ce ch:List Nat} {T:Tm} {G:GH} {Γ:Gam} {ρ:Rho} {s:SS},RkOk c rk ρ->rk.ms.lt s.nx=true->(exD cf rk an a2 ops lig (K .nrm) f ce ch s).Ok->Ok c T G Γ ρ s->GDr c.P c.n0 c.nt ops lig f ce ch T .e (z 0) G (KR c s ρ K .nrm)
 | 0,ce,ch,T,G,Γ,ρ,s,_,_,h,_=>by cases h
 | f+1,ce,ch,T,G,Γ,ρ,s,hR,hm,h,hk=>by
   unfold exD at h
   split at h
   · rename_i i l hn
     split at h
     · rename_i d hd
       cases hb:(lig.contains i&&(!ce.contains i&&(Nat.blt i ops.size&&depsB ops (ce++ch) i))) with
       | false=>rw [hb] at h; cases h
       | true =>
         rw [hb] at h
         simp only [cond_true] at h
         obtain⟨d1,d2⟩:=dstI_ok hd
         obtain⟨ρ2,s2,a,n,o,v,h1,h2⟩:=gop2_ok hP hΦ hK h hk
         refine gdr_light hb h2 d1 (by rw [<-hnt]; exact d2) ?_
         exact gdr_mono (exD_ok (s:=sput s2 d v) (K:=K) hP hΦ hnt hK (hR.agr hm a) (LE.ltM hm n) h1 (o.put d)) fun T' hp' nx' G' hh=>KR.up (s':=sput s2 d v) a n hh
     · cases h
   · rename_i hn
     split at h
     · rename_i hh
       cases hb:(leftB ops ce ch&&(((List.range ops.size).all fun i=>!lig.contains i||ce.contains i)&&((List.range ops.size).all fun i=>lig.contains i||ch.contains i))) with
       | false=>rw [hb] at h; cases h
       | true =>
         rw [hb] at h
         simp only [Bool.and_eq_true] at hb
         exact gdr_end hb.1 hb.2.1 hb.2.2 ⟨rfl,rfl,Γ,ρ,s,h,Agr.refl _ _,Nat.le_refl _,hk⟩
     · rename_i g gs hh
       cases hb:(ce.all fun i=>lig.contains i) with
       | false=>rw [hb] at h; cases h
       | true =>
         rw [hb] at h
         simp only [cond_true] at h
         refine gdr_heavies (by rw [hn,hb]; rfl) (by rw [hh]; exact List.cons_ne_nil _ _) fun h0 hm0=>?_
         rw [hh] at hm0
         have h1:=allR_ok h _ (List.mem_map.2 ⟨h0,hm0,rfl⟩)
         obtain⟨G1,Γ1,ρ1,s1,r1,j1,a1,n1,o1⟩:=acts_ok hP hΦ h1 hk
         have hv:=hop_ok hP hΦ hnt hK (hR.agr hm a1) j1 o1
         refine stG_ret r1 (StG.mono hv fun T' hp' nx' G' ⟨e1,e2,Γ',ρ',s',k1,k2,k3,k4⟩=>?_)
         subst e1 e2
         have k2:Agr s.nx ρ ρ':=a1.trans k2 n1
         have k3:s.nx<=s'.nx:=Nat.le_trans n1 k3
         obtain⟨k5,k6⟩:=R.and_ok k1
         refine⟨fun i hi d hd=>again_ok hP hΦ hK (allR_ok k5 _ (List.mem_map.2 ⟨i,hi,rfl⟩)) hd k4,?_⟩
         exact gdr_mono (exD_ok hP hΦ hnt hK (hR.agr hm k2) (LE.ltM hm k3) k6 k4) fun T2 hp2 nx2 G2 hh2=>KR.up k2 k3 hh2
end
end Go.Rd
namespace Go.Rd
open Go.Rex Go.RowKit Go.Rt
structure Gu where
 an:Nat->SS->Nat->An
 ac:Nat->List (SS->Option Ga)
 lp:Nat->SS->Option (SS × LE)
 jn:Nat->SS->Option SS
 dr:Nat->List Nat
 un:Nat->Nat
 a2:Nat->Nat->List (SS->Option Ga)
def toS (Φ:Forms) (base:Nat) (s0 s:SS):R:=bif sub Φ s0 s ⟨base,mAll base s0 s []⟩ then .ok else .bad 501 s
def toL (Φ:Forms) (base:Nat) (s0:SS) (mu:LE) (s:SS):R :=
 let σ:Su:=⟨base,mAll base s0 s []⟩
 bif sub Φ s0 s σ then (match sE σ mu with | some e=>bif ent s e&&ent s ((mu.sub e).addc (-1)) then .ok else .bad 502 s | none=>.bad 503 s) else .bad 504 s
def exS (K:Ex->SS->R) (x:SS->R):Ex->SS->R
 | .nrm=>x
 | .ext j=>K (.ext j)
 | .ret=>K .ret
def loopE (Φ:Forms) (body:SS->(Ex->SS->R)->R) (base:Nat) (s0:SS) (mu:LE) (K:Ex->SS->R):Nat->SS->R
 | 0,s=>toL Φ base s0 mu s
 | n+1,s=>match toL Φ base s0 mu s with
   | .ok=>.ok
   | _=>body s (exS K (loopE Φ body base s0 mu K n))
def exB (id:Nat) (K:Ex->SS->R) (x:SS->R):Ex->SS->R
 | .nrm=>x
 | .ext j=>bif Nat.beq j id then x else K (.ext j)
 | .ret=>K .ret
def ex (cf:Cf) (rk:Rk) (gu:Gu):Code->Nat->SS->(Ex->SS->R)->R
 | .skip,_,s,K=>K .nrm s
 | .seq x y,l,s,K=>ex cf rk gu x l s (exS K fun s=>ex cf rk gu y l s K)
 | .cond (.tmp t) x y,l,s,K=>(match lkS s.L t with
   | some (.v false [.bool be])=>split s be (fun s=>ex cf rk gu x l s K) (fun s=>ex cf rk gu y l s K)
   | _=>.bad 505 s)
 | .block id x,_,s,K=>(match gu.jn id s with
   | none=>ex cf rk gu x id s (exB id K (K .nrm))
   | some sj=>bif Nat.ble s.nx sj.nx then (ex cf rk gu x id s (exB id K (toS cf.Φ s.nx sj))).and (K .nrm sj) else .bad 506 s)
 | .loop x,l,s,K=>(match gu.lp l s with
   | some (s0,mu)=>bif Nat.ble s.nx s0.nx&&(mu.lt s0.nx&&ent s0 mu) then (toS cf.Φ s.nx s0 s).and (ex cf rk gu x l s0 (exS K (loopE cf.Φ (fun s K=>ex cf rk gu x l s K) s.nx s0 mu K (gu.un l)))) else .bad 507 s
   | none=>.bad 508 s)
 | .exit id,_,s,K=>K (.ext id) s
 | .ret,_,s,K=>K .ret s
 | .region id ops false,_,s,K=>acts cf (gu.ac id) s fun s=>exO cf rk (gu.an id s) ops 0 ops.size s (K .nrm)
 | .region id ops true,_,s,K=>acts cf (gu.ac id) s fun s=>bif ltB ops (gu.dr id) cf.nt then exD cf rk (gu.an id s) (gu.a2 id) ops (gu.dr id) (K .nrm) (ops.size+1) [] [] s else .bad 509 s
 | _,_,s,_=>.bad 510 s
section
variable {c:Cx} {T:Tm} {G G':GH} {Γ Γ':Gam} {ρ ρ':Rho} {s0 s s':SS} {cf:Cf} {rk:Rk} {gu:Gu} {co:Code}
theorem goesG_ret' {K:Ex->Tm->Tr AO->Pz->GH->Prop} {n0 nt:Nat} {P:Program} {hp:Tr AO} {nx:Pz} (hr:Ret G G') (h:GoesG P n0 nt co T hp nx G' K):GoesG P n0 nt co T hp nx G K:=fun B w0 w ι a hs=>h B w0 w ι a (satG_ret hs hr)
theorem toS_ok {base:Nat} (h:(toS c.Φ base s0 s).Ok) (hk:Ok c T G Γ ρ s):∃ρ',Agr base ρ ρ'/\Ok c T G Γ ρ' s0:=by
 unfold toS at h
 cases hb:sub c.Φ s0 s ⟨base,mAll base s0 s []⟩ with
 | false=>rw [hb] at h; cases h
 | true=>exact⟨_,Su.agr ⟨base,_⟩ ρ,sub_ok hb hk⟩
theorem toL_ok {base:Nat} {mu:LE} (h:(toL c.Φ base s0 mu s).Ok) (hk:Ok c T G Γ ρ s):∃ρ',Agr base ρ ρ'/\Ok c T G Γ ρ' s0/\0<=mu.ev ρ'/\mu.ev ρ'<mu.ev ρ:=by
 unfold toL at h
 simp only at h
 cases hb:sub c.Φ s0 s ⟨base,mAll base s0 s []⟩ with
 | false=>rw [hb] at h; cases h
 | true =>
   rw [hb] at h
   simp only [cond_true] at h
   have hσ:SuOk ρ ⟨base,mAll base s0 s []⟩:=by
    have b1:=hb
    unfold sub at b1
    rw [Bool.and_eq_true] at b1
    exact (subSat_ok b1.1 hk.sat).1
   split at h
   · rename_i e he
     cases hb2:(ent s e&&ent s ((mu.sub e).addc (-1))) with
     | false=>rw [hb2] at h; cases h
     | true =>
       rw [Bool.and_eq_true] at hb2
       have a1:=ent_ok hb2.1 hk.sat
       have a2:=ent_ok hb2.2 hk.sat
       rw [LE.ev_addc,LE.ev_sub] at a2
       have e1:=sE_ok hσ he
       exact⟨_,Su.agr ⟨base,_⟩ ρ,sub_ok hb hk,by rw [<-e1]; exact a1,by rw [<-e1]; omega⟩
   · cases h
theorem KR.run {K:Ex->SS->R} {n0 nt:Nat} {P:Program} {hp:Tr AO} {nx:Pz} (ha:Agr s.nx ρ ρ') (hn:s.nx<=s'.nx) (h:GoesG P n0 nt co T hp nx G (KR c s' ρ' K)):GoesG P n0 nt co T hp nx G (KR c s ρ K):=goesG_mono h fun e T hp nx G hh=>hh.up ha hn
theorem ex_ok (hP:cf.P=c.P) (hΦ:cf.Φ=c.Φ) (hnt:cf.nt=c.nt) (hK:KeysOk cf) (hmix:c.P.follows .mixedOrders=true):∀{co:Code} {l:Nat} {T:Tm} {G:GH} {Γ:Gam} {ρ:Rho} {s:SS} {K:Ex->SS->R},RkOk c rk ρ->rk.ms.lt s.nx=true->(ex cf rk gu co l s K).Ok->Ok c T G Γ ρ s->GoesG c.P c.n0 c.nt co T .e (z 0) G (KR c s ρ K)
 | .skip,l,T,G,Γ,ρ,s,K,hR,hm,h,hk=>goesG_skip ⟨rfl,rfl,Γ,ρ,s,h,Agr.refl _ _,Nat.le_refl _,hk⟩
 | .exit id,l,T,G,Γ,ρ,s,K,hR,hm,h,hk=>goesG_exit ⟨rfl,rfl,Γ,ρ,s,h,Agr.refl _ _,Nat.le_refl _,hk⟩
 | .ret,l,T,G,Γ,ρ,s,K,hR,hm,h,hk=>goesG_ret ⟨rfl,rfl,Γ,ρ,s,h,Agr.refl _ _,Nat.le_refl _,hk⟩
 | .seq x y,l,T,G,Γ,ρ,s,K,hR,hm,h,hk=>by
   have h:(ex cf rk gu x l s (exS K fun s=>ex cf rk gu y l s K)).Ok:=h
   refine goesG_seq (goesG_mono (ex_ok hP hΦ hnt hK hmix hR hm h hk) fun e T' hp' nx' G' hh=>?_)
   obtain⟨e1,e2,Γ',ρ',s',k1,k2,k3,k4⟩:=hh
   subst e1 e2
   cases e with
   | nrm=>exact KR.run k2 k3 (ex_ok hP hΦ hnt hK hmix (hR.agr hm k2) (LE.ltM hm k3) k1 k4)
   | ext j=>exact⟨rfl,rfl,Γ',ρ',s',k1,k2,k3,k4⟩
   | ret=>exact⟨rfl,rfl,Γ',ρ',s',k1,k2,k3,k4⟩
 | .cond cd x y,l,T,G,Γ,ρ,s,K,hR,hm,h,hk=>by
   cases cd with
   | tmp t =>
     have h:((match lkS s.L t with
      | some (.v false [.bool be])=>split s be (fun s=>ex cf rk gu x l s K) (fun s=>ex cf rk gu y l s K)
      | _=>.bad 505 s)).Ok:=h
     split at h
     · rename_i be hl
       have hT:T.at t=.bool (be.ev ρ):=hk.q.at_ _ _ (lkS_den hl)
       obtain⟨s1,n1,_,o1,h1 | h1⟩:=split_ok h hk
       · obtain⟨e1,h1⟩:=h1
         rw [e1] at hT
         exact goesG_cond_true hT (KR.run (by rw [<-n1]; exact Agr.refl _ _) (by omega) (ex_ok hP hΦ hnt hK hmix hR (by rw [n1]; exact hm) h1 o1))
       · obtain⟨e1,h1⟩:=h1
         rw [e1] at hT
         exact goesG_cond_false hT (KR.run (by rw [<-n1]; exact Agr.refl _ _) (by omega) (ex_ok hP hΦ hnt hK hmix hR (by rw [n1]; exact hm) h1 o1))
     · cases h
   | const v=>cases h
   | func f=>cases h
   | global g=>cases h
 | .block id x,l,T,G,Γ,ρ,s,K,hR,hm,h,hk=>by
   have h:((match gu.jn id s with
    | none=>ex cf rk gu x id s (exB id K (K .nrm))
    | some sj=>bif Nat.ble s.nx sj.nx then (ex cf rk gu x id s (exB id K (toS cf.Φ s.nx sj))).and (K .nrm sj) else .bad 506 s)).Ok:=h
   split at h
   · refine goesG_block (goesG_mono (ex_ok hP hΦ hnt hK hmix hR hm h hk) fun e T' hp' nx' G' hh=>?_)
     obtain⟨e1,e2,Γ',ρ',s',k1,k2,k3,k4⟩:=hh
     cases e with
     | nrm=>exact⟨e1,e2,Γ',ρ',s',k1,k2,k3,k4⟩
     | ret=>exact⟨e1,e2,Γ',ρ',s',k1,k2,k3,k4⟩
     | ext j =>
       show KR c s ρ K (if j=id then .nrm else .ext j) T' hp' nx' G'
       have k1:((bif Nat.beq j id then K .nrm else K (.ext j)) s').Ok:=k1
       by_cases hj:j=id
       · subst hj; rw [if_pos rfl]; rw [Nat.beq_refl] at k1; exact⟨e1,e2,Γ',ρ',s',k1,k2,k3,k4⟩
       · rw [if_neg hj]
         have hb:Nat.beq j id=false:=by
          cases hb:Nat.beq j id with
          | false=>rfl
          | true=>exact absurd (beq_ok hb) hj
         rw [hb] at k1
         exact⟨e1,e2,Γ',ρ',s',k1,k2,k3,k4⟩
   · rename_i sj hj0
     cases hb:Nat.ble s.nx sj.nx with
     | false=>rw [hb] at h; cases h
     | true =>
       rw [hb] at h
       simp only [cond_true] at h
       have hn:=ble_ok hb
       obtain⟨h1,h2⟩:=R.and_ok h
       rw [hΦ] at h1
       have fin:∀{T':Tm} {hp':Tr AO} {nx':Pz} {G':GH} {Γ':Gam} {ρ':Rho} {s':SS},hp'=.e->nx'=z 0->(toS c.Φ s.nx sj s').Ok->Agr s.nx ρ ρ'->Ok c T' G' Γ' ρ' s'->KR c s ρ K .nrm T' hp' nx' G':=fun e1 e2 ht ha ho=>by
        obtain⟨ρ2,a2,o2⟩:=toS_ok ht ho
        exact⟨e1,e2,_,ρ2,sj,h2,ha.trans a2 (Nat.le_refl _),hn,o2⟩
       refine goesG_block (goesG_mono (ex_ok hP hΦ hnt hK hmix hR hm h1 hk) fun e T' hp' nx' G' hh=>?_)
       obtain⟨e1,e2,Γ',ρ',s',k1,k2,k3,k4⟩:=hh
       cases e with
       | nrm=>exact fin e1 e2 k1 k2 k4
       | ret=>exact⟨e1,e2,Γ',ρ',s',k1,k2,k3,k4⟩
       | ext j =>
         show KR c s ρ K (if j=id then .nrm else .ext j) T' hp' nx' G'
         have k1:((bif Nat.beq j id then toS c.Φ s.nx sj else K (.ext j)) s').Ok:=k1
         by_cases hj:j=id
         · subst hj; rw [if_pos rfl]; rw [Nat.beq_refl] at k1; exact fin e1 e2 k1 k2 k4
         · rw [if_neg hj]
           have hb:Nat.beq j id=false:=by
            cases hb:Nat.beq j id with
            | false=>rfl
            | true=>exact absurd (beq_ok hb) hj
           rw [hb] at k1
           exact⟨e1,e2,Γ',ρ',s',k1,k2,k3,k4⟩
 | .loop x,l,T,G,Γ,ρ,s,K,hR,hm,h,hk=>by
   have h:((match gu.lp l s with
    | some (s0,mu)=>bif Nat.ble s.nx s0.nx&&(mu.lt s0.nx&&ent s0 mu) then (toS cf.Φ s.nx s0 s).and (ex cf rk gu x l s0 (exS K (loopE cf.Φ (fun s K=>ex cf rk gu x l s K) s.nx s0 mu K (gu.un l)))) else .bad 507 s
    | none=>.bad 508 s)).Ok:=h
   split at h
   · rename_i s0 mu hl
     cases hb:(Nat.ble s.nx s0.nx&&(mu.lt s0.nx&&ent s0 mu)) with
     | false=>rw [hb] at h; cases h
     | true =>
       rw [hb] at h
       simp only [cond_true] at h
       simp only [Bool.and_eq_true] at hb
       obtain⟨b1,b2,b3⟩:=hb
       have b1:=ble_ok b1
       obtain⟨h1,h2⟩:=R.and_ok h
       rw [hΦ] at h1 h2
       obtain⟨ρ1,a1,o1⟩:=toS_ok h1 hk
       have key:∀N:Nat,
         (∀(T:Tm) (G:GH) (Γ:Gam) (ρ2:Rho),Agr s.nx ρ ρ2->Ok c T G Γ ρ2 s0->(mu.ev ρ2).toNat*(gu.un l+1)+(gu.un l+1)<=N->GoesGR c.P c.n0 c.nt x N T .e (z 0) G (KR c s ρ K)) /\
         (∀(u:Nat) (T:Tm) (G:GH) (Γ:Gam) (ρ2 ρ':Rho) (s':SS),Agr s.nx ρ ρ2->Agr s0.nx ρ2 ρ'->s0.nx<=s'.nx->(loopE c.Φ (fun s K=>ex cf rk gu x l s K) s.nx s0 mu K u s').Ok->Ok c T G Γ ρ' s'->(mu.ev ρ2).toNat*(gu.un l+1)+u<=N->GoesGR c.P c.n0 c.nt x N T .e (z 0) G (KR c s ρ K)):=by
        have back:∀(N:Nat) (T:Tm) (G:GH) (Γ:Gam) (ρ2 ρ':Rho) (s':SS),(∀(T:Tm) (G:GH) (Γ:Gam) (ρ2:Rho),Agr s.nx ρ ρ2->Ok c T G Γ ρ2 s0->(mu.ev ρ2).toNat*(gu.un l+1)+(gu.un l+1)<=N->GoesGR c.P c.n0 c.nt x N T .e (z 0) G (KR c s ρ K))->Agr s.nx ρ ρ2->Agr s0.nx ρ2 ρ'->(toL c.Φ s.nx s0 mu s').Ok->Ok c T G Γ ρ' s'->(mu.ev ρ2).toNat*(gu.un l+1)<=N->GoesGR c.P c.n0 c.nt x N T .e (z 0) G (KR c s ρ K):=fun N T G Γ ρ2 ρ' s' ih a2 a3 ht ho hN=>by
         obtain⟨ρ3,b3,o3,m1,m2⟩:=toL_ok ht ho
         have e3:mu.ev ρ'=mu.ev ρ2:=LE.agr a3 b2
         have aa:Agr s.nx ρ ρ':=a2.trans a3 b1
         refine ih T G Γ ρ3 (aa.trans b3 (Nat.le_refl _)) o3 ?_
         have:((mu.ev ρ3).toNat+1)*(gu.un l+1)<=(mu.ev ρ2).toNat*(gu.un l+1):=Nat.mul_le_mul_right _ (by omega)
         rw [Nat.succ_mul] at this
         omega
        intro N
        induction N with
        | zero =>
          refine⟨fun T G Γ ρ2 a2 o2 hN=>by omega,fun u T G Γ ρ2 ρ' s' a2 a3 hn hl ho hN=>?_⟩
          cases u with
          | zero=>exact back 0 T G Γ ρ2 ρ' s' (fun T G Γ ρ2 a2 o2 hN=>by omega) a2 a3 hl ho (by omega)
          | succ u=>omega
        | succ N ih =>
          obtain⟨ih1,ih2⟩:=ih
          have go:∀(u:Nat) (T:Tm) (G:GH) (Γ:Gam) (ρ2 ρ':Rho) (s':SS),Agr s.nx ρ ρ2->Agr s0.nx ρ2 ρ'->s0.nx<=s'.nx->(ex cf rk gu x l s' (exS K (loopE c.Φ (fun s K=>ex cf rk gu x l s K) s.nx s0 mu K u))).Ok->Ok c T G Γ ρ' s'->(mu.ev ρ2).toNat*(gu.un l+1)+u<=N->GoesGR c.P c.n0 c.nt x (N+1) T .e (z 0) G (KR c s ρ K):=fun u T G Γ ρ2 ρ' s' a2 a3 hn hx ho hN=>by
           have aa:Agr s.nx ρ ρ':=a2.trans a3 b1
           refine goesGR_succ (goesG_mono (ex_ok hP hΦ hnt hK hmix (hR.agr hm aa) (LE.ltM hm (Nat.le_trans b1 hn)) hx ho) fun e T' hp' nx' G' hh=>?_)
           obtain⟨e1,e2,Γ',ρ3,s3,k1,k2,k3,k4⟩:=hh
           subst e1 e2
           cases e with
           | nrm=>exact ih2 u T' G' Γ' ρ2 ρ3 s3 a2 (a3.trans k2 hn) (Nat.le_trans hn k3) k1 k4 hN
           | ext j=>exact⟨rfl,rfl,Γ',ρ3,s3,k1,aa.trans k2 (Nat.le_trans b1 hn),by omega,k4⟩
           | ret=>exact⟨rfl,rfl,Γ',ρ3,s3,k1,aa.trans k2 (Nat.le_trans b1 hn),by omega,k4⟩
          have fst:∀(T:Tm) (G:GH) (Γ:Gam) (ρ2:Rho),Agr s.nx ρ ρ2->Ok c T G Γ ρ2 s0->(mu.ev ρ2).toNat*(gu.un l+1)+(gu.un l+1)<=N+1->GoesGR c.P c.n0 c.nt x (N+1) T .e (z 0) G (KR c s ρ K):=fun T G Γ ρ2 a2 o2 hN=>go (gu.un l) T G Γ ρ2 ρ2 s0 a2 (Agr.refl _ _) (Nat.le_refl _) h2 o2 (by omega)
          refine⟨fst,fun u T G Γ ρ2 ρ' s' a2 a3 hn hl ho hN=>?_⟩
          cases u with
          | zero=>exact back (N+1) T G Γ ρ2 ρ' s' fst a2 a3 hl ho (by omega)
          | succ u =>
            unfold loopE at hl
            split at hl
            · rename_i ht
              exact back (N+1) T G Γ ρ2 ρ' s' fst a2 a3 (by rw [ht]; trivial) ho (by omega)
            · exact go u T G Γ ρ2 ρ' s' a2 a3 hn hl ho (by omega)
       exact goesG_loop _ ((key _).1 T G Γ ρ1 a1 o1 (Nat.le_refl _))
   · cases h
 | .region id ops dr,l,T,G,Γ,ρ,s,K,hR,hm,h,hk=>by
   cases dr with
   | false =>
     have h:(acts cf (gu.ac id) s (fun s=>exO cf rk (gu.an id s) ops 0 ops.size s (K .nrm))).Ok:=h
     obtain⟨G1,Γ1,ρ1,s1,r1,k1,a1,n1,o1⟩:=acts_ok hP hΦ h hk
     exact goesG_ret' r1 (KR.run a1 n1 (goesG_region rfl (exO_ok hP hΦ hnt hK (by omega) (hR.agr hm a1) (LE.ltM hm n1) k1 o1)))
   | true =>
     have h:(acts cf (gu.ac id) s (fun s=>bif ltB ops (gu.dr id) cf.nt then exD cf rk (gu.an id s) (gu.a2 id) ops (gu.dr id) (K .nrm) (ops.size+1) [] [] s else .bad 509 s)).Ok:=h
     obtain⟨G1,Γ1,ρ1,s1,r1,k1,a1,n1,o1⟩:=acts_ok hP hΦ h hk
     cases hb:ltB ops (gu.dr id) cf.nt with
     | false=>rw [hb] at k1; cases k1
     | true =>
       rw [hb] at k1
       exact goesG_ret' r1 (KR.run a1 n1 (goesG_draw hmix _ (by rw [<-hnt]; exact hb) (exD_ok hP hΦ hnt hK (hR.agr hm a1) (LE.ltM hm n1) k1 o1)))
 | .rangeFunc _ _ _ _,l,T,G,Γ,ρ,s,K,hR,hm,h,hk=>by cases h
 | .scope _,l,T,G,Γ,ρ,s,K,hR,hm,h,hk=>by cases h
 | .label _,l,T,G,Γ,ρ,s,K,hR,hm,h,hk=>by cases h
 | .goto _,l,T,G,Γ,ρ,s,K,hR,hm,h,hk=>by cases h
 | .refuse _,l,T,G,Γ,ρ,s,K,hR,hm,h,hk=>by cases h
end
end Go.Rd
namespace Go.Rd
open Go.Rex Go.RowKit Go.Rt
def argL:Nat->List SV->List (Nat × SV)
 | _,[]=>[]
 | i,v::l=>(i,v)::argL (i+1) l
def Sp.start (sp:Sp):SS:=⟨sp.pre.nx,argL 0 sp.ar,sp.pre.os,sp.pre.ty,sp.pre.gs,sp.pre.fs,sp.pre.bs,sp.pre.pw,sp.pre.ats,sp.pre.fls,sp.pre.ne,sp.pre.fz,sp.pre.sb⟩
def resS (P:Program) (s:SS):ResultVar->Option SV
 | .tmp t=>lkS s.L t
 | .cell a t=>(match lkS s.L a with
   | some (.v false [.rpt b o])=>(match locAt s.os b with
     | some (_,cs)=>bif aggT P t then (bif Nat.ble (o+szOf P t) cs.length then some (.v true ((cs.drop o).take (szOf P t))) else none)
       else bif knownT P t then (cs[o]?).map sc else none
     | none=>none)
   | _=>none)
def resL (P:Program) (s:SS):List ResultVar->Option (List SV)
 | []=>some []
 | r::l=>(match resS P s r,resL P s l with | some v,some vs=>some (v::vs) | _,_=>none)
def unV:List SV->Option (List (Bool × List SC))
 | []=>some []
 | .v ag cs::l=>(unV l).map ((ag,cs)::·)
 | _::_=>none
def resV:List SV->Option SV
 | [v]=>some v
 | vs=>(unV vs).map .tup
def resA (vs:List AV):AV:=match vs with | [v]=>v | vs=>.tup vs
def oneOf (Φ:Forms) (base:Nat) (r:SV) (s:SS):List (SV × SS)->Bool
 | []=>false
 | p::l =>
   let σ:Su:=⟨base,mAll base p.2 s (mV base [] p.1 r)⟩
   (sub Φ p.2 s σ&&(match sV σ p.1 with | some r'=>r'.same r | none=>false))||oneOf Φ base r s l
def finS (cf:Cf) (sp:Sp) (rs:List ResultVar) (s:SS):R:=match (resL cf.P s rs).bind resV with
 | some r=>bif oneOf cf.Φ sp.pre.nx r s sp.posts then .ok else .bad 600 s
 | none=>.bad 601 s
def fin (cf:Cf) (sp:Sp) (rs:List ResultVar):Ex->SS->R
 | .nrm=>finS cf sp rs
 | .ret=>finS cf sp rs
 | .ext _=>.bad 602
section
variable {c:Cx} {T:Tm} {G G':GH} {Γ Γ':Gam} {ρ ρ':Rho} {s0 s s':SS} {cf:Cf} {rk:Rk} {gu:Gu} {co:Code}
theorem resS_ok {r:ResultVar} {v:SV} (hP:cf.P=c.P) (h:resS cf.P s r=some v) (hk:Ok c T G Γ ρ s) {B:Nat->Prop} {w0:World} {ι:En} {a:Act} {w:World} (hs:SatG c.n0 B w0 c.nt T .e (z 0) G ι a w):(resSem a.tmps r).run c.P w=.ok (ren ι (v.den ρ)) w:=by
 rw [hP] at h
 cases r with
 | tmp t =>
   have:=(hs.1.2 ι (Agree.refl _ _)).1.val t
   rw [hk.q.at_ _ _ (lkS_den h)] at this
   have this:a.tmps.getD t undef=ren ι (v.den ρ):=this
   simp [resSem,this]
 | cell ad t =>
   unfold resS at h
   simp only at h
   split at h
   · rename_i b o hx
     have e:=(hs.1.2 ι (Agree.refl _ _)).1.val ad
     rw [hk.q.at_ _ _ (lkS_den hx)] at e
     have e:a.tmps.getD ad undef=ren ι (.rpt (ρ b).nn o):=e
     split at h
     · rename_i el cs hl
       have hG:=hk.loc hl
       have hcl:(denL ρ cs).length=cs.length:=by simp [denL]
       cases ha:aggT c.P t with
       | true =>
         rw [ha] at h
         simp only [cond_true] at h
         cases hb:Nat.ble (o+szOf c.P t) cs.length with
         | false=>rw [hb] at h; cases h
         | true =>
           rw [hb] at h
           cases h
           have hle:=ble_ok hb
           obtain⟨d,hd⟩:=aggT_und ha
           show _=Result.ok (ren ι (.agg (denL ρ _))) w
           rw [denL_take]
           have hlen:(((denL ρ cs).drop o).take (szOf c.P t)).length=szOf c.P t:=by rw [List.length_take,List.length_drop,hcl]; omega
           simp only [resSem,e,ren,Go.asAddr,Sem.run_bind,Sem.run_pure,Result.andThen_ok,loadVar,run_agg hd,ha,if_true,run_size_und hd]
           rw [Rex.run_loadCells (l:=renL ι (((denL ρ cs).drop o).take (szOf c.P t))) (by rw [renL_length,hlen]) fun j' hj'=>?_]
           · simp
           · rw [renL_length] at hj'
             rw [told_cells hs hG _ (by rw [hcl]; omega),renL_get,List.getElem?_take_of_lt (by omega),List.getElem?_drop]
       | false =>
         rw [ha] at h
         simp only [cond_false] at h
         cases hkn:knownT c.P t with
         | false=>rw [hkn] at h; cases h
         | true =>
           rw [hkn] at h
           simp only [cond_true] at h
           obtain⟨x,hx,rfl⟩:=map_some h
           obtain⟨d,hd⟩:=known_und hkn
           have hlt:o<cs.length:=(List.getElem?_eq_some_iff.1 hx).1
           show _=Result.ok (ren ι (x.den ρ)) w
           simp only [resSem,e,ren,Go.asAddr,Sem.run_bind,Sem.run_pure,Result.andThen_ok,loadVar,run_agg hd,ha,Bool.false_eq_true,if_false]
           rw [run_load_cell (v:=ren ι (x.den ρ)) (by rw [told_cells hs hG _ (by rw [hcl]; exact hlt)]; simp [denL,hx])]
     · cases h
   · cases h
theorem resL_ok (hP:cf.P=c.P) (hk:Ok c T G Γ ρ s) {B:Nat->Prop} {w0:World} {ι:En} {a:Act} {w:World} (hs:SatG c.n0 B w0 c.nt T .e (z 0) G ι a w):∀{rs:List ResultVar} {vs:List SV},resL cf.P s rs=some vs->(rs.mapM (resSem a.tmps)).run c.P w=.ok (renL ι (vs.map (SV.den ρ))) w
 | [],vs,h=>by cases h; simp [renL]
 | r::l,vs,h=>by
   unfold resL at h
   split at h
   · rename_i v vs' h1 h2
     cases h
     rw [List.mapM_cons,Sem.run_bind,resS_ok hP h1 hk hs,Result.andThen_ok,Sem.run_bind,resL_ok hP hk hs h2,Result.andThen_ok]
     simp [renL]
   · cases h
theorem unV_ok:∀{vs:List SV} {l:List (Bool × List SC)},unV vs=some l->l.map (den1 ρ)=vs.map (SV.den ρ)
 | [],l,h=>by cases h; rfl
 | .v ag cs::vs,l,h=>by
   obtain⟨r,h1,rfl⟩:=map_some (show (unV vs).map ((ag,cs)::·)=some l from h)
   rw [List.map_cons,List.map_cons,unV_ok h1]; rfl
 | .tup _::_,_,h=>by cases h
 | .undef::_,_,h=>by cases h
 | .clo _ _::_,_,h=>by cases h
theorem resV_ok {vs:List SV} {r:SV} (h:resV vs=some r):r.den ρ=resA (vs.map (SV.den ρ)):=by
 match vs,h with
 | [],h=>obtain⟨l,h1,rfl⟩:=map_some (show (unV []).map .tup=some r from h); cases h1; rfl
 | [v],h=>cases h; rfl
 | v::v2::vs,h =>
   obtain⟨l,h1,rfl⟩:=map_some (show (unV (v::v2::vs)).map .tup=some r from h)
   show AV.tup (l.map (den1 ρ))=_
   rw [unV_ok h1]; rfl
theorem results_ok (hP:cf.P=c.P) (hk:Ok c T G Γ ρ s) {B:Nat->Prop} {w0:World} {ι:En} {a:Act} {w:World} (hs:SatG c.n0 B w0 c.nt T .e (z 0) G ι a w) {fn:Func} {vs:List SV} {r:SV} (h:resL cf.P s fn.results.toList=some vs) (hr:resV vs=some r):(results fn a.tmps).run c.P w=.ok (ren ι (r.den ρ)) w:=by
 have h1:=resL_ok hP hk hs h
 rw [resV_ok (ρ:=ρ) hr]
 show (fn.results.mapM (resSem a.tmps) >>= fun vs=>pure (if h:vs.size=1 then vs[0] else .tuple vs)).run c.P w=_
 rw [Sem.run_bind,Array.mapM_eq_mapM_toList,Sem.run_map,h1]
 generalize vs.map (SV.den ρ)=us
 match us with
 | []=>simp [renL,resA,ren]
 | [v]=>simp [renL,resA]
 | v::v2::vs=>simp [renL,resA,ren]
theorem oneOf_ok {base:Nat} {r:SV} (hk:Ok c T G Γ ρ s):∀{l:List (SV × SS)},oneOf c.Φ base r s l=true->∃p∈l,∃ρ',Agr base ρ ρ'/\Ok c T G Γ ρ' p.2/\p.1.den ρ'=r.den ρ
 | [],h=>by cases h
 | p::l,h=>by
   unfold oneOf at h
   simp only [Bool.or_eq_true,Bool.and_eq_true] at h
   rcases h with ⟨h1,h2⟩ | h
   · have hσ:=(subSat_ok (by unfold sub at h1; rw [Bool.and_eq_true] at h1; exact h1.1) hk.sat).1
     split at h2
     · rename_i r' hr'
       exact⟨p,List.mem_cons_self ..,_,Su.agr ⟨base,_⟩ ρ,sub_ok h1 hk,by rw [<-sV_ok hσ hr',SV.same_ok h2 ρ]⟩
     · cases h2
   · obtain⟨q,h1,h2⟩:=oneOf_ok hk h
     exact⟨q,List.mem_cons_of_mem _ h1,h2⟩
theorem argL_lk:∀{l:List SV} {i k:Nat} {v:AV},lk ((argL i l).map fun p=>(p.1,p.2.den ρ)) k=some v->i<=k/\(l.map (SV.den ρ))[k-i]?=some v
 | [],i,k,v,h=>by cases h
 | x::l,i,k,v,h=>by
   have h:(bif Nat.beq i k then some (x.den ρ) else lk ((argL (i+1) l).map fun p=>(p.1,p.2.den ρ)) k)=some v:=h
   cases hb:Nat.beq i k with
   | true=>rw [hb] at h; cases h; have:=beq_ok hb; subst this; exact⟨Nat.le_refl _,by simp⟩
   | false =>
     rw [hb] at h
     obtain⟨h1,h2⟩:=argL_lk h
     refine⟨by omega,?_⟩
     rw [show k-i=(k-(i+1))+1 by omega,List.map_cons,List.getElem?_cons_succ]; exact h2
end
theorem holds_of {P:Program} {Φ:Forms} {cf:Cf} {rk:Rk} {gu:Gu} {sp:Sp} {m:Nat} {fn:Func} {co:Code} (hP:cf.P=P) (hΦ:cf.Φ=Φ) (hnt:cf.nt=fn.ntmps) (hK:KeysOk cf) (hmix:P.follows .mixedOrders=true) (hf:P.funcs[sp.f]?=some fn) (hb:fn.body=some co) (hn:(fn.name == "runtime.NumGoroutine")=false) (hl:Nat.ble sp.ar.length fn.ntmps=true)
  (h1:rk.str=sp.str) (h2:rk.ms=sp.ms) (h3:sp.ms.lt sp.pre.nx=true) (hex:(ex cf rk gu co 0 sp.start (fin cf sp fn.results.toList)).Ok) (hI:∀sp'∈rk.tbl,∀m':Nat,(sp'.str<sp.str∨(sp'.str=sp.str/\m'<m))->Holds P Φ sp' m') (hm0:∀ρ:Rho,Sat ρ sp.pre->0<=sp.ms.ev ρ):Holds P Φ sp m:=by
 intro ρ G Γ hin hm B w0 w ι cargs hc hg hca
 have hargs:nfL (sp.ar.map (SV.den ρ)):=nfL_sv sp.ar ρ
 have hl:=ble_ok hl
 have hlen:(sp.ar.map (SV.den ρ)).length=sp.ar.length:=by simp
 obtain⟨t',_,hml,ht⟩:=laid_eq (sp.ar.map (SV.den ρ)) 0 Tm.e (fun _=>.ok) (by
  have:∀(as:List AV) (i:Nat) (t:Tm),laidArgs as i t (fun _=>.ok)=.ok:=by
   intro as
   induction as with
   | nil=>intro i t; rfl
   | cons a as ih =>
     intro i t
     show (setS i).run t a (fun t=>natF (Nat.succ i) fun i=>laidArgs as i t fun _=>.ok)=.ok
     rw [setS_eq,natF_eq]
     exact ih _ _
  exact this _ _ _)
 refine .inr (.inl ⟨sp.f,cargs,w,by simp only [callFunc,Sem.run_bind,run_program,Result.andThen_ok,hf,hn,hb,Option.isNone_some,Bool.false_eq_true,if_false,Sem.run_pure],?_⟩)
 refine callsIn_wide.1 (callsIn_of_wp_marks (F:=fw none) (n:=0) hf hb trivial ?_)
 have no:∀{id:Pz} {o:AO} {p:Prop},(Tr.e:Tr AO).get id=some o->p:=fun h=>by rw [Tr.get_e] at h; cases h
 have hsat:SatG w.heap.size (fun b=>B b∨(b<w.heap.size/\G b=none)) w fn.ntmps t' .e (z 0) G ι { tmps:=cargs++Array.replicate (fn.ntmps-cargs.size) undef,defers:=[] } w:=by
  refine⟨⟨wf_start _,fun ι' hι=>⟨?_,?_⟩⟩,fun b g hbg=>(hg b g hbg).keep rfl fun hB=>?_,fun id o h=>no h,Nat.le_refl _,fun b hlt hnone=>.inr ⟨hlt,hnone⟩⟩
  · rw [hca,nf_renL hargs ι ι']
    exact start_ok hml (by rw [hlen]; exact hl) ht
  · refine⟨Kept.refl _ _,fun k hk=>?_,fun id o h=>no h,fun id o h=>no h,fun id id' o o' _ h=>no h,fun id id' f ep es n el c f' ep' tp' es' n' el' c' _ h=>no h⟩
    rcases hk with hk | hk
    · exact hc.room k hk
    · exact hk.1
  · rcases hB with hB | hB
    · exact hB
    · rw [hbg] at hB; cases hB.2
 have hok:Ok ⟨P,Φ,w.heap.size,fn.ntmps,blks (sp.pre.os.map (SO.den ρ)),wIns ρ sp.pre.gs,G,Γ⟩ t' G Γ ρ sp.start:=by
  refine⟨⟨hin.sat.fs,hin.sat.bs,hin.sat.pw,hin.sat.ats,hin.sat.fls,hin.sat.ne,hin.sat.fz,hin.sat.sb⟩,?_⟩
  refine⟨hml,fun k v hk=>?_,fun b x hb=>(hin.ht.b b x hb).told,Rl.refl _ _ _ _ _,Grow.refl _ _,fun o ho=>?_,fun o ho b hb=>.inl (mem_blks.2 ⟨o,ho,hb⟩),hin.nd,hin.ht,fun f hf=>?_,fun p hp=>?_⟩
  · obtain⟨_,this⟩:=argL_lk hk
    rw [Nat.sub_zero] at this
    have hlt:k<(sp.ar.map (SV.den ρ)).length:=(List.getElem?_eq_some_iff.1 this).1
    rw [ht k,if_pos ⟨Nat.zero_le _,by omega⟩,Nat.sub_zero,this]; rfl
  · obtain⟨o0,m1,rfl⟩:=List.mem_map.1 ho; exact hin.own o0 m1
  · obtain⟨f0,m1,rfl⟩:=List.mem_map.1 hf; exact hin.ty f0 m1
  · obtain⟨p0,m1,rfl⟩:=List.mem_map.1 hp
    obtain⟨a1,a2,a3⟩:=hin.gs p0 m1
    exact⟨a1,a2,fun hw=>⟨.inl (List.mem_map.2 ⟨p0,List.mem_filter.2 ⟨m1,hw⟩,rfl⟩),a3 hw⟩⟩
 have hR:RkOk ⟨P,Φ,w.heap.size,fn.ntmps,blks (sp.pre.os.map (SO.den ρ)),wIns ρ sp.pre.gs,G,Γ⟩ rk ρ:=fun sp' hsp m' hc=>by
  refine hI sp' hsp m' ?_
  rw [h1,h2] at hc
  rcases hc with hc | ⟨hc,hc2⟩
  · exact .inl hc
  · exact .inr ⟨hc,by omega⟩
 have hgo:=ex_ok (gu:=gu) hP hΦ hnt hK hmix hR (by rw [h2]; exact h3) hex hok
 refine hgo _ w w ι _ hsat _ (fun e tm' hp' nx' G' ι2 a' w' hk hs=>?_)
 obtain⟨rfl,rfl,Γ',ρ',s',k1,k2,k3,k4⟩:=hk
 have finish:(finS cf sp fn.results.toList s').Ok->LeavesInM (fw none) 0 P fn a'.tmps (fun e w''=>∃cv,e=.returned cv/\∃v G',(∃Γ' ρ',∃p∈sp.posts,v=p.1.den ρ'/\Agr sp.pre.nx ρ ρ'/\Out P Φ (blks (sp.pre.os.map (SO.den ρ))) (wIns ρ sp.pre.gs) G Γ G' Γ' ρ' p.2)/\nf v/\cv=ren ι v/\Core B w0 ι .e w''/\GOk B G' w''/\(∀b,(G' b).isSome=true->(G b).isSome=true∨w.heap.size<=b)/\∀b,(G b).isSome=true->(G' b).isSome=true) a'.defers .returning w':=fun hfin=>by
  unfold finS at hfin
  split at hfin
  · rename_i r hr
    cases hrl:resL cf.P s' fn.results.toList with
    | none=>rw [hrl] at hr; cases hr
    | some vs =>
      rw [hrl] at hr
      have hr:resV vs=some r:=hr
      cases hone:oneOf cf.Φ sp.pre.nx r s' sp.posts with
      | false=>rw [hone] at hfin; cases hfin
      | true =>
        rw [hΦ] at hone
        obtain⟨p,m1,ρ2,m2,m3,m4⟩:=oneOf_ok k4 hone
        obtain⟨t0,c0⟩:=hs.1.2 ι2 (Agree.refl _ _)
        rw [t0.defers,k4.q.ml]
        show ∃cv,(results fn a'.tmps).run P w'=.ok cv w'/\_
        have hnf:=sv_nf r ρ'
        refine⟨ren ι2 (r.den ρ'),results_ok hP k4 hs hrl hr,_,rfl,r.den ρ',G',⟨Γ',ρ2,p,m1,m4.symm,k2.trans m2 (Nat.le_refl _),⟨m3.sat,m3.q.rl,m3.q.ht,fun o ho=>m3.q.own _ (List.mem_map.2 ⟨o,ho,rfl⟩),m3.q.nd,fun o ho=>m3.q.new _ (List.mem_map.2 ⟨o,ho,rfl⟩),fun f hf=>m3.q.ty _ (List.mem_map.2 ⟨f,hf,rfl⟩),fun q hq=>m3.q.gs (ig ρ2 q.1,(ρ2 q.2.1).gg,q.2.2) (List.mem_map.2 ⟨q,hq,rfl⟩)⟩⟩,hnf,hnf _ _,?_,fun b g hb'=>(hs.2.1 b g hb').less fun b hb=>.inl hb,fun b hb=>k4.q.grow.new b hb,k4.q.grow.old⟩
        have c1:=core_nil (core_part (a:=.e) (fun id o h=>no h) c0) ι
        exact⟨hc.below.trans (c1.below.mono fun k hk=>.inl hk),fun k hk=>c1.room k (.inl hk),fun id o h=>no h,fun id o h=>no h,fun id id' o o' _ h=>no h,fun id id' f ep es n el c f' ep' tp' es' n' el' c' _ h=>no h⟩
  · cases hfin
 cases e with
 | nrm=>exact finish k1
 | ext id=>cases k1
 | ret=>exact finish k1
theorem table_ok {P:Program} {Φ:Forms} {tbl:List Sp} (h:∀sp∈tbl,∀m:Nat,(∀sp'∈tbl,∀m':Nat,(sp'.str<sp.str∨(sp'.str=sp.str/\m'<m))->Holds P Φ sp' m')->Holds P Φ sp m):∀sp∈tbl,∀m:Nat,Holds P Φ sp m:=by
 have key:∀(n m:Nat) (sp:Sp),sp∈tbl->sp.str=n->Holds P Φ sp m:=by
  intro n
  induction n using Nat.strongRecOn with
  | ind n ih =>
    intro m
    induction m using Nat.strongRecOn with
    | ind m ih2 =>
      intro sp hsp hs
      refine h sp hsp m fun sp' hsp' m' hc=>?_
      rcases hc with hc | ⟨hc,hm⟩
      · exact ih sp'.str (by omega) m' sp' hsp' rfl
      · exact ih2 m' hm sp' hsp' (by omega)
 exact fun sp hsp m=>key sp.str m sp hsp rfl
end Go.Rd
namespace Go.Rd
open Go.Rex Go.RowKit Go.Rt
inductive Sl where | a | o | n (l r:Sl)
def R.okS:Sl->R->Bool
 | .a,r=>r.okB
 | .o,_=>true
 | .n x y,r=>match r with
   | .ok=>true
   | .bad _ _=>false
   | .both a b=>bif R.okS x (a ()) then R.okS y (b ()) else false
def Sl.mk:Sl->Sl->Sl
 | .a,.a=>.a
 | x,y=>.n x y
def Sl.un:Sl->Sl->Sl
 | .a,_=>.a
 | .o,y=>y
 | .n _ _,.a=>.a
 | .n l r,.o=>.n l r
 | .n l r,.n l2 r2=>Sl.mk (l.un l2) (r.un r2)
theorem okS_mk {x y:Sl} {r:R} (h:R.okS (.n x y) r=true):R.okS (x.mk y) r=true:=by
 cases x<;>cases y<;>first | exact h | (cases r<;>exact h)
theorem okS_n {x y:Sl} {a b:Unit->R} (h:R.okS (.n x y) (.both a b)=true):R.okS x (a ())=true/\R.okS y (b ())=true:=by
 have h:(bif R.okS x (a ()) then R.okS y (b ()) else false)=true:=h
 cases ha:R.okS x (a ()) with
 | false=>rw [ha] at h; cases h
 | true=>rw [ha] at h; exact⟨rfl,h⟩
theorem okS_un:∀{x y:Sl} {r:R},R.okS x r=true->R.okS y r=true->R.okS (x.un y) r=true
 | .a,_,_,h,_=>h
 | .o,_,_,_,h=>h
 | .n _ _,.a,_,_,h=>h
 | .n _ _,.o,_,h,_=>h
 | .n _ _,.n _ _,.ok,_,_=>okS_mk rfl
 | .n _ _,.n _ _,.bad _ _,h,_=>by cases h
 | .n l1 l2,.n r1 r2,.both u v,h,h'=>by
   refine okS_mk ?_
   obtain⟨h1,h2⟩:=okS_n h
   obtain⟨h3,h4⟩:=okS_n h'
   show (bif R.okS (l1.un r1) (u ()) then R.okS (l2.un r2) (v ()) else false)=true
   rw [okS_un h1 h3,okS_un h2 h4]; rfl
theorem okS_all {x:Sl} {r:R} (h:R.okS x r=true) (hx:x=.a):r.okB=true:=by subst hx; exact h
def chkF (P:Program) (Φ:Forms) (keys:List (TypeId × KK)) (tbl:List Sp) (x:Sp) (gu:Gu):R:=match P.funcs[x.f]? with
 | some fn=>(match fn.body with
   | some co=>bif !(fn.name == "runtime.NumGoroutine")&&(Nat.ble x.ar.length fn.ntmps&&(x.ms.lt x.pre.nx&&ent x.pre x.ms)) then ex ⟨P,Φ,fn.ntmps,keys⟩ ⟨tbl,x.str,x.ms⟩ gu co 0 x.start (fin ⟨P,Φ,fn.ntmps,keys⟩ x fn.results.toList) else .bad 700 x.pre
   | none=>.bad 701 x.pre)
 | none=>.bad 702 x.pre
theorem chk_holds {P:Program} {Φ:Forms} {keys:List (TypeId × KK)} {tbl:List Sp} {x:Sp} {gu:Gu} {m:Nat} (hK:∀p∈keys,MapT P p.1 p.2) (hmix:P.follows .mixedOrders=true) (h:(chkF P Φ keys tbl x gu).Ok) (hI:∀sp'∈tbl,∀m':Nat,(sp'.str<x.str∨(sp'.str=x.str/\m'<m))->Holds P Φ sp' m'):Holds P Φ x m:=by
 unfold chkF at h
 cases hf:P.funcs[x.f]? with
 | none=>rw [hf] at h; cases h
 | some fn =>
   rw [hf] at h
   simp only at h
   cases hb:fn.body with
   | none=>rw [hb] at h; cases h
   | some co =>
     rw [hb] at h
     simp only at h
     cases hc:(!(fn.name == "runtime.NumGoroutine")&&(Nat.ble x.ar.length fn.ntmps&&(x.ms.lt x.pre.nx&&ent x.pre x.ms))) with
     | false=>rw [hc] at h; cases h
     | true =>
       rw [hc] at h
       simp only [Bool.and_eq_true,Bool.not_eq_true'] at hc
       obtain⟨c1,c2,c3,c4⟩:=hc
       exact holds_of (cf:=⟨P,Φ,fn.ntmps,keys⟩) (rk:=⟨tbl,x.str,x.ms⟩) rfl rfl rfl hK hmix hf hb c1 c2 rfl rfl c3 h hI fun ρ hs=>ent_ok c4 hs
theorem all_hold {P:Program} {Φ:Forms} {keys:List (TypeId × KK)} {tbl:List (Sp × Gu)} {ext:List Sp} (hK:∀p∈keys,MapT P p.1 p.2) (hmix:P.follows .mixedOrders=true) (hext:∀sp∈ext,∀m,Holds P Φ sp m) (h:∀e∈tbl,(chkF P Φ keys (tbl.map (·.1)++ext) e.1 e.2).Ok):∀sp∈tbl.map (·.1)++ext,∀m:Nat,Holds P Φ sp m:=by
 refine table_ok fun sp hsp m hI=>?_
 rcases List.mem_append.1 hsp with hsp | hsp
 · obtain⟨e,h1,rfl⟩:=List.mem_map.1 hsp
   exact chk_holds hK hmix (h e h1) hI
 · exact hext sp hsp m
theorem all_nil {α:Type} {p:α->Prop}:∀e∈([]:List α),p e:=fun e h=>by cases h
theorem all_cons {α:Type} {p:α->Prop} {a:α} {l:List α} (h:p a) (hl:∀e∈l,p e):∀e∈a::l,p e:=fun e he=>by
 rcases List.mem_cons.1 he with rfl | he
 · exact h
 · exact hl e he
end Go.Rd
namespace Go.Rd
open Go.Rex Go.RowKit Go.Rt
def elAt (s:SS):Option SC->Option SC->Nat->Option SC
 | some (.ref y),some (.int _ e),o=>(match fSl s.ty y with | some (cc,_)=>fEl s.ty y cc e o | none=>none)
 | _,_,_=>none
inductive XR where | t (t:Nat) | p (t i:Nat) | c (t o:Nat) | e (x i:XR) (o:Nat)
inductive XG where | z | r (x:XR) | n (k:Nat)
inductive XE where
 | k (n:Int) | v (x:XR) | len (x:XR) | wt (x:XR) | gn (g:XG) (k:Nat) | add (a b:XE) | sub (a b:XE) | mul (n:Int) (a:XE) | pw (x:XR) (i:XE) | raw (e:LE) | sln (x:XR)
def rC (s:SS):XR->Option SC
 | .t t=>(match lkS s.L t with | some (.v _ [x])=>some x | _=>none)
 | .p t i=>(match lkS s.L t with | some (.v _ cs)=>cs[i]? | _=>none)
 | .c t o=>(match lkS s.L t with | some (.v _ [.rpt b o'])=>(match locAt s.os b with | some (_,cs)=>cs[o'+o]? | none=>none) | _=>none)
 | .e x i o=>elAt s (rC s x) (rC s i) o
def gOf (s:SS) (y:Nat):Option Nat:=match fSl s.ty y with
 | some (_,g)=>some g
 | none=>match fPt s.ty y with
   | some (_,g)=>some g
   | none=>match fMp s.ty y with
     | some (_,g)=>some g
     | none=>match fOw s.os y with | some (.ul _ g)=>some g | _=>none
def rG (s:SS):XG->Option Nat
 | .z=>some 0
 | .n k=>(s.gs[k]?).map (·.1)
 | .r x=>(match rC s x with | some (.ref y)=>gOf s y | _=>none)
def lnOf (s:SS) (y:Nat):Nat:=match fOw s.os y with | some (.bl m _)=>m | _=>y
def rE (s:SS):XE->Option LE
 | .k n=>some (.k n)
 | .v x=>(match rC s x with | some (.int _ e)=>some e | _=>none)
 | .len x=>(match rC s x with | some (.ref y)=>some (.a (.len (lnOf s y))) | some .nils=>some (.k 0) | some (.osl _ n)=>some (.k n) | _=>none)
 | .wt x=>(match rC s x with | some (.ref y)=>some (.a (.wt (lnOf s y))) | some .nils=>some (.k 0) | _=>none)
 | .gn g k=>(match rG s g with | some g=>(match ghost s.gs g with | some d=>some (.a (.gn d k)) | none=>none) | none=>none)
 | .add a b=>(match rE s a,rE s b with | some x,some y=>some (x.add y) | _,_=>none)
 | .sub a b=>(match rE s a,rE s b with | some x,some y=>some (x.sub y) | _,_=>none)
 | .mul n a=>(rE s a).map (LE.mulc n)
 | .pw x i=>(match rC s x,rE s i with | some (.ref y),some e=>pwOf s y e | some .nils,some e=>some e | _,_=>none)
 | .raw e=>some e
 | .sln x=>(match rC s x with | some (.str y)=>some (.a (.sl y)) | some (.strc l _)=>some (.k l) | _=>none)
def remT:List (Nat × SV)->Nat->List (Nat × SV)
 | [],_=>[]
 | p::l,t=>bif Nat.beq p.1 t then remT l t else p::remT l t
def dedL:List (Nat × SV)->List (Nat × SV)
 | []=>[]
 | p::l=>p::remT (dedL l) p.1
def setC:List SC->Nat->SC->List SC
 | [],_,_=>[]
 | x::l,i,y=>bif Nat.beq i 0 then y::l else x::setC l (i-1) y
def setR (s:SS) (r:XR) (x:SC):SS:=match r with
 | .t t=>⟨s.nx,(t,sc x)::remT s.L t,s.os,s.ty,s.gs,s.fs,s.bs,s.pw,s.ats,s.fls,s.ne,s.fz,s.sb⟩
 | .p t i=>(match lkS s.L t with | some (.v ag cs)=>⟨s.nx,(t,.v ag (setC cs i x))::remT s.L t,s.os,s.ty,s.gs,s.fs,s.bs,s.pw,s.ats,s.fls,s.ne,s.fz,s.sb⟩ | _=>s)
 | .c t o=>(match lkS s.L t with | some (.v _ [.rpt b o'])=>(match locAt s.os b with | some (_,cs)=>setO s (setLoc s.os b (setC cs (o'+o) x)) | none=>s) | _=>s)
 | .e _ _ _=>s
def aEl (x i:XR) (off n:Nat) (s:SS):Option Ga:=match rC s x,rC s i with | some (.ref y),some (.int _ e)=>some (.el y e off n) | _,_=>none
inductive Gn where
 | int (r:XR) | nat (r:XR) | bool (r:XR) | str (r:XR) | sl (r:XR) (c:Nat) (g:XG) | lst (r:XR) (c:Nat) | ul (r:XR) (c:Nat) (g:XG) | pw (r:XR) (i:XE) | ge (e:XE) | keep (ts:List Nat) | bl (r:XR) | gho (g:XG) | im (r:XR) (e:XE)
def isLst (x:Nat):SO->Bool | .lst y _=>Nat.beq y x | _=>false
def remO (f:SO->Bool) (l:List SO):List SO:=l.filter fun o=>!f o
def iKind (s:SS) (r:XR):IntKind:=match rC s r with | some (.int k _)=>k | _=>.i64
def oneG (s:SS):Gn->Option SS
 | .int r=>some (setR (bump s) r (.int (iKind s r) (.a (.z s.nx))))
 | .nat r=>some (setR (bump s) r (.int (iKind s r) (.a (.n s.nx))))
 | .bool r=>some (setR (bump s) r (.bool (.v s.nx)))
 | .str r=>some (setR (bump s) r (.str s.nx))
 | .sl r c g=>(rG s g).map fun g=>addTy (setR (bump s) r (.ref s.nx)) (.sl s.nx c g)
 | .lst r c =>
   let os:=match rC s r with | some (.ref y)=>remO (isLst y) s.os | _=>s.os
   some (addTy (setO (setR (bump (setO s os)) r (.ref s.nx)) (.lst s.nx c::(setR (bump (setO s os)) r (.ref s.nx)).os)) (.sl s.nx c 0))
 | .ul r c g=>(rG s g).map fun g =>
   let os:=match rC s r with | some (.ref y)=>remO (isUl y) s.os | _=>s.os
   let s':=setR (bump (setO s os)) r (.ref s.nx)
   setO s' (.ul s.nx c g::s'.os)
 | .pw r i=>(match rC s r,rE s i with | some (.ref y),some e=>some (addPw (bump s) (y,e,.a (.n s.nx))) | some .nils,some _=>some s | _,_=>none)
 | .ge e=>(rE s e).map (addF s)
 | .keep ts=>some ⟨s.nx,dedL (s.L.filter fun p=>ts.contains p.1),s.os,s.ty,s.gs,s.fs,s.bs,s.pw,s.ats,s.fls,s.ne,s.fz,s.sb⟩
 | .bl r=>(match rC s r with
   | some (.ref y)=>(match rmSO (isBl y) s.os with
     | some (.bl _ m el,osA)=>some (eqF (setO (bump s) (.bl y s.nx el::osA)) (.a (.len s.nx)) (.a (.len m)))
     | _=>none)
   | _=>none)
 | .gho g=>(match rG s g with
   | some g=>(match ghostW s.gs g with
     | some d=>some (newD (bump s) g s.nx true s.os [] [] [] (sbOf s.sb d s.nx))
     | none=>none)
   | none=>none)
 | .im r e=>(match rC s r,rE s e with
   | some (.rmp b),some e=>some (setO s (s.os.map fun o=>match o with | .im y e0=>bif Nat.beq y b then .im y e else .im y e0 | o=>o))
   | _,_=>none)
def genS:List Gn->SS->Option SS
 | [],s=>some s
 | g::l,s=>(oneG s g).bind (genS l)
def lpOf (gs:List Gn) (mu:XE) (s:SS):Option (SS × LE):=(genS gs s).bind fun s'=>(rE s' mu).map fun m=>(s',m)
end Go.Rd
namespace Go.Rd
open Go.Rex Go.RowKit Go.Rt
def nC (Φ:Forms) (g:Nat) (k:K2) (s:SS):SC × SS:=match k with
 | .int k=>(.int k (.a (.z s.nx)),bump s)
 | .nat b=>(match ghost s.gs g with
   | some d=>(.int .i64 (.a (.n s.nx)),addF (bump s) (((LE.a (.gn d b)).sub (.a (.n s.nx))).addc (-1)))
   | none=>(.int .i64 (.a (.n s.nx)),bump s))
 | .str=>(.str s.nx,bump s)
 | .strj=>(.str s.nx,bump s)
 | .strb b=>(.str s.nx,addF (bump s) ((LE.k b).sub (.a (.sl s.nx))))
 | .bool=>(.bool (.v s.nx),bump s)
 | .flt k=>(.flt k s.nx,bump s)
 | .sl c=>(.ref s.nx,addTy (bump s) (.sl s.nx c (bif Φ.dep c then g else 0)))
 | .slb c _=>(.ref s.nx,addTy (bump s) (.sl s.nx c (bif Φ.dep c then g else 0)))
 | .slg c _=>(.ref s.nx,addTy (bump s) (.sl s.nx c (bif Φ.dep c then g else 0)))
 | .slk c _=>(.ref s.nx,addTy (bump s) (.sl s.nx c (bif Φ.dep c then g else 0)))
 | .slf c=>(.ref s.nx,addTy (bump s) (.sl s.nx c (bif Φ.dep c then g else 0)))
 | .ptr c=>(.ref s.nx,addTy (bump s) (.pt s.nx c (bif Φ.dep c then g else 0)))
 | .mp c=>(.ref s.nx,addTy (bump s) (.mp s.nx c (bif Φ.dep c then g else 0)))
 | _=>(.nils,s)
def nCs (Φ:Forms) (g:Nat):List K2->SS->List SC × SS
 | [],s=>([],s)
 | k::ks,s=>let p:=nC Φ g k s; let q:=nCs Φ g ks p.2; (p.1::q.1,q.2)
 abbrev Bl:=SS->SS->SV × SS
def bK (Φ:Forms) (g:Nat) (k:K2):Bl:=fun e s=>let p:=nC Φ g k ⟨s.nx,s.L,s.os,s.ty,s.gs++e.gs,s.fs,s.bs,s.pw,s.ats,s.fls,s.ne,s.fz,s.sb⟩; (sc p.1,⟨p.2.nx,s.L,s.os,p.2.ty,s.gs,p.2.fs,s.bs,s.pw,s.ats,s.fls,s.ne,s.fz,s.sb⟩)
def bI:Bl:=fun _ s=>(sc (.int .i64 (.a (.z s.nx))),bump s)
def bB:Bl:=fun _ s=>(sc (.bool (.v s.nx)),bump s)
def bS:Bl:=fun _ s=>(sc (.str s.nx),bump s)
def bSl (c g:Nat):Bl:=fun _ s=>(sc (.ref s.nx),addTy (bump s) (.sl s.nx c g))
def bC (x:SC):Bl:=fun _ s=>(sc x,s)
def bCp (x:XR):Bl:=fun e s=>(sc ((rC e x).getD .nils),s)
def unAg:SV->Bool × List SC | .v a cs=>(a,cs) | _=>(false,[])
def bT (l:List Bl):Bl:=fun e s=>let p:=l.foldl (fun (p:List (Bool × List SC) × SS) b=>let q:=b e p.2; (p.1++[unAg q.1],q.2)) ([],s); (.tup p.1,p.2)
def bA (l:List Bl):Bl:=fun e s=>let p:=l.foldl (fun (p:List SC × SS) b=>let q:=b e p.2; (p.1++(unAg q.1).2,q.2)) ([],s); (.v true p.1,p.2)
def bAg (Φ:Forms) (g:Nat) (ks:List K2):Bl:=bA (ks.map (bK Φ g))
def setB:List Bl->Nat->Bl->List Bl
 | [],_,_=>[]
 | x::l,i,y=>bif Nat.beq i 0 then y::l else x::setB l (i-1) y
def bAgW (Φ:Forms) (g:Nat) (ks:List K2) (ov:List (Nat × Bl)):Bl:=bA (ov.foldl (fun l p=>setB l p.1 p.2) (ks.map (bK Φ g)))
def bLs:List Bl->SS->SS->List SV × SS
 | [],_,s=>([],s)
 | b::l,e,s=>let p:=b e s; let q:=bLs l e p.2; (p.1::q.1,q.2)
def sE0 (n:Nat):SS:=⟨n,[],[],[],[],[],[],[],[],[],[],[],[]⟩
def addFs (s:SS) (l:List LE):SS:=l.foldl addF s
def clrL (s:SS):SS:=⟨s.nx,[],s.os,s.ty,s.gs,s.fs,s.bs,s.pw,s.ats,s.fls,s.ne,s.fz,s.sb⟩
def withL (s:SS) (L:List (Nat × SV)):SS:=⟨s.nx,L,s.os,s.ty,s.gs,s.fs,s.bs,s.pw,s.ats,s.fls,s.ne,s.fz,s.sb⟩
def mkSp0 (f:Nat) (s0:SS) (ar:List Bl) (pre:List XE) (posts:List (Bl × List XE)) (str:Nat) (ms:XE):Sp :=
 let p:=bLs ar s0 s0
 let s:SS:=withL p.2 (argL 0 p.1)
 let s1:=addFs (clrL p.2) (pre.filterMap (rE s))
 ⟨f,s1,p.1,posts.map fun q =>
  let r:=q.1 s (sE0 s1.nx)
  let t:SS:=⟨r.2.nx,(100,r.1)::argL 0 p.1,r.2.os++s.os,r.2.ty++s.ty,r.2.gs++s.gs,r.2.fs,r.2.bs,r.2.pw,r.2.ats,r.2.fls,r.2.ne,r.2.fz,r.2.sb⟩
  (r.1,addFs r.2 (q.2.filterMap (rE t))),str,(rE s ms).getD (.k 0)⟩
def mkSp (f:Nat) (ar:List Bl) (pre:List XE) (posts:List (Bl × List XE)) (str:Nat) (ms:XE):Sp:=mkSp0 f (sE0 0) ar pre posts str ms
def gu0:Gu:=⟨fun _ _ _=>.no,fun _=>[],fun _ _=>none,fun _ _=>none,fun _=>[],fun _=>0,fun _ _=>[]⟩
def upTo (i:XR) (l:XE) (gs:List Gn) (ts:List Nat):SS->Option (SS × LE):=lpOf ([.nat i,.ge (.sub l (.v i))]++gs++[.keep ts]) (.sub l (.v i))
def lpD (t:XR) (lp:SS->Option (SS × LE)) (s:SS):Option (SS × LE):=match rC s t with
 | some (.int _ e)=>bif ent s ((LE.k (-1)).sub e) then some (withL s (dedL s.L),.k 0) else lp s
 | _=>lp s
def aPwE (x i:XR) (s:SS):Option Ga:=match rC s x,rC s i with
 | some (.ref y),some (.int _ e)=>bif ent s (e.sub (.a (.len y))) then some (.pwE y e) else none
 | _,_=>none
def aAbs (_:SS):Option Ga:=some .abs
def room (lo:Int) (t i x:XR) (n:LE) (used:XE) (ts:List Nat):SS->Option (SS × LE):=lpD t (lpOf [.int t,.ge (.add (.v t) (.k lo)),.nat i,.ge (.sub (.len x) (.v i)),.pw x (.v i),.ge (.sub (.wt x) (.pw x (.v i))),.ge (.sub (.raw n) (.add (.add (.v t) used) (.pw x (.v i)))),.keep ts] (.sub (.len x) (.v i)))
end Go.Rd
namespace Go.Rd
open Go.Rex Go.RowKit Go.Rt
def i64:K2:=.int .i64
def LITk (p:Nat):List K2:=[i64,.str,.bool,.sl (p+1),.sl (p+2),i64,i64]
def ksP (p:Nat):Nat->List K2
 | 1=>LITk p
 | 2=>.str::LITk p++[i64,i64]
 | 3=>.str::LITk p++[i64,i64]
 | 4=>[.str,.sl (p+3),i64,i64]
 | 5=>[i64,.str,.str,.str,.sl (p+3),.sl (p+4),.sl (p+5),i64,i64]
 | 6=>[i64,.str,.str,.bool,.sl (p+7),.sl (p+4),.sl (p+5),i64,i64]
 | 7=>[.str,.str,bif Nat.beq p 0 then .strb 2097152 else .str,.bool]++LITk p++[.sl (p+4),i64,i64]
 | 8=>[i64,.bool,.bool,.bool,.str,.str,.sl (p+13),.sl (p+4),.sl (p+9),.sl (p+10),.sl (p+13),.sl (p+11),.sl (p+12),.bool,.sl (p+13),i64,i64]
 | 9=>[.bool,.bool,.str,.str,.sl (p+10),.str,.str,.sl (p+4),i64,i64]
 | 10=>[.bool,.bool,.str,.str,.str,.str]++(.bool::LITk p)++[.sl (p+4),i64,i64]
 | 11=>[.bool,.bool,.str,.str,.sl (p+4),i64,i64]
 | 12=>[i64,.str,i64,i64]
 | 13=>[.str,i64,i64]
 | 14=>[.str]
 | _=>[.bad]
def tyP:Nat->Nat
 | 1=>117 | 2=>204 | 3=>201 | 4=>99 | 5=>206 | 6=>112 | 7=>119 | 8=>83 | 9=>107 | 10=>203 | 11=>105 | 12=>218 | 13=>223 | 14=>9 | _=>0
def unP:Nat->Bool | 1=>false | 2=>false | 5=>false | _=>true
def slB (b:Nat):K2->K2 | .sl c=>.slb c b | k=>k
def slG:K2->K2 | .sl c=>.slg c 0 | k=>k
def setK:List K2->Nat->K2->List K2
 | [],_,_=>[]
 | x::l,i,y=>bif Nat.beq i 0 then y::l else x::setK l (i-1) y
def ksS:Nat->List K2
 | 80=>[.nat 0,i64,i64,.str,.str,.str,.str,.str,.str,.bool,.sl 63,.sl 64,.sl 81,i64,i64]
 | 81=>[i64]
 | 82=>[.sl 81]
 | 83=>[.slg 84 1]
 | 84=>[.nat 0]
 | 85=>[i64,.str,.str,.str,.bool,.bool,i64,i64]
 | 86=>i64::LITk 60++[.str,.str,.bool,.bool]
 | 87=>[i64,i64,.str,.str,.sl 63,i64,i64,.bool]
 | 89=>[.ptn 37,.sl 66,.slk 80 2,.slk 82 3,.sl 85,.sl 86,.sl 87,.mp 88,.slk 83 0]
 | _=>[.bad]
def tyS:Nat->TypeId | 80=>52 | 81=>3 | 82=>48 | 83=>48 | 84=>3 | 85=>97 | 86=>139 | 87=>101 | 89=>134 | _=>0
def ks7 (c:Nat):List K2:=bif Nat.blt c 20 then ksP 0 c else match c with
 | 28=>(ksP 20 8).map (slB 1000)
 | 35=>setK ((ksP 20 8).map slG) 5 .strj
 | 36=>setK (setK ((ksP 20 8).map slG) 5 .strj) 8 (.slf 29)
 | 37=>ksP 20 8++[.slk 36 2,.mp 38,.slk 39 1,.mp 40,.mp 41,.mp 42]
 | 39=>ksP 20 8
 | _=>bif Nat.blt c 60 then ksP 20 (c-20) else bif Nat.blt c 80 then ksP 60 (c-60) else ksS c
def ty7 (c:Nat):TypeId:=bif Nat.blt c 20 then tyP c else match c with
 | 35=>83 | 36=>83 | 37=>126 | 39=>83
 | _=>bif Nat.blt c 60 then tyP (c-20) else bif Nat.blt c 80 then tyP (c-60) else tyS c
def un7 (c:Nat):Bool:=bif Nat.blt c 20 then false else bif Nat.blt c 35 then unP (c-20) else bif Nat.blt c 60 then true else Nat.ble 80 c
def dp7:Nat->Bool | 35=>true | 36=>true | 37=>true | 38=>true | 40=>true | 41=>true | 80=>true | 83=>true | 84=>true | 88=>true | 89=>true | _=>false
def pk7:Nat->KK | 41=>.pair | _=>.str
def mv7:Nat->MV | 38=>.atv 2 | 40=>.kd (.nat 1) | 41=>.fiv | 42=>.kd (.mpn 43) | 43=>.kd i64 | 88=>.kd (.nat 0) | _=>.unit
def vi7:Nat->Bool | 37=>true | _=>false
def Φ7:Forms:=⟨ks7,ty7,un7,dp7,vi7,pk7,mv7,fun c=>Nat.blt c 20⟩
def drF (f:Nat):Nat->List Nat:=fun r=>match f with
 | 8=>(match r with | 15=>[0,1,2,3,4,5,6,7,8,9,10,11,12,13,14,15,16,17] | _=>[])
 | 10=>(match r with | 40=>[0,1,2,3,4,5,6,7,8,9] | 41=>[0,1,2,3,4,5,6,7,8,9,10,11,12,13,14,15,16,17,18,19,20,21,22] | 44=>[0,1,2,3,4,5,6,7,8,9,10,11,12,14] | _=>[])
 | 11=>(match r with | 5=>[0,1,2,3,4,5,6,7,8,9] | 7=>[0,1,2,3,4,5,6] | 18=>[0,1,2,3,4,5,6,7,8,9] | 20=>[0,1,2,3,4,5,6,7,8,9,10,11,12,13,14,17] | _=>[])
 | 39=>(match r with | 4=>[0,1,2,3,4,5,6,7,8,9,10,11,12,13,14] | _=>[])
 | 43=>(match r with | 3=>[1,2] | 4=>[0,3,6,10] | _=>[])
 | 44=>(match r with | 1=>[0,1,2,3,4,5,6,7,8,9] | 3=>[0,1,2,3,4,5,6,7,8,9,10] | 4=>[0,1,2,3,4,5,9,10] | _=>[])
 | 45=>(match r with | 1=>[0,1,2,3,4,5,6,7,8,9] | 3=>[0,1,2,3,4,5,6,7,8,9,10] | 4=>[0,1,2,3,4,5,9,10] | _=>[])
 | 48=>(match r with | 6=>[0,1,2,3,4,5,6,7,8,9,10,11,12] | 8=>[0,1,2,3,4,5,6,7,8,9] | _=>[])
 | 50=>(match r with | 6=>[0,1,2,3,4,5,6,7,8,9,10,13,14] | 20=>[0,1,2,3,4,5,6] | 21=>[0,1,2,3,4,5,6,7,8,9,13,14] | _=>[])
 | 87=>(match r with | 2=>[1,2] | 3=>[0,1,3,5] | _=>[])
 | 91=>(match r with | 1=>[0,1,2,3] | 6=>[0,1,2,6] | _=>[])
 | 103=>(match r with | 1=>[0,1,2,3,4,5,6,7,8,10,11] | _=>[])
 | 104=>(match r with | 3=>[0,1,2,3,4,5,7,8,9] | 4=>[0,1,2,3,4,5,6,7,8,9,10,13,14] | _=>[])
 | 106=>(match r with | 21=>[0,1,2,3,4,5,6,7,8,9,10] | 26=>[0,1,2,3,4,5,7,8,9,10] | 15=>[0,1,2,3,4,5,6,8,9,10,12] | 17=>[0,1,2,3,4,5,7] | 27=>[0,1,2,3,4,5,8,9] | _=>[])
 | 150=>(match r with | 9=>[0,1,2,3,4,5,7,8,9,12] | _=>[])
 | 156=>(match r with | 6=>[0,1,2,3,4,5,6,7,8,9,10,11,14,15] | _=>[])
 | 157=>(match r with | 17=>[0,1,2,3,4,5,6,7,8,9,10,11,12,13,14,15] | _=>[])
 | 217=>(match r with | 6=>[0,1,2,6] | 11=>[0,1,2,3,4,5,7,8,9,12] | _=>[])
 | 219=>(match r with | 2=>[0,1,2,3,4,5,6,7,8,9,10,11,12,13,16,17] | 8=>[0,1,2,3,4,5,7,8,9] | _=>[])
 | 450=>(match r with | 1=>[0,1,2,3,4,5,6,7,8,9] | _=>[])
 | _=>[]
def guD (f:Nat):Gu:={ gu0 with dr:=drF f }
def poR (lo:Int) (n:LE) (used:XE):List (Bl × List XE):=[(bI,[.add (.v (.t 100)) (.k lo),.sub (.k (-1)) (.v (.t 100))]),(bI,[.add (.v (.t 100)) (.k lo),.sub (.raw n) (.add (.v (.t 100)) used)])]
def inR (lo:Int) (n:LE):List XE:=[.add (.raw n) (.k lo),.sub (.k 1099511627776) (.raw n)]
def zA (k:Nat):LE:=.a (.z k)
def sp40:Sp:=mkSp 40 [bAg Φ7 0 (ksP 0 1),bI] (inR 4194304 (zA 7)) (poR 4194305 (zA 7) (.add (.k 1) (.add (.wt (.p 0 3)) (.wt (.p 0 4))))) 0 (.add (.wt (.p 0 3)) (.wt (.p 0 4)))
def gu40:Gu:={ gu0 with
 un:=fun _=>1
 ac:=fun id=>match id with | 6=>[aPwE (.c 2 3) (.t 5)] | 9=>[aEl (.c 2 4) (.t 6) 0 10] | 10=>[aPwE (.c 2 4) (.t 6)] | _=>[]
 lp:=fun id s=>match id with
 | 0=>room 4194305 (.t 1) (.t 5) (.c 2 3) (zA 7) (.k 1) [0,1,2,4,5] s
 | 2=>room 4194305 (.t 1) (.t 6) (.c 2 4) (zA 7) (.add (.k 1) (.wt (.c 2 3))) [0,1,2,4,6] s
 | _=>none }
def sp38:Sp:=mkSp 38 [bSl 4 0,bI] (inR 8388608 (zA 1)) (poR 8388608 (zA 1) (.wt (.t 0))) 1 (.k 0)
def gu38:Gu:={ gu0 with
 un:=fun _=>1
 ac:=fun id=>match id with | 5=>[aEl (.t 0) (.t 5) 0 4] | 8=>[aEl (.e (.t 0) (.t 5) 1) (.t 6) 0 10] | 3=>[aPwE (.e (.t 0) (.t 5) 1) (.t 6)] | 9=>[aPwE (.t 0) (.t 5)] | _=>[]
 lp:=fun id s=>match id with
 | 0=>room 8388608 (.t 1) (.t 5) (.t 0) (zA 1) (.k 0) [0,1,4,5] s
 | 2=>room 8388608 (.t 1) (.t 6) (.e (.t 0) (.t 5) 1) (zA 1) (.add (.k 1) (.pw (.t 0) (.v (.t 5)))) [0,1,4,5,6] s
 | _=>none }
def sp40w:Sp:=mkSp 40 [bAg Φ7 0 (ksP 0 1),bI] [] [(bI,[])] 0 (.add (.wt (.p 0 3)) (.wt (.p 0 4)))
def gu40w:Gu:={ gu0 with lp:=fun id s=>match id with
 | 0=>upTo (.t 5) (.len (.c 2 3)) [.int (.t 1)] [0,1,2,4,5] s
 | 2=>upTo (.t 6) (.len (.c 2 4)) [.int (.t 1)] [0,1,2,4,6] s
 | _=>none }
def sp38w:Sp:=mkSp 38 [bSl 4 0,bI] [] [(bI,[])] 1 (.k 0)
def gu38w:Gu:={ gu0 with
 ac:=fun id=>match id with | 5=>[aEl (.t 0) (.t 5) 1 1] | _=>[]
 lp:=fun id s=>match id with
 | 0=>upTo (.t 5) (.len (.t 0)) [.int (.t 1)] [0,1,4,5] s
 | 2=>upTo (.t 6) (.len (.e (.t 0) (.t 5) 1)) [.int (.t 1)] [0,1,4,5,6] s
 | _=>none }
def sp39:Sp:=mkSp 39 [bSl 10 0,bI] [] [(bI,[])] 2 (.k 0)
def gu39:Gu:={ guD 39 with
 ac:=fun id=>match id with | 4=>[aEl (.t 0) (.t 5) 0 17] | _=>[]
 lp:=fun id s=>match id with
 | 0=>upTo (.t 5) (.len (.t 0)) [.int (.t 1)] [0,1,4,5] s
 | _=>none }
def sp41:Sp:=mkSp 41 [bSl 5 0,bI] (inR 8388608 (zA 1)) (poR 8388608 (zA 1) (.wt (.t 0))) 2 (.wt (.t 0))
def gu41:Gu:={ gu0 with
 un:=fun _=>1
 ac:=fun id=>match id with | 5=>[aEl (.t 0) (.t 5) 0 9] | 8=>[aEl (.e (.t 0) (.t 5) 4) (.t 6) 0 10] | 9=>[aPwE (.e (.t 0) (.t 5) 4) (.t 6)] | 11=>[aPwE (.t 0) (.t 5)] | _=>[]
 lp:=fun id s=>match id with
 | 0=>room 8388608 (.t 1) (.t 5) (.t 0) (zA 1) (.k 0) [0,1,4,5] s
 | 2=>room 8388608 (.t 1) (.t 6) (.e (.t 0) (.t 5) 4) (zA 1) (.add (.k 1) (.pw (.t 0) (.v (.t 5)))) [0,1,4,5,6] s
 | _=>none }
def sp8:Sp:=mkSp 8 [bSl 8 0,bI] [] [(bI,[])] 3 (.k 0)
def gu8:Gu:={ guD 8 with
 lp:=fun id s=>match id with
 | 0=>upTo (.t 5) (.len (.t 0)) [.int (.t 1)] [0,1,4,5] s
 | 2=>upTo (.t 7) (.len (.c 6 11)) [.int (.t 1)] [0,1,4,5,6,7] s
 | 4=>upTo (.t 8) (.len (.c 6 8)) [.int (.t 1)] [0,1,4,5,6,8] s
 | _=>none }
def sp9:Sp:=mkSp 9 [bAg Φ7 0 [.sl 6],bI] (inR 8388608 (zA 1)) (poR 8388608 (zA 1) (.wt (.p 0 0))) 3 (.k 0)
def gu9:Gu:={ gu0 with
 un:=fun _=>1
 ac:=fun id=>match id with | 5=>[aEl (.c 2 0) (.t 5) 0 9] | 8=>[aEl (.e (.c 2 0) (.t 5) 4) (.t 6) 0 14] | 4=>[aAbs] | 11=>[aPwE (.e (.c 2 0) (.t 5) 4) (.t 6)] | 13=>[aPwE (.c 2 0) (.t 5)] | _=>[]
 lp:=fun id s=>match id with
 | 0=>room 8388608 (.t 1) (.t 5) (.c 2 0) (zA 1) (.k 0) [0,1,2,4,5] s
 | 2=>room 8388608 (.t 1) (.t 6) (.e (.c 2 0) (.t 5) 4) (zA 1) (.add (.k 1) (.pw (.c 2 0) (.v (.t 5)))) [0,1,2,4,5,6] s
 | _=>none }
end Go.Rd
namespace Go.Rd
open Go.Rex Go.RowKit Go.Rt
def wu (l:List XE):XE:=.sub (.k WU) (l.foldr .add (.k 0))
def leL (a b:XR):XE:=.sub (.len b) (.len a)
def leW (a b:XR):XE:=.sub (.wt b) (.wt a)
def sp217 (p:Nat):Sp:=mkSp 217 [bAg Φ7 0 (ksP p 1)] [wu [.wt (.p 0 3),.wt (.p 0 4)]] [(bAg Φ7 0 (ksP 20 1),[leW (.p 100 3) (.p 0 3),leW (.p 100 4) (.p 0 4)])] 0 (.add (.wt (.p 0 3)) (.wt (.p 0 4)))
def cpyW (i x dst:XR) (c:Nat) (ts:List Nat):SS->Option (SS × LE):=upTo i (.len x) [.pw x (.v i),.ge (.sub (.wt x) (.pw x (.v i))),.lst dst c,.ge (.sub (.pw x (.v i)) (.wt dst))] ts
def cpyU (i x dst:XR) (c g:Nat) (ts:List Nat):SS->Option (SS × LE):=upTo i (.len x) [.sl dst c (bif Nat.beq g 0 then .z else .n 0),.ge (.sub (.v i) (.len dst))] ts
def gu217:Gu:={ guD 217 with lp:=fun id s=>match id with
 | 0=>cpyW (.t 14) (.t 12) (.c 3 3) 21 [1,2,3,12,13,14] s
 | 2=>cpyW (.t 29) (.t 27) (.c 3 4) 22 [1,2,3,27,28,29] s
 | _=>none }
def wIn (p:Nat) (x:XR):List XE:=bif Nat.beq p 0 then [wu [.wt x]] else []
def sp150 (p:Nat):Sp:=mkSp 150 [bSl (p+4) 0] (wIn p (.t 0)) [(bSl 24 0,[leL (.t 100) (.t 0)])] 1 (.k 0)
def gu150:Gu:={ guD 150 with
 an:=fun id s i=>match id,i with | 9,11=>.ty 23 0 | 11,3=>.ty 24 0 | _,_=>.no
 lp:=fun id s=>match id with
 | 0=>cpyU (.t 11) (.t 9) (.t 3) 24 0 [0,2,3,9,10,11] s
 | 2=>cpyU (.t 23) (.t 21) (.c 6 1) 23 0 [0,2,3,9,10,11,5,6,21,22,23] s
 | _=>none }
def sp151 (p:Nat):Sp:=mkSp 151 [bSl (p+10) 0] (wIn p (.t 0)) [(bSl 30 0,[leL (.t 100) (.t 0)])] 2 (.k 0)
def gu151:Gu:={ guD 151 with
 an:=fun id s i=>match id,i with | 7,3=>.ty 30 0 | _,_=>.no
 lp:=fun id s=>cpyU (.t 8) (.t 6) (.t 3) 30 0 [0,2,3,6,7,8] s }
def sp149 (p:Nat):Sp:=mkSp 149 [bAg Φ7 0 (ksP p 9)] (bif Nat.beq p 0 then [wu [.wt (.p 0 4),.wt (.p 0 7)]] else []) [(bAgW Φ7 0 (ksP 20 9) [(3,bCp (.p 0 3))],[leL (.p 100 4) (.p 0 4),leL (.p 100 7) (.p 0 7)])] 3 (.k 0)
def tls:List Nat:=[6,7,8,9,10,11,12,14]
def sp91 (p:Nat):Sp:=mkSp 91 [bAg Φ7 0 (ksP p 8)] (bif Nat.beq p 0 then [wu (tls.map fun i=>.wt (.p 0 i))] else []) [(bAgW Φ7 0 (ksP 20 8) [(0,bCp (.p 0 0)),(5,bCp (.p 0 5))],tls.map fun i=>leL (.p 100 i) (.p 0 i))] 4 (.k 0)
def gu91:Gu:={ guD 91 with
 an:=fun id s i=>match id,i with | 6,5=>.ty 29 0 | 12,4=>.ty 31 0 | 14,2=>.ty 33 0 | 15,2=>.ty 33 0 | 16,2=>.ty 33 0 | 17,2=>.ty 32 0 | _,_=>.no
 lp:=fun id s=>match id with
 | 0=>cpyU (.t 17) (.t 15) (.c 1 8) 29 0 [1,2,3,4,15,16,17] s
 | 2=>cpyU (.t 31) (.t 29) (.c 1 11) 31 0 [1,2,3,4,29,30,31] s
 | _=>none }
def few (n:Int) (x:XR):XE:=.sub (.k n) (.len x)
def sp85:Sp:=mkSp 85 [bS,bSl 29 0] [few 1000 (.t 1)] [(bAg Φ7 0 (ksP 20 8),tls.map fun i=>few 1000 (.p 100 i))] 1 (.k 0)
def sp86:Sp:=mkSp 86 [bS,bS,bS] [] [(bAg Φ7 0 (ksP 20 9),[])] 1 (.k 0)
def sp87:Sp:=mkSp 87 [bS,bS] [] [(bAg Φ7 0 (ksP 20 9),[])] 1 (.k 0)
def gu87:Gu:={ guD 87 with an:=fun id s i=>match id,i with | 3,2=>.ty 30 0 | _,_=>.no }
def sp88:Sp:=mkSp 88 [bS,bSl 34 0] [few 100 (.t 1)] [(bAg Φ7 0 (ksP 20 8),tls.map fun i=>few 1000 (.p 100 i))] 1 (.k 0)
def gu88:Gu:={ guD 88 with
 an:=fun id s i=>match id,i with | 5,5=>.ty 31 0 | _,_=>.no
 lp:=fun id s=>cpyU (.t 12) (.t 10) (.c 5 11) 31 0 [0,4,5,10,11,12] s }
def sp89:Sp:=mkSp 89 [bS,bS] [] [(bA [bCp (.t 0),bCp (.t 1)],[])] 0 (.k 0)
def sp90:Sp:=mkSp 90 [bS,bAg Φ7 0 (ksP 20 10),bSl 34 0] [few 100 (.t 2),wu [.wt (.p 1 10),.wt (.p 1 11)]] [(bAg Φ7 0 (ksP 20 8),tls.map fun i=>few 1000 (.p 100 i))] 1 (.k 0)
def gu90:Gu:={ guD 90 with
 an:=fun id s i=>match id,i with | 1,2=>.ty 30 0 | 5,5=>.ty 33 0 | _,_=>.no
 lp:=fun id s=>cpyU (.t 16) (.t 14) (.c 7 14) 33 0 [0,2,4,6,7,14,15,16] s }
def sp42:Sp:=mkSp 42 [] [] [(bSl 28 0,[few 100 (.t 100)])] 2 (.k 0)
def gu42:Gu:={ guD 42 with
 an:=fun id s i=>match id,i with | 2,0=>.ty 34 0 | 5,4=>.ty 28 0 | 7,7=>.ty 29 0 | 7,19=>.ty 29 0 | 7,29=>.ty 29 0 | 7,35=>.ty 29 0 | 7,41=>.ty 29 0 | 7,48=>.ty 29 0 | 7,21=>.ty 34 0 | 7,50=>.ty 34 0 | _,_=>.no
 lp:=fun id s=>cpyU (.t 6) (.t 4) (.t 1) 28 0 [0,1,4,5,6] s }
def sp43:Sp:=mkSp 43 [] [] [(bSl 28 0,[few 100 (.t 100)])] 2 (.k 0)
def gu43:Gu:={ guD 43 with an:=fun id s i=>match id,i with | 4,1=>.ty 34 0 | 4,4=>.ty 34 0 | 4,7=>.ty 34 0 | 4,11=>.ty 34 0 | 4,13=>.ty 28 0 | _,_=>.no }
end Go.Rd
namespace Go.Rd
open Go.Rex Go.RowKit Go.Rt
def obj:SS :=
 let p:=nCs Φ7 0 (ksP 20 8) ⟨9,[],[],[],[(1,1,true)],[],[],[],[],[],[],[],[]⟩
 ⟨p.2.nx,[],[.loc 2 126 (p.1++[.ref 3,.rmp 4,.ref 5,.rmp 6,.rmp 7,.rmp 8]),.ul 3 35 1,.am 4 1 2,.im 6 (.a (.len 5)),.em 7 .pair,.em 8 .str],.sl 5 39 0::p.2.ty,[(1,1,true)],[],[],[],[],[],[],[],[(1,0)]⟩
def eqs (a b:LE):List LE:=[a.sub b,b.sub a]
def gnA (d k:Nat):LE:=.a (.gn d k)
def objW (os:List SO) (ty:Option Nat) (dr:Option Nat):List SO:=os.map fun o=>match o with
 | .loc b e cs=>.loc b e (match ty,dr with | some x,some y=>setC (setC cs 17 (.ref x)) 19 (.ref y) | some x,none=>setC cs 17 (.ref x) | none,some y=>setC cs 19 (.ref y) | none,none=>cs)
 | .ul x c g=>.ul (ty.getD x) c g
 | .im b e=>(match dr with | some y=>.im b (.a (.len y)) | none=>.im b e)
 | o=>o
def sOf (n:Nat) (os:List SO) (ty:List STF) (gs:List (Nat × Nat × Bool)) (fs:List LE):SS:=⟨n,[],os,ty,gs,fs,[],[],[],[],[],[],[]⟩
def sSb (d:Nat) (s:SS):SS:=⟨s.nx,s.L,s.os,s.ty,s.gs,s.fs,s.bs,s.pw,s.ats,s.fls,s.ne,s.fz,[(d,0)]⟩
def gnE (k:Nat):XE:=.gn (.n 0) k
def eqX (a b:XE):List XE:=[.sub a b,.sub b a]
def many:Int:=1073741824
def objI:List XE:=eqX (gnE 2) (.len (.c 0 17))++[few many (.c 0 17),few many (.c 0 19)]
def gnLe (l:List XR):List XE:=l.map fun x=>.sub (gnE 0) (.len x)
def aBump (g:XG) (k:Nat) (e:XE) (s:SS):Option Ga:=match rG s g,rE s e with | some g,some e=>some (.bump g k e) | _,_=>none
def rawW (p:Nat) (l:List XR):List XE:=bif Nat.beq p 0 then [wu (l.map .wt)] else []
def lsOf (t:Nat):List XR:=tls.map (XR.p t)
def poT:Bl:=fun e s=>let x:=s.nx; let d:=s.nx+1; (.tup [],sSb d<|sOf (s.nx+2) (objW e.os (some x) none) [] [(1,d,true)] (eqs (gnA d 0) (gnA 1 0)++eqs (gnA d 1) (gnA 1 1)++eqs (gnA d 2) (.a (.len x))++[((LE.a (.len 3)).sub (.a (.len x))).addc 1]))
def sp45 (p:Nat):Sp:=mkSp0 45 obj [bC (.rpt 2 0),bAg Φ7 0 (ksP p 8)] (objI++gnLe (lsOf 1)++rawW p (lsOf 1)) [(poT,[])] 5 (.k 0)
def gu45:Gu:={ guD 45 with ac:=fun id=>match id with | 3=>[aBump (.n 0) 2 (.add (.len (.c 0 17)) (.k 1))] | _=>[] }
def poD:Bl:=fun e s=>let x:=s.nx; (.tup [],sOf (s.nx+1) (objW e.os none (some x)) [.sl x 39 0] [(1,1,true)] [((LE.a (.len 5)).sub (.a (.len x))).addc 1])
def sp44 (p:Nat):Sp:=mkSp0 44 obj [bC (.rpt 2 0),bAg Φ7 0 (ksP p 8)] (objI++rawW p (lsOf 1)) [(poD,[])] 5 (.k 0)
def poS:Bl:=fun e s=>let p:=bAg Φ7 0 (ksP 20 8) e s; (p.1,sOf p.2.nx e.os p.2.ty [(1,1,true)] [])
def sp47:Sp:=mkSp0 47 obj [bC (.rpt 2 0),bSl 8 0] (objI++[wu [.wt (.t 1)]]) [(poS,[])] 5 (.k 0)
def gu47:Gu:={ guD 47 with
 an:=fun id s i=>match id,i with | 4,0=>.ty 34 0 | _,_=>.no
 lp:=fun id s=>match id with
 | 0=>cpyU (.t 22) (.t 20) (.c 6 12) 32 0 [0,1,4,6,20,21,22] s
 | 2=>upTo (.t 66) (.len (.t 64)) [.pw (.t 64) (.v (.t 66)),.ge (.sub (.wt (.t 64)) (.pw (.t 64) (.v (.t 66)))),.sl (.c 11 7) 24 .z,.sl (.c 11 12) 32 .z,.ge (.sub (.add (.k WU) (.pw (.t 64) (.v (.t 66)))) (.len (.c 11 7))),.ge (.sub (.add (.k WU) (.pw (.t 64) (.v (.t 66)))) (.len (.c 11 12)))] [0,1,4,5,11,64,65,66] s
 | _=>none }
def sp93:Sp:=mkSp 93 [bAg Φ7 0 (ksP 0 8)] [] [(bB,[])] 0 (.k 0)
def sp92:Sp:=mkSp 92 [bSl 8 0,bC (.fn 93)] [] [(bI,[.add (.v (.t 100)) (.k 1),.sub (.len (.t 0)) (.add (.v (.t 100)) (.k 1))])] 1 (.k 0)
def gu92:Gu:={ guD 92 with lp:=fun id s=>upTo (.t 8) (.len (.t 6)) [] [0,1,4,6,7,8] s }
def sp46:Sp :=
 let sp:=mkSp0 46 ⟨4,[],[.am 3 1 2],[],[(1,1,true)],[((LE.a (.gn 1 2)).sub (.a (.n 2))).addc (-1)],[],[],[],[],[],[],[(1,0)]⟩ [bAg Φ7 0 (ksP 20 8),bAg Φ7 0 (ksP 0 8)] (wu (tls.map fun i=>.wt (.p 1 i))::.sub (.k many) (gnE 0)::gnLe (lsOf 0))
  [(fun e s=>let p:=bAgW Φ7 0 (ksP 20 8) [(5,bCp (.p 0 5))] e s; let d:=p.2.nx; (p.1,⟨d+1,[],[],p.2.ty,[(1,d,true)],eqs (gnA d 1) (gnA 1 1)++eqs (gnA d 2) (gnA 1 2),[],[],(match rC e (.p 0 5) with | some x=>[(d,x,.a (.n 2))] | none=>[]),[],[],[],[]⟩),[])] 5 (.k 0)
 let L:=argL 0 sp.ar
 let nm:=(rC (withL sp.pre L) (.p 0 5)).getD .nils
 let sm (t:Nat):LE:=(tls.filterMap fun i=>rE (withL sp.pre L) (.wt (.p t i))).foldl LE.add (.k 0)
 ⟨46,⟨sp.pre.nx,[],sp.pre.os,sp.pre.ty,sp.pre.gs,sp.pre.fs,[],[],[(1,nm,.a (.n 2))],[],[],[],[(1,0)]⟩,sp.ar,sp.posts.map fun q =>
  let d:=q.2.nx-1
  let ls:=tls.filterMap fun i=>match q.1 with | .v _ cs=>(match cs[i]? with | some (.ref y)=>some ((gnA d 0).sub (.a (.len y))) | _=>none) | _=>none
  (q.1,⟨q.2.nx,[],[.am 3 1 2],q.2.ty,q.2.gs,eqs (gnA d 0) ((gnA 1 0).add (sm 1))++ls++q.2.fs,[],[],q.2.ats,[],[],[],[(d,0)]⟩),5,.k 0⟩
def gu46:Gu:={ guD 46 with ac:=fun id=>match id with | 9=>[aBump (.n 0) 0 (.add (gnE 0) ((lsOf 1).foldl (fun e x=>.add e (.wt x)) (.k 0)))] | _=>[] }
def typ:SS:=⟨3,[],[],[.pt 2 37 1],[(1,1,false)],[],[],[],[],[],[],[1],[]⟩
def typ':SS:=⟨3,[],[],[.pt 2 37 1],[(1,1,false)],[],[],[],[],[],[],[],[]⟩
def poN:Bl:=fun e s=>(.tup [],sOf s.nx [] [] [] [])
def sp94:Sp:=mkSp0 94 typ [bC (.ref 2),bS,bS,bI] [] [(poN,[])] 0 (.k 0)
def gu94:Gu:={ guD 94 with an:=fun id s i=>match id,i with | 2,0=>.ty 43 0 | _,_=>.no }
def sp95:Sp:=mkSp0 95 typ' [bC (.ref 2),bS] [] [(bI,[])] 0 (.k 0)
def sp48:Sp:=mkSp0 48 typ [bC (.ref 2)] [] [(poN,[])] 1 (.k 0)
def gu48:Gu:={ guD 48 with lp:=fun id s=>match id with
 | 0=>upTo (.t 17) (.len (.t 15)) [] [0,15,16,17] s
 | 2=>upTo (.t 25) (.len (.t 23)) [] [0,15,16,17,2,3,23,24,25] s
 | 5=>upTo (.t 70) (.len (.t 68)) [] [0,15,16,17,2,3,68,69,70] s
 | 7=>upTo (.t 92) (.len (.t 90)) [] [0,15,16,17,2,3,90,91,92] s
 | _=>none }
def poB:Bl:=fun e s=>(sc (.ref (s.nx+2)),⟨s.nx+3,[],[],[.pt (s.nx+2) 37 (s.nx+1)],[(s.nx+1,s.nx+1,false)],[],[],[],[],[],[],[s.nx+1],[]⟩)
def sp10:Sp:=mkSp 10 [bSl 8 0] [wu [.wt (.t 0)]] [(poB,[])] 6 (.k 0)
def aNewA (ns:List (Nat × XE)) (b:XR) (k:Nat) (s:SS):Option Ga:=match rC s b with | some (.rmp b)=>some (.newA (ns.filterMap fun p=>(rE s p.2).map fun e=>(p.1,e)) 0 b k) | _=>none
def aFrzU (g:XG) (x:XR) (cc:Nat) (s:SS):Option Ga:=match rG s g,rC s x with | some g,some (.ref y)=>some (.frzU g y cc) | _,_=>none
def aPubM (g:XG) (x:XR) (cc:Nat) (s:SS):Option Ga:=match rG s g,rC s x with | some g,some (.rmp b)=>some (.pubM b cc g) | _,_=>none
def aPubL (g:XG) (x:XR) (cc:Nat) (s:SS):Option Ga:=match rG s g,rC s x with | some g,some (.rpt b _)=>some (.pubL b cc g) | _,_=>none
def gel (l:List XE):List Gn:=l.map Gn.ge
def gu10:Gu:={ guD 10 with
 an:=fun id s i=>match id,i with | 1,0=>.em .str | 1,1=>.im | 1,2=>.em .pair | 1,3=>.em .str | 3,0=>.im | 4,0=>.im | _,_=>.no
 ac:=fun id=>match id with
  | 2=>[aNewA [(0,.k WU),(1,.k 0),(2,.k 0)] (.c 3 18) 2]
  | 47=>[aBump (.n 0) 1 (.len (.c 3 19)),aFrzU (.n 0) (.c 3 17) 36,aPubM .z (.c 3 22) 42,aPubM (.n 0) (.c 3 21) 41,aPubM (.n 0) (.c 3 20) 40,aPubM (.n 0) (.c 3 18) 38,aPubL (.n 0) (.t 3) 37]
  | _=>[]
 lp:=fun id s=>match id with
 | 0=>upTo (.t 40) (.len (.t 38)) [.im (.t 6) (.v (.t 40))] [0,3,4,5,6,7,38,39,40] s
 | 2=>upTo (.t 52) (.len (.t 50)) [.im (.t 7) (.v (.t 52))] [0,3,4,5,6,7,50,51,52] s
 | 4=>upTo (.t 64) (.len (.t 62)) ([.gho (.n 0),.ul (.c 3 17) 35 (.n 0),.sl (.c 3 19) 39 .z,.im (.c 3 20) (.len (.c 3 19))]++gel (eqX (gnE 0) (.k WU)++eqX (gnE 1) (.k 0)++eqX (gnE 2) (.len (.c 3 17))++[.sub (.v (.t 64)) (.len (.c 3 17)),.sub (.v (.t 64)) (.len (.c 3 19))])) [0,3,4,5,6,7,62,63,64] s
 | 7=>upTo (.t 113) (.len (.t 111)) ([.gho (.n 0),.ul (.c 3 17) 35 (.n 0)]++gel (eqX (gnE 0) (.k WU)++eqX (gnE 1) (.k 0)++eqX (gnE 2) (.len (.c 3 17))++[.sub (.add (.k WU) (.v (.t 113))) (.len (.c 3 17))])) [0,3,4,5,6,7,111,112,113] s
 | 9=>upTo (.t 123) (.len (.t 121)) ([.sl (.c 3 19) 39 .z,.im (.c 3 20) (.len (.c 3 19))]++[.ge (.sub (.add (.k WU) (.v (.t 123))) (.len (.c 3 19)))]) [0,3,4,5,6,7,121,122,123] s
 | 11=>upTo (.t 133) (.len (.t 131)) ([.pw (.t 131) (.v (.t 133)),.ge (.sub (.wt (.t 131)) (.pw (.t 131) (.v (.t 133)))),.gho (.n 0)]++gel (.sub (.add (.k WU) (.pw (.t 131) (.v (.t 133)))) (gnE 0)::eqX (gnE 1) (.k 0)++eqX (gnE 2) (.len (.c 3 17)))) [0,3,4,5,6,7,131,132,133] s
 | _=>none }
def sp122n:Sp:=mkSp 122 [bC .nilp] [] [(poB,[])] 7 (.k 0)
def sp122:Sp:=mkSp0 122 typ' [bC (.ref 2)] [] [(fun e s=>(sc (.ref 2),sOf s.nx [] [] [] []),[])] 7 (.k 0)
end Go.Rd
namespace Go.Rd
open Go.Rex Go.RowKit Go.Rt
def tArg (tp:Bool):SS × Bl:=bif tp then (typ',bC (.ref 2)) else (sE0 0,bC .nilp)
def spT (f:Nat) (tp:Bool) (ar:List Bl) (post:Bl) (str:Nat):Sp:=mkSp0 f (tArg tp).1 ((tArg tp).2::ar) [] [(post,[])] str (.k 0)
def sp61 (tp:Bool):Sp:=spT 61 tp [bI] bS 8
def gu61:Gu:={ guD 61 with lp:=fun id s=>upTo (.t 14) (.len (.t 12)) [] [0,1,4,12,13,14] s }
def sp65 (tp:Bool):Sp:=spT 65 tp [bS] (bT [bAg Φ7 0 (ksP 20 8),bB]) 8
def sp155 (tp:Bool):Sp:=spT 155 tp [bS] (bT [bAg Φ7 0 (ksP 20 8),bB]) 8
def sp154 (tp:Bool):Sp:=spT 154 tp [bS] bB 8
def sp157 (tp:Bool):Sp:=spT 157 tp [bS,bS] (bT [bAg Φ7 0 (ksP 20 9),bB]) 9
def gu157:Gu:={ guD 157 with an:=fun id s i=>match id,i with | 11,3=>.ty 30 0 | _,_=>.no }
def bSS:Bl:=bA [bS,bS]
def bU8:Bl:=fun _ s=>(sc (.int .u8 (.a (.z s.nx))),bump s)
def tt:SC:=.bool (.k true)
def ff:SC:=.bool (.k false)
def sp449:Sp:=mkSp 449 [bSS] [] [(bC (.int .u8 (.k 0)),[]),(bU8,[.sub (.sln (.p 0 1)) (.k 1)])] 0 (.k 0)
def sp450:Sp:=mkSp 450 [bSS] [.sub (.sln (.p 0 1)) (.k 1)] [(bSS,[.sub (.sub (.sln (.p 0 1)) (.k 1)) (.sln (.p 100 1))])] 0 (.k 0)
def sln1 (s:SS):SV->Option LE
 | .tup ((_,[_,.str y])::_)=>some (.a (.sl y))
 | .tup ((_,[_,.strc l _])::_)=>some (.k l)
 | _=>none
def poRef (d:Int) (b:Bl):Bl:=fun e s=>let p:=bT [bSS,b] e s; (p.1,match sln1 p.2 p.1,rE e (.sln (.p 0 1)) with | some x,some y=>addF p.2 ((y.sub x).addc (-d)) | _,_=>p.2)
def sp345:Sp:=mkSp 345 [bSS] [] [(poRef 0 bB,[])] 1 (.k 0)
def sp346:Sp:=mkSp 346 [bSS] [] [(poRef 1 (bC tt),[]),(poRef 0 (bC ff),[])] 1 (.k 0)
def spE (f c fn p str:Nat) (ms:XE):Sp:=mkSp f [bSl (p+c) 0,bC (.fn fn)] [] [(bSl (60+c) 0,[leW (.t 100) (.t 0),leL (.t 100) (.t 0)])] str ms
def guE (f c:Nat):Gu:={ guD f with lp:=fun id s=>upTo (.t 10) (.len (.t 8)) [.pw (.t 8) (.v (.t 10)),.ge (.sub (.wt (.t 8)) (.pw (.t 8) (.v (.t 10)))),.lst (.t 5) (60+c),.ge (.sub (.pw (.t 8) (.v (.t 10))) (.wt (.t 5))),.ge (.sub (.v (.t 10)) (.len (.t 5)))] [0,1,4,5,8,9,10] s }
def leWs (l:List Nat):List XE:=l.map fun i=>leW (.p 100 i) (.p 0 i)
def sp53 (p:Nat):Sp:=mkSp 53 [bAg Φ7 0 (ksP p 1)] [] [(bAg Φ7 0 (ksP 60 1),leWs [3,4])] 0 (.add (.k 1) (.mul 3 (.add (.wt (.p 0 3)) (.wt (.p 0 4)))))
def sp109 (p:Nat):Sp:=mkSp 109 [bAg Φ7 0 (ksP p 2)] [] [(bAg Φ7 0 (ksP 60 2),leWs [4,5])] 0 (.add (.k 2) (.mul 3 (.add (.wt (.p 0 4)) (.wt (.p 0 5)))))
def sp107 (p:Nat):Sp:=spE 107 1 53 p 0 (.mul 3 (.wt (.t 0)))
def sp108 (p:Nat):Sp:=spE 108 2 109 p 0 (.mul 3 (.wt (.t 0)))
def sp111 (p:Nat):Sp:=mkSp 111 [bAg Φ7 0 (ksP p 3)] [] [(bAg Φ7 0 (ksP 60 3),leWs [4,5])] 1 (.k 0)
def sp110 (p:Nat):Sp:=spE 110 3 111 p 2 (.k 0)
def spL (f c p str:Nat):Sp:=mkSp f [bSl (p+c) 0] [] [(bSl (60+c) 0,[leW (.t 100) (.t 0),leL (.t 100) (.t 0)])] str (.k 0)
def sp54 (p:Nat):Sp:=spL 54 3 p 3
def sp153 (p:Nat):Sp:=mkSp 153 [bAg Φ7 0 (ksP p 4)] [] [(bAg Φ7 0 (ksP 60 4),leWs [1])] 4 (.k 0)
def sp152 (p:Nat):Sp:=spE 152 4 153 p 5 (.k 0)
def sp100 (p:Nat):Sp:=spL 100 4 p 6
def sp102 (p:Nat):Sp:=mkSp 102 [bAg Φ7 0 (ksP p 5)] [] [(bAg Φ7 0 (ksP 60 5),leWs [4,5,6])] 7 (.add (.k 1) (.mul 2 (.wt (.p 0 6))))
def sp101 (p:Nat):Sp:=spE 101 5 102 p 7 (.mul 2 (.wt (.t 0)))
def sp99 (p:Nat):Sp:=mkSp 99 [bAg Φ7 0 (ksP p 7)] [] [(bAg Φ7 0 (ksP 60 7),leWs [7,8,11])] 7 (.k 0)
def sp98 (p:Nat):Sp:=spE 98 7 99 p 8 (.k 0)
def sp97 (p:Nat):Sp:=mkSp 97 [bAg Φ7 0 (ksP p 6)] [] [(bAg Φ7 0 (ksP 60 6),leWs [4,5,6])] 9 (.k 0)
def sp96 (p:Nat):Sp:=spE 96 6 97 p 10 (.k 0)
def sp49 (p:Nat):Sp:=mkSp 49 [bAg Φ7 0 [.sl (p+6)]] [] [(bAg Φ7 0 [.sl 66],[leW (.p 100 0) (.p 0 0),leL (.p 100 0) (.p 0 0)])] 11 (.k 0)
end Go.Rd
namespace Go.Rd
open Go.Rex Go.RowKit Go.Rt
def shO (tp:Bool):Nat:=bif tp then 5 else 2
def sht (tp:Bool):SS:=let o:=shO tp
 ⟨o+8,[],[.loc o 134 [bif tp then .ref 4 else .nilp,.ref (o+1),.ref (o+2),.ref (o+3),.ref (o+4),.ref (o+5),.ref (o+6),.rmp (o+7),.nils],.im (o+7) (.a (.gn 1 0))],
  [.sl (o+2) 80 1,.sl (o+3) 82 0,.sl (o+4) 85 0,.sl (o+5) 86 0,.sl (o+6) 87 0]++(bif tp then [.pt 4 37 3] else []),(1,1,false)::(bif tp then [(3,3,false)] else []),[],[],[],[],[],[],[],[]⟩
def shF:Nat->Nat | 2=>80 | 3=>82 | 4=>85 | 5=>86 | 6=>87 | _=>0
def setL1 (os:List SO) (i:Nat) (x:SC):List SO:=os.map fun o=>match o with | .loc b e cs=>.loc b e (setC cs i x) | o=>o
def poSh (val:Bl) (ch:List (Nat × XE)):Bl:=fun e s =>
 let p:=val e s
 let r:=ch.foldl (fun (a:List SO × SS) q =>
  let x:=a.2.nx
  let s1:=addTy (bump a.2) (.sl x (shF q.1) (bif Nat.beq q.1 2 then 1 else 0))
  let s2:=match rE e (.add (.len (.c 0 q.1)) q.2) with | some m=>addF s1 (m.sub (.a (.len x))) | none=>s1
  let s3:=bif Nat.beq q.1 2 then (match rE e (.len (.c 0 q.1)) with | some m=>addF s2 ((LE.a (.len x)).sub m) | none=>s2) else s2
  (setL1 a.1 q.1 (.ref x),s3)) (e.os,p.2)
 (p.1,setO r.2 r.1)
def fits (l:List Nat) (w:XE):List XE:=l.map fun i=>.sub (.k 1048576) (.add (.len (.c 0 i)) w)
def shA (tp:Bool):Bl:=bC (.rpt (shO tp) 0)
def shG (tp:Bool) (l:List Nat) (w:XE):List Gn:=l.flatMap fun i=>[.sl (.c 0 i) (shF i) (bif Nat.beq i 2 then .r (.c 0 2) else .z),.ge (.sub (.add (.raw (.a (.len (shO tp+i)))) w) (.len (.c 0 i)))]++(bif Nat.beq i 2 then [.ge (.sub (.len (.c 0 i)) (.raw (.a (.len (shO tp+i)))))] else [])
def pwG (x i:XR):List Gn:=[.pw x (.v i),.ge (.sub (.wt x) (.pw x (.v i)))]
def sp218:Sp:=mkSp 218 [bSl 30 0,bS] [] [(bT [bAg Φ7 0 (ksP 20 10),bB],[])] 0 (.k 0)
def gu218:Gu:={ guD 218 with lp:=fun id s=>upTo (.t 10) (.len (.t 8)) [] [0,1,4,8,9,10] s }
def sp103 (tp:Bool):Sp:=mkSp0 103 (sht tp) [shA tp,bSS,bB] [] [(poSh (bT [bSS,bB]) [],[])] 9 (.k 0)
def sp105 (tp:Bool):Sp:=mkSp0 105 (sht tp) [shA tp,bS] [] [(poSh bS [],[])] 9 (.k 0)
def w219:XE:=.add (.wt (.p 2 3)) (.wt (.p 2 4))
def bNo:Bl:=fun _ s=>(.tup [],s)
def sp219 (tp:Bool):Sp:=mkSp0 219 (sht tp) [shA tp,bI,bAg Φ7 0 (ksP 60 1),bSS,bB,bB] (fits [4] (.add (.k 1) w219)) [(poSh bNo [(4,.add (.k 1) w219)],[])] 10 w219
def gu219 (tp:Bool):Gu:={ guD 219 with
 un:=fun id=>match id with | 0=>1 | _=>0
 lp:=fun id s=>match id with
 | 0=>lpOf [.str (.c 12 0),.str (.c 12 1),.str (.c 14 0),.str (.c 14 1),.bool (.t 15),.keep [0,1,4,5,8,9,12,14,15]] (.sln (.c 14 1)) s
 | 2=>upTo (.t 89) (.len (.t 87)) (pwG (.t 87) (.t 89)++shG tp [4] (.pw (.t 87) (.v (.t 89)))) [0,1,4,5,8,14,15,16,17,87,88,89] s
 | 4=>upTo (.t 106) (.len (.t 104)) (pwG (.t 104) (.t 106)++shG tp [4] (.add (.wt (.c 8 3)) (.pw (.t 104) (.v (.t 106))))) [0,1,4,8,16,104,105,106] s
 | _=>none }
def sp156 (tp:Bool):Sp:=mkSp0 156 (sht tp) [shA tp,bI,bSl 63 0,bSl 30 0] (fits [4,5] (.wt (.t 2))) [(poSh bNo [(4,.wt (.t 2)),(5,.wt (.t 2))],[])] 11 (.k 0)
def gu156 (tp:Bool):Gu:={ guD 156 with lp:=fun id s=>upTo (.t 17) (.len (.t 15)) (pwG (.t 15) (.t 17)++shG tp [4,5] (.pw (.t 15) (.v (.t 17)))) [0,1,3,15,16,17] s }
def sp104 (tp:Bool):Sp:=mkSp0 104 (sht tp) [shA tp,bI,bI,bS,bSl 64 0] (fits [4,5,6] (.wt (.t 4))) [(poSh bNo [(4,.wt (.t 4)),(5,.wt (.t 4)),(6,.wt (.t 4))],[])] 12 (.k 0)
def gu104 (tp:Bool):Gu:={ guD 104 with lp:=fun id s=>upTo (.t 16) (.len (.t 14)) (pwG (.t 14) (.t 16)++shG tp [4,5,6] (.pw (.t 14) (.v (.t 16)))) [0,1,2,3,14,15,16] s }
def inD:List XE:=[.v (.t 1),.sub (gnE 0) (.add (.v (.t 1)) (.k 1))]
def sp106 (tp:Bool):Sp:=mkSp0 106 (sht tp) [shA tp,bI,bI,bS,bSl 65 0] (inD++fits [2,4,5,6] (.wt (.t 4))) [(poSh (bSl 81 0) [(2,.wt (.t 4)),(4,.wt (.t 4)),(5,.wt (.t 4)),(6,.wt (.t 4))],[])] 13 (.wt (.t 4))
def gu106 (tp:Bool):Gu:={ guD 106 with
 jn:=fun id s=>match id with
 | 2=>genS ([.str (.c 15 3),.str (.c 15 7),.str (.c 15 8),.bool (.c 15 9),.str (.t 16),.str (.t 17)]++shG tp [4,5] (.add (.pw (.t 20) (.v (.t 22))) (.wt (.c 13 4)))++[.keep [0,1,2,3,10,11,13,14,15,16,17,20,21,22]]) s
 | _=>none
 lp:=fun id s=>upTo (.t 22) (.len (.t 20)) (pwG (.t 20) (.t 22)++shG tp [2,4,5,6] (.pw (.t 20) (.v (.t 22)))++[.sl (.t 11) 81 .z,.ge (.sub (.v (.t 22)) (.len (.t 11)))]) [0,1,2,3,10,11,20,21,22] s }
def w50:XE:=.add (.wt (.p 2 4)) (.add (.wt (.p 2 5)) (.wt (.p 2 6)))
def sp50 (tp:Bool):Sp:=mkSp0 50 (sht tp) [shA tp,bI,bAg Φ7 0 (ksP 60 6)] (inD++fits [2,4,5,6] w50++fits [3] (.k 1)) [(poSh bNo [(2,w50),(3,.k 1),(4,w50),(5,w50),(6,w50)],[])] 14 (.k 0)
def gu50 (tp:Bool):Gu:={ guD 50 with lp:=fun id s=>upTo (.t 15) (.len (.t 13)) (pwG (.t 13) (.t 15)++shG tp [4,5,6] (.pw (.t 13) (.v (.t 15)))) [0,1,5,13,14,15] s }
def poL:Bl:=fun e s=>let d:=s.nx+1; (sc (.ref (s.nx+2)),⟨s.nx+3,[],[],[.pt (s.nx+2) 89 (s.nx+1)],[(s.nx+1,d,false)],[(LE.k 2000).sub (.a (.gn d 0)),(LE.k 2000).sub (.a (.gn d 1))],[],[],[],[],[],[d],[]⟩)
def sp11 (tp:Bool):Sp:=mkSp0 11 (bif tp then typ else sE0 0) [bC (bif tp then .ref 2 else .nilp),bAg Φ7 0 [.sl 6]] [.sub (.k 1500) (.wt (.p 1 0))] [(poL,[])] 15 (.k 0)
def aNew (ns:List (Nat × XE)) (sub:XG) (s:SS):Option Ga:=(rG s sub).map fun g=>.new (ns.filterMap fun p=>(rE s p.2).map fun e=>(p.1,e)) g
def aFrz (g:XG) (s:SS):Option Ga:=(rG s g).map .frz
def lenLe (w:XE) (i:Nat):List Gn:=[.sl (.c 5 i) (shF i) (bif Nat.beq i 2 then .n 0 else .z),.ge (.sub w (.len (.c 5 i)))]
def gu11 (tp:Bool):Gu:={ guD 11 with
 dr:=fun id=>match id with | 20=>[0,1,2,3,4,5,6,7,8,9,10,11,12,14,17] | id=>drF 11 id
 an:=fun id s i=>match id,i with | 1,3=>.im | 14,7=>(match rG s (.n 0) with | some g=>.ty 83 g | none=>.no) | _,_=>.no
 ac:=fun id=>match id with
  | 2=>[aNew [(0,.len (.c 5 1)),(1,.k 0),(2,.k 0),(3,.k 0)] (bif tp then .r (.c 5 0) else .z)]
  | 22=>[aBump (.n 0) 2 (.len (.c 5 2)),aBump (.n 0) 3 (.len (.c 5 3)),aFrz (.n 0),aPubM (.n 0) (.c 5 7) 88,aPubL (.n 0) (.t 5) 89]
  | _=>[]
 a2:=fun id op=>match id,op with | 20,18=>[aBump (.n 0) 1 (.add (.v (.t 89)) (.k 1))] | _,_=>[]
 lp:=fun id s=>match id with
 | 0=>upTo (.t 28) (.len (.t 26)) [.im (.c 5 7) (.v (.t 28))] [4,5,26,27,28] s
 | 2=>upTo (.t 64) (.len (.t 62)) (pwG (.t 62) (.t 64)++lenLe (.v (.t 64)) 3++[2,4,5,6].flatMap (lenLe (.pw (.t 62) (.v (.t 64))))++[.im (.c 5 7) (gnE 0)]) [4,5,62,63,64] s
 | 4=>upTo (.t 89) (.len (.t 87)) ([.gho (.n 0)]++gel (eqX (gnE 0) (.len (.c 5 8))++eqX (gnE 2) (.k 0)++eqX (gnE 3) (.k 0)++[.sub (.v (.t 89)) (gnE 1)])++[.im (.c 5 7) (gnE 0)]) [4,5,87,88,89] s
 | _=>none }
end Go.Rd
namespace Go.Rd
open Go.Rex Go.RowKit Go.Rt
def shp:SS:=⟨3,[],[],[.pt 2 89 1],[(1,1,false)],[(LE.k 2000).sub (.a (.gn 1 0)),(LE.k 2000).sub (.a (.gn 1 1))],[],[],[],[],[],[],[]⟩
def spM (f:Nat) (ar:List Bl) (posts:List (Bl × List XE)) (str:Nat):Sp:=mkSp0 f shp (bC (.ref 2)::ar) [] posts str (.k 0)
def poP:Bl:=fun e s=>(sc (.ref (s.nx+2)),⟨s.nx+3,[],[],[.pt (s.nx+2) 37 (s.nx+1)],[(s.nx+1,s.nx+1,false)],[],[],[],[],[],[],[],[]⟩)
def sp12:Sp:=spM 12 [] [(bC .nilp,[]),(poP,[])] 16
def sp13:Sp:=spM 13 [] [(bAg Φ7 0 [.sl 66],[])] 16
def sp55:Sp:=mkSp 55 [bSl 81 0] [] [(bSl 81 0,[leL (.t 100) (.t 0)])] 0 (.k 0)
def gu55:Gu:={ guD 55 with an:=fun id s i=>match id,i with | 3,0=>.ty 81 0 | _,_=>.no }
def sp55d:Sp:=mkSp0 55 (s1' ) [bSl 84 1] [] [(bSl 84 1,[leL (.t 100) (.t 0)])] 0 (.k 0)
 where s1':SS:=⟨2,[],[],[],[(1,1,false)],[],[],[],[],[],[],[],[]⟩
def gu55d:Gu:={ guD 55 with an:=fun id s i=>match id,i with | 3,0=>.ty 84 1 | _,_=>.no }
def sp52:Sp:=mkSp 52 [bSl 85 0] [] [(bSl 85 0,[leL (.t 100) (.t 0)])] 0 (.k 0)
def gu52:Gu:={ guD 52 with an:=fun id s i=>match id,i with | 3,0=>.ty 85 0 | _,_=>.no }
def sp51:Sp:=mkSp0 51 sp55d.s1' [bAg Φ7 1 (ksS 80)] [] [(bAg Φ7 1 (ksS 80),leWs [10,11])] 12 (.k 0)
def sp14:Sp:=spM 14 [] [(bSl 80 1,[])] 16
def cpyM (i x dst:XR) (c:Nat) (g:XG) (ts:List Nat):SS->Option (SS × LE):=upTo i (.len x) [.sl dst c g,.ge (.sub (.v i) (.len dst))] ts
def gu14:Gu:={ guD 14 with lp:=fun id s=>cpyM (.t 13) (.t 11) (.t 3) 80 (.r (.t 11)) [0,2,3,11,12,13] s }
def sp15:Sp:=spM 15 [] [(bSl 85 0,[])] 16
def sp16:Sp:=spM 16 [] [(bSl 86 0,[])] 16
def gu16:Gu:={ guD 16 with lp:=fun id s=>cpyM (.t 13) (.t 11) (.t 3) 86 .z [0,2,3,11,12,13] s }
def sp17:Sp:=spM 17 [] [(bSl 87 0,[])] 16
def gu17:Gu:={ guD 17 with lp:=fun id s=>cpyM (.t 13) (.t 11) (.t 3) 87 .z [0,2,3,11,12,13] s }
def sp18:Sp:=spM 18 [bI] [(bT [bAg Φ7 0 (setK (ksS 80) 0 i64),bB],[])] 16
def sp19:Sp:=spM 19 [bI] [(bSl 81 0,[])] 16
def sp20:Sp:=spM 20 [bI] [(bSl 81 0,[])] 16
def unseen (x:XR):XE:=.sub (.wt x) (.len x)
def gu20:Gu:={ guD 20 with
 an:=fun id s i=>match id,i with | 3,5=>.bl | _,_=>.no
 lp:=fun id s=>match id with
 | 0=>lpOf [.bl (.t 5),.sl (.t 6) 84 (.r (.t 6)),.ge (.sub (.mul 2000 (.add (.len (.t 5)) (.k 1))) (.add (.len (.t 6)) (.mul 2000 (unseen (.t 5))))),.keep [0,4,5,6]] (.add (.mul 2001 (unseen (.t 5))) (.len (.t 6))) s
 | 2=>cpyM (.t 73) (.t 71) (.t 8) 81 .z [0,4,5,8,71,72,73] s
 | _=>none }
def sp21:Sp:=spM 21 [bS] [(bT [bI,bB],[])] 16
end Go.Rd
namespace Go.Rd
open Go.Rex Go.RowKit Go.Rt
def sp7:Sp:=mkSp 7 [] [] [(bC tt,[])] 0 (.k 0)
def sp3:Sp:=mkSp 3 [bSl 8 0,bAg Φ7 0 [.sl 6],bI] [wu [.wt (.t 0)]] [(bC tt,[])] 20 (.k 0)
def gu3:Gu:={ guD 3 with lp:=fun id s=>match id with
 | 0=>lpOf [.nat (.t 7),.ge (.sub (.k 2) (.v (.t 7))),.keep [0,2,4,6,7]] (.sub (.k 2) (.v (.t 7))) s
 | 2=>lpOf [.int (.t 10),.ge (.add (.v (.t 10)) (.k 1)),.ge (.sub (.add (.len (.c 4 0)) (.k 1)) (.v (.t 10))),.keep [0,2,4,6,7,8,9,10]] (.sub (.add (.len (.c 4 0)) (.k 1)) (.v (.t 10))) s
 | _=>none }
end Go.Rd
