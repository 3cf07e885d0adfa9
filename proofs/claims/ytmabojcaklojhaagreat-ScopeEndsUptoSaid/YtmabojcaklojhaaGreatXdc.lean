/- Part Xdc of the proof of ScopeEnds: no condition. -/
import Derived.Test.YtmabojcaklojhaaGreatXdb
set_option linter.unusedSimpArgs false
set_option linter.unusedVariables false
namespace Go.Rt
open Go.Rex Go.RowKit
def Ret (G G':GH):Prop:=∀b,G' b=G b∨∃el size C,G b=some (.cells .loc el size C)/\G' b=some (.cells .data el size C)
theorem Ret.refl (G:GH):Ret G G:=fun b=>.inl rfl
theorem satG_ret {n0:Nat} {B:Nat->Prop} {w0 w:World} {nt:Nat} {T:Tm} {hp:Tr AO} {nx:Pz} {G G':GH} {ι:En} {a:Act} (h:SatG n0 B w0 nt T hp nx G ι a w) (hr:Ret G G'):SatG n0 B w0 nt T hp nx G' ι a w:=by
 refine⟨h.1,fun b g hg=>?_,fun id o h1 h2=>?_,h.2.2.2.1,fun b hb hn=>h.2.2.2.2 b hb ?_⟩
 · rcases hr b with e | ⟨el,size,C,e1,e2⟩
   · exact h.2.1 b g (by rw [<-e]; exact hg)
   · rw [e2] at hg; cases hg
     have:=h.2.1 b _ e1
     obtain⟨p1,A,fz,p2,p3,p4,p5,p6⟩:=this
     exact⟨p1,A,fz,p2,p3,p4,fun i hi _=>p5 i hi (fun h=>by cases h),fun _=>p6 (fun e=>by cases e)⟩
 · have:=h.2.2.1 id o h1 h2
   rcases hr (ι.blk id) with e | ⟨el,size,C,e1,e2⟩
   · rw [e]; exact this
   · rw [this] at e1; cases e1
 · rcases hr b with e | ⟨el,size,C,e1,e2⟩
   · rw [<-e]; exact hn
   · rw [e2] at hn; cases hn
def updG (Γ:Gam) (g:Nat) (d:Gd) (k:Nat):Gam:=⟨Γ.m,fun x=>if x=g then d else Γ.gd x,k⟩
theorem updG_same (Γ:Gam) (g:Nat) (d:Gd) (k:Nat):(updG Γ g d k).gd g=d:=by simp [updG]
theorem updG_ne {Γ:Gam} {g x:Nat} {d:Gd} {k:Nat} (h:x≠g):(updG Γ g d k).gd x=Γ.gd x:=by simp [updG,h]
section
variable {c:Cx} {ops:Array Oper} {i m d f:Nat} {T:Tm} {G G':GH} {Γ Γ':Gam} {st st':St} {v u:AV} {P:Program} {Φ:Forms}
theorem gamLe_upd {g:Nat} {dn:Gd} {k:Nat} (h:g<Γ.ng->(Γ.gd g).Le dn) (hk:Γ.ng<=k):GamLe Γ (updG Γ g dn k):=⟨fun b x hb=>⟨x,hb,DsLe.refl x⟩,fun x hx=>by
 by_cases e:x=g
 · subst e; rw [updG_same]; exact h hx
 · rw [updG_ne e]; exact Gd.Le.refl _,hk⟩
theorem HT.gset (ht:HT P Φ G Γ) {g:Nat} {dn:Gd} {k:Nat} (h0:0<g) (h:g<Γ.ng->(Γ.gd g).Le dn/\(Γ.gd g).fz=false) (hk:Γ.ng<=k):HT P Φ G (updG Γ g dn k):=by
 have hle:=gamLe_upd (k:=k) (fun e=>(h e).1) hk
 refine⟨⟨by rw [updG_ne (by omega)]; exact ht.z.1,Nat.lt_of_lt_of_le ht.z.2 hk⟩,fun b x hb=>?_⟩
 have hx:=ht.b b x hb
 cases x with
 | cells cc g' L =>
   obtain⟨h1,h2,size,C,h3,h4,h5⟩:=hx
   exact⟨⟨Nat.lt_of_lt_of_le h1.1 hk,h1.2⟩,h2,size,C,h3,h4,fun j m hj=>(h5 j m hj).le (RawLe.refl _) hle h1.1⟩
 | map cc g' =>
   obtain⟨h1,es,h3,h4,h5⟩:=hx
   refine⟨Nat.lt_of_lt_of_le h1 hk,es,h3,h4,?_⟩
   by_cases e:g'=g
   · subst e
     obtain⟨hd,hf⟩:=h h1
     obtain⟨k1,k2⟩:=h5
     refine⟨k1,?_⟩
     rw [updG_same]
     cases hm:Φ.mv cc with
     | kd kd=>rw [hm] at k2; exact fun p hp=>by obtain⟨fs,q1,q2⟩:=k2 p hp; exact⟨fs,q1.le hd,fun f hf=>(q2 f hf).le (RawLe.refl _) hle⟩
     | unit=>rw [hm] at k2; exact k2
     | atv b=>rw [hm] at k2; have:=k2.2.1; rw [hf] at this; cases this
     | fiv=>rw [hm] at k2; have:=k2.2.1; rw [hf] at this; cases this
   · exact h5.le (RawLe.refl _) hle (updG_ne e)
theorem Q.gset (hq:Q c T G Γ st) {g:Nat} {d0 dn:Gd} {w:Bool} {gs':List (Nat × Gd × Bool)} (hg:(g,d0,true)∈st.gs) (hle:d0.Le dn) (hw:w=true->dn.fz=false) (ham:∀b g' k,Own.am b g' k∈st.os->dn.at_=d0.at_) (hgs:∀p∈gs',p=(g,dn,w)∨(p∈st.gs/\p.1≠g)):Q c T G (updG Γ g dn Γ.ng) ⟨st.L,st.os,st.tys,gs'⟩:=by
 obtain⟨q1,q2,q3⟩:=hq.gs _ hg
 obtain⟨q3,q4,q5⟩:=q3 rfl
 have q1:g<Γ.ng:=q1
 have q2:Γ.gd g=d0:=q2
 have q4:d0.fz=false:=q4
 have hl:GamLe Γ (updG Γ g dn Γ.ng):=gamLe_upd (fun _=>by rw [q2]; exact hle) (Nat.le_refl _)
 have hr:Rl c.Φ c.S c.Sg c.G0 c.Γ0 G (updG Γ g dn Γ.ng):=by
  have r:=hq.rl
  refine⟨r.g,r.r,r.t,r.le.trans hl,fun x hx hn=>?_,r.dom⟩
  have:x≠g:=fun e=>by
   subst e
   rcases q3 with h | h
   · exact hn h
   · have h:c.Γ0.ng<=x:=h
     omega
  rw [updG_ne this]; exact r.gs x hx hn
 refine⟨hq.ml,hq.at_,hq.ht0,hr,hq.grow,fun o ho=>?_,hq.new,hq.nd,hq.ht.gset q5 (fun _=>by rw [q2]; exact⟨hle,q4⟩) (Nat.le_refl _),fun f hf=>(hq.ty f hf).le (RawLe.refl _) hl,fun p hp=>?_⟩
 · have:=hq.own o ho
   cases o with
   | loc b el C=>exact this
   | lst v cc ms=>exact this
   | map b pk es=>exact this
   | ul v cc g' n =>
     obtain⟨h1,h2,h3⟩:=this
     refine⟨h1,h2,?_⟩
     rcases h3 with h3 | ⟨b,cap,size,C,k1,k2,k3,k4,k5,k6,k7⟩
     · exact .inl h3
     · exact .inr ⟨b,cap,size,C,k1,k2,k3,k4,k5,k6,fun j hj=>(k7 j hj).le (RawLe.refl _) hl h1⟩
   | am b g' k =>
     obtain⟨h1,h2,h3,es,h4,h5,h6⟩:=this
     by_cases e:g'=g
     · subst e
       have ea:=ham b g' k ho
       rw [q2] at h3 h6
       refine⟨h1,h2,?_,es,h4,h5,?_⟩
       · rw [updG_same,ea]; exact fun l n j h=>Nat.lt_of_lt_of_le (h3 l n j h) (hle.n k)
       · rw [updG_same,ea]; exact h6
     · exact⟨h1,h2,by rw [updG_ne e]; exact h3,es,h4,h5,by rw [updG_ne e]; exact h6⟩
   | im b k=>exact this
   | bl v el ms=>exact this
 · rcases hgs p hp with rfl | ⟨h1,h2⟩
   · exact⟨q1,updG_same _ _ _ _,fun h=>⟨q3,hw h,q5⟩⟩
   · obtain⟨k1,k2,k3⟩:=hq.gs p h1
     exact⟨k1,by rw [updG_ne h2]; exact k2,k3⟩
theorem Q.newI (hq:Q c T G Γ st) (dn:Gd) (w:Bool) (hw:w=true->dn.fz=false):Q c T G (updG Γ Γ.ng dn (Γ.ng+1)) ⟨st.L,st.os,st.tys,(Γ.ng,dn,w)::st.gs⟩:=by
 have hl:GamLe Γ (updG Γ Γ.ng dn (Γ.ng+1)):=gamLe_upd (fun h=>absurd h (by omega)) (Nat.le_succ _)
 have hr:Rl c.Φ c.S c.Sg c.G0 c.Γ0 G (updG Γ Γ.ng dn (Γ.ng+1)):=by
  have r:=hq.rl
  refine⟨r.g,r.r,r.t,r.le.trans hl,fun x hx hn=>?_,r.dom⟩
  have:=r.le.ng
  rw [updG_ne (by omega)]; exact r.gs x hx hn
 refine⟨hq.ml,hq.at_,hq.ht0,hr,hq.grow,fun o ho=>?_,hq.new,hq.nd,hq.ht.gset hq.ht.z.2 (fun h=>absurd h (by omega)) (Nat.le_succ _),fun f hf=>(hq.ty f hf).le (RawLe.refl _) hl,fun p hp=>?_⟩
 · refine (hq.own o ho).keep (S:=[]) (Sg:=[]) ⟨fun b h _ h0=>⟨rfl,h0⟩,RawLe.refl _,fun b x h _ _=>h,hl,fun g hg _=>updG_ne (by omega),fun b h=>h⟩ (fun b _ h=>by cases h) fun g hg=>?_
   have:g<Γ.ng:=by
    have:=hq.own o ho
    cases o<;>first | (cases hg; done) | skip
    cases hg; exact this.2.1
   exact updG_ne (by omega)
 · rcases List.mem_cons.1 hp with rfl | hp
   · refine⟨by show Γ.ng<Γ.ng+1; omega,updG_same _ _ _ _,fun h=>⟨.inr hq.rl.le.ng,hw h,hq.ht.z.2⟩⟩
   · obtain⟨k1,k2,k3⟩:=hq.gs p hp
     exact⟨by show p.1<Γ.ng+1; omega,by rw [updG_ne (by omega)]; exact k2,k3⟩
theorem Q.conv (hq:Q c T G Γ st) {osA:List Own} {o o':Own} (ho:st.os.Perm (osA++[o])) (hb:o'.blk=o.blk) (h:OwnOk c.P c.Φ G Γ o'):Q c T G Γ ⟨st.L,osA++[o'],st.tys,st.gs⟩:=by
 refine⟨hq.ml,hq.at_,hq.ht0,hq.rl,hq.grow,fun x hx=>?_,fun x hx b hbx=>?_,?_,hq.ht,hq.ty,hq.gs⟩
 · rcases List.mem_append.1 hx with hx | hx
   · exact hq.own x (ho.mem_iff.2 (by simp [hx]))
   · rw [List.mem_singleton.1 hx]; exact h
 · rcases List.mem_append.1 hx with hx | hx
   · exact hq.new x (ho.mem_iff.2 (by simp [hx])) b hbx
   · rw [List.mem_singleton.1 hx,hb] at hbx; exact hq.new o (ho.mem_iff.2 (by simp)) b hbx
 · have:=(ho.filterMap Own.blk).nodup_iff.1 hq.nd
   show (blks (osA++[o'])).Nodup
   have e:blks (osA++[o'])=blks (osA++[o]):=by
    rw [blks_append,blks_append]
    congr 1
    show List.filterMap Own.blk [o']=List.filterMap Own.blk [o]
    simp only [List.filterMap_cons,List.filterMap_nil,hb]
   rw [e]; exact this
theorem Q.pub (hq:Q c T G Γ st) {osA:List Own} {o:Own} {b:Nat} {y:Ds} {g':Gh} {tys':List TF} (ho:st.os.Perm (osA++[o])) (hb:o.blk=some b) (hm:Γ.m b=none) (hraw:∀el size C,G b≠some (.cells .raw el size C)) (hdat:∀el size C,G b=some (.cells .data el size C)->∃C',g'=.cells .data el size C')
  (hds:RawLe G (upd G b g')->GamLe Γ (updΓ Γ b y)->DsOk c.P c.Φ (upd G b g') (updΓ Γ b y) b y) (h4:∀f∈tys',TOk c.P c.Φ (upd G b g') (updΓ Γ b y) f):Q c T (upd G b g') (updΓ Γ b y) ⟨st.L,osA,tys'++st.tys,st.gs⟩:=by
 have htold:=(hq.own o (ho.mem_iff.2 (by simp))).told hb
 have:=hq.step1 (osA:=osA) (osB:=[o]) (os':=[]) (tys':=tys') (b:=b) (G':=upd G b g') (Γ':=updΓ Γ b y) ho (grow_upd (.inl htold)) (fun k h=>updΓ_ne h) (fun k h=>upd_ne h) (by rw [upd_same]; rfl) hraw
  (fun el size C h=>by obtain⟨C',h'⟩:=hdat el size C h; exact⟨C',by rw [upd_same,h']⟩) (fun x h=>by rw [hm] at h; cases h) rfl rfl (.inl (mem_blks.2 ⟨o,by simp,hb⟩))
  (fun x hr hl h=>by rw [updΓ_same] at h; cases h; exact hds hr hl) (fun o' h=>by cases h) (by show ([]:List Nat).Nodup; simp) (fun o' h=>by cases h) (fun f h _ _=>h4 f h)
 exact this.weak (fun _ _ h=>h) ⟨[],by simp⟩ (fun f h=>h) (fun p h=>h)
theorem upd_self {b:Nat} {g:Gh} (h:G b=some g):upd G b g=G:=by
 funext k
 by_cases e:k=b
 · subst e; rw [upd_same,h]
 · rw [upd_ne e]
def slF:K2->K2->Bool
 | .sl q,.slf q'=>Nat.beq q q'
 | .slg q _,.slf q'=>Nat.beq q q'
 | _,_=>false
theorem slF_ok {a b:K2} (h:slF a b=true):∃q,(a=.sl q∨∃n,a=.slg q n)/\b=.slf q:=by
 cases a<;>cases b<;>first | (cases h; done) | skip
 · have:=beq_ok h
   subst this
   exact⟨_,.inl rfl,rfl⟩
 · have:=beq_ok h
   subst this
   exact⟨_,.inr ⟨_,rfl⟩,rfl⟩
def toF:List K2->List K2->Bool
 | [],[]=>true
 | k::ks,k'::ks'=>bif Rd.k2b k k' then toF ks ks' else (slF k k'&&Rd.k2L ks ks')
 | _,_=>false
theorem toF_ok {d0:Gd} {g j:Nat}:∀{ks ks':List K2} {cs:List AV} {fs:List TF},toF ks ks'=true->WtS Φ d0 g j ks cs fs->∃n:Nat,∀dn:Gd,d0.Le dn->dn.fz=true->dn.fl j=n->WtS Φ dn g j ks' cs fs
 | [],[],_,_,_,h=>⟨0,fun dn _ _ _=>h⟩
 | k::ks,k'::ks',_,_,ht,⟨v,cs',f,fs',h1,h2,h3,h4⟩=>by
   have ht:(bif Rd.k2b k k' then toF ks ks' else (slF k k'&&Rd.k2L ks ks'))=true:=ht
   cases hb:Rd.k2b k k' with
   | true =>
     rw [hb] at ht
     have:=Rd.k2b_ok hb
     subst this
     obtain⟨n,hn⟩:=toF_ok ht h4
     exact⟨n,fun dn a1 a2 a3=>⟨v,cs',f,fs',h1,h2,h3.le a1,hn dn a1 a2 a3⟩⟩
   | false =>
     rw [hb] at ht
     simp only [cond_false] at ht
     rw [Bool.and_eq_true] at ht
     obtain⟨q,e0,e1⟩:=slF_ok ht.1
     have e2:=Rd.k2L_ok ht.2
     subst e1 e2
     obtain⟨ns,hf⟩:∃ns,f=[.sl v q (gi Φ d0 g q) ns]:=by
      rcases e0 with e0 | ⟨n,e0⟩
      · subst e0; exact h3
      · subst e0; obtain⟨ns,hf,_⟩:=h3; exact⟨ns,hf⟩
     exact⟨ns.length,fun dn a1 a2 a3=>⟨v,cs',f,fs',h1,h2,⟨ns,by rw [gi_le a1]; exact hf,a2,a3.symm⟩,h4.le a1⟩⟩
 | [],_::_,_,_,h,_=>by cases h
 | _::_,[],_,_,h,_=>by cases h
end
end Go.Rt
namespace Go.Rd
open Go.Rex Go.RowKit Go.Rt
inductive An where
 | no | ty (c g:Nat) | ul (c g:Nat) | em (pk:KK) | im | bl
def replS (n:Nat) (l:List SC):List SC:=match n with | 0=>[] | n+1=>l++replS n l
theorem replS_den (ρ:Rho) (l:List SC):∀n,denL ρ (replS n l)=repl n (denL ρ l)
 | 0=>rfl
 | n+1=>by
   show denL ρ (l++replS n l)=denL ρ l++repl n (denL ρ l)
   rw [<-replS_den ρ l n]; simp [denL]
section
variable {c:Cx} {T:Tm} {G:GH} {Γ:Gam} {ρ ρ':Rho} {s s':SS} {cf:Cf} {ops:Array Oper} {i d:Nat}
def hbs (cf:Cf) (t:TypeId) (len:Nat) (ps:List (Nat × Operand)) (d:Nat) (an:An) (s:SS) (K:SS->R):R:=match cf.P.underlying t with
 | some (.slice e)=>(match ((zeroOf cf.P e).bind svA).bind cellsS,partsS s ps with
   | some z,some l=>bif Nat.ble len 10000&&(Nat.ble (szOf cf.P e) 1000&&(Nat.beq z.length (szOf cf.P e)&&Nat.blt 0 (szOf cf.P e))) then
     (match fillS (fun i=>some (i*szOf cf.P e,szOf cf.P e)) (fillP l) (replS len z) with
      | some cs=>bif Nat.beq cs.length (len*szOf cf.P e)&&ltL s.nx cs then
        (match an with
         | .no=>fresh s fun b s=>K (sput (addO s (.loc b e cs)) d (sc (.osl b len)))
         | .ty cc g=>bif Nat.beq (cf.Φ.ty cc) e&&(gIn s g&&(igLt s.nx g&&!cf.Φ.raw cc)) then
           (match elsS cf s g cc (szOf cf.P e) (.k 0) len cs with
            | some ls=>bif (!cf.Φ.uni cc||ls.all (fun e=>ent s ((LE.k WU).sub e)))&&(sumL ls).lt s.nx then
              fresh s fun x s=>K (sput (bif cf.Φ.uni cc then eqF (addTy s (.sl x cc g)) (.a (.len x)) (.k len) else eqF (eqF (addTy s (.sl x cc g)) (.a (.len x)) (.k len)) (.a (.wt x)) (sumL ls)) d (sc (.ref x)))
              else .bad 160 s
            | none=>.bad 161 s)
           else .bad 162 s
         | _=>.bad 163 s)
        else .bad 164 s
      | none=>.bad 165 s)
     else .bad 166 s
   | _,_=>.bad 167 s)
 | _=>.bad 168 s
theorem hbs_ok {t:TypeId} {len:Nat} {ps:Array (Nat × Operand)} {an:An} {K:SS->R} (ho:(opAt ops i).op=.buildSlice t len ps) (hg:(opAt ops i).guard=none) (hd:(opAt ops i).dst=some d) (hlt:d<c.nt) (hP:cf.P=c.P) (hΦ:cf.Φ=c.Φ) (h:(hbs cf t len ps.toList d an s K).Ok) (hk:Ok c T G Γ ρ s):Hv c T G Γ ops i s ρ K:=by
 unfold hbs at h
 rw [hP,hΦ] at h
 split at h
 · rename_i e hu
   split at h
   · rename_i z l hz hl
     cases hb:(Nat.ble len 10000&&(Nat.ble (szOf c.P e) 1000&&(Nat.beq z.length (szOf c.P e)&&Nat.blt 0 (szOf c.P e)))) with
     | false=>rw [hb] at h; cases h
     | true =>
       rw [hb] at h
       simp only [cond_true] at h
       cases hzz:zeroOf c.P e with
       | none=>rw [hzz] at hz; cases hz
       | some zz =>
         rw [hzz] at hz
         simp only [Option.bind_some] at hz
         cases hv:svA zz with
         | none=>rw [hv] at hz; cases hz
         | some w =>
           rw [hv] at hz
           have hz:cellsS w=some z:=hz
           have e1:zz.cells=denL ρ z:=by rw [<-svA_ok hv ρ]; exact cellsS_ok hz ρ
           have e1l:zz.cells.length=z.length:=by rw [e1]; simp [denL]
           split at h
           · rename_i cs hf
             cases hb2:(Nat.beq cs.length (len*szOf c.P e)&&ltL s.nx cs) with
             | false=>rw [hb2] at h; cases h
             | true =>
               rw [hb2] at h
               simp only [cond_true] at h
               rw [Bool.and_eq_true] at hb2
               obtain⟨p1,p2⟩:=partsS_ok hk.q hl
               have hfill:=fillS_ok hf p2
               rw [replS_den,<-e1] at hfill
               have hcl:(denL ρ cs).length=cs.length:=by simp [denL]
               have hcs:=beq_ok hb2.1
               have hgz:(Nat.ble len 10000&&(Nat.ble (szOf c.P e) 1000&&(Nat.beq zz.cells.length (szOf c.P e)&&Nat.blt 0 (szOf c.P e))))=true:=by rw [e1l]; exact hb
               split at h
               · refine StG.buildSliceE .loc hg hd hlt ho hu hzz hgz p1 hfill (denL_nf _ _) (by rw [hcl]; exact hcs) fun b hb hb'=>⟨rfl,rfl,?_⟩
                 obtain⟨h1,h2,h3,h4⟩:=fresh_ok h hk (.n b)
                 refine⟨Γ,_,_,h1,h2,Nat.le_succ _,?_⟩
                 have e1:(ρ.up s.nx (.n b) s.nx).nn=b:=by rw [h4]; rfl
                 have e2:denL (ρ.up s.nx (.n b)) cs=denL ρ cs:=denL_agr h2 hb2.2
                 have q:=h3.q.newO hb hb' (.loc b e (denL ρ cs)) rfl ⟨upd_same _ _ _,h3.q.ht.none hb'⟩
                 have hq:Q c T (upd G b (.cells .loc e (denL ρ cs).length (denL ρ cs))) Γ ((addO (bump s) (.loc s.nx e cs)).den (ρ.up s.nx (.n b))):=by
                  have:(addO (bump s) (.loc s.nx e cs)).den (ρ.up s.nx (.n b))=⟨((bump s).den (ρ.up s.nx (.n b))).L,.loc b e (denL ρ cs)::((bump s).den (ρ.up s.nx (.n b))).os,((bump s).den (ρ.up s.nx (.n b))).tys,((bump s).den (ρ.up s.nx (.n b))).gs⟩:=by
                   unfold addO SS.den
                   simp only [List.map_cons,SO.den,e1,e2]
                  rw [this]; exact q
                 have ok1:Ok c T (upd G b (.cells .loc e (denL ρ cs).length (denL ρ cs))) Γ (ρ.up s.nx (.n b)) (addO (bump s) (.loc s.nx e cs)):=⟨⟨h3.sat.fs,h3.sat.bs,h3.sat.pw,h3.sat.ats,h3.sat.fls,h3.sat.ne,h3.sat.fz,h3.sat.sb⟩,hq⟩
                 have:=ok1.put (v:=sc (.osl s.nx len)) d
                 rw [show (sc (.osl s.nx len)).den (ρ.up s.nx (.n b))=.rsl b 0 len len by show AV.rsl (ρ.up s.nx (.n b) s.nx).nn 0 len len=_; rw [e1]] at this
                 exact this
               · rename_i cc g
                 cases hb3:(Nat.beq (c.Φ.ty cc) e&&(gIn s g&&(igLt s.nx g&&!c.Φ.raw cc))) with
                 | false=>rw [hb3] at h; cases h
                 | true =>
                   rw [hb3] at h
                   simp only [cond_true] at h
                   simp only [Bool.and_eq_true,Bool.not_eq_true'] at hb3
                   obtain⟨b1,b2,b3,hrw⟩:=hb3
                   have b1:=beq_ok b1
                   subst b1
                   cases hel:elsS cf s g cc (szOf c.P (c.Φ.ty cc)) (.k 0) len cs with
                   | none=>rw [hel] at h; cases h
                   | some ls =>
                     rw [hel] at h
                     simp only at h
                     cases hb4:((!c.Φ.uni cc||ls.all (fun e=>ent s ((LE.k WU).sub e)))&&(sumL ls).lt s.nx) with
                     | false=>rw [hb4] at h; cases h
                     | true =>
                       rw [hb4] at h
                       simp only [cond_true] at h
                       rw [Bool.and_eq_true] at hb4
                       obtain⟨ns,k1,k2,k3,k4⟩:=elsS_ok hΦ hk hel (by rw [LE.ev_k]; exact Int.le_refl _) rfl
                       have hz0:((LE.k 0).ev ρ).toNat=0:=by rw [LE.ev_k]; rfl
                       rw [hz0] at k3
                       -- the labels
                       obtain⟨L,m1,m2,m3,m4⟩:∃L:List Nat,L.length=len/\(c.Φ.uni cc=true->∀m∈L,m=WU)/\(∀j m,L[j]?=some m->ElOk c.P c.Φ G Γ m cc (ig ρ g) j (((denL ρ cs).drop (j*szOf c.P (c.Φ.ty cc))).take (szOf c.P (c.Φ.ty cc))))/\(c.Φ.uni cc=false->L=ns):=by
                        cases hun:c.Φ.uni cc with
                        | false=>exact⟨ns,k1,fun h=>(by cases h),fun j m hj=>by have:=k3 j m hj; rwa [Nat.zero_add] at this,fun _=>rfl⟩
                        | true =>
                          refine⟨List.replicate len WU,by simp,fun _ m hm=>List.eq_of_mem_replicate hm,fun j m hj=>?_,fun h=>by cases h⟩
                          have hm:=List.eq_of_mem_replicate (List.mem_of_getElem? hj)
                          have hjl:=(List.getElem?_eq_some_iff.1 hj).1
                          rw [List.length_replicate,<-k1] at hjl
                          subst hm
                          have:=k3 j _ (List.getElem?_eq_getElem hjl)
                          rw [Nat.zero_add] at this
                          refine this.more ?_
                          obtain⟨e0,e01,e02⟩:=k4 _ (List.getElem_mem hjl)
                          rw [hun] at hb4
                          simp only [Bool.not_true,Bool.false_or] at hb4
                          have:=ent_ok (List.all_eq_true.1 hb4.1 e0 e01) hk.sat
                          rw [LE.ev_sub,LE.ev_k,e02] at this
                          omega
                       have hlim:L.length<=LIM:=by
                        rw [m1]
                        simp only [Bool.and_eq_true] at hb
                        have:=ble_ok hb.1
                        unfold LIM; omega
                       refine StG.buildSliceE .data hg hd hlt ho hu hzz hgz p1 hfill (denL_nf _ _) (by rw [hcl]; exact hcs) fun b hb hb'=>⟨rfl,rfl,?_⟩
                       have hq:=hk.q.newT (cc:=cc) (g:=ig ρ g) (L:=L) (size:=(denL ρ cs).length) (C:=denL ρ cs) (tys':=[.sl (.rsl b 0 len len) cc (ig ρ g) L]) hb hb' (gIn_ok b2 hk) hrw m2 (by rw [hcl,hcs,m1]) m3 (fun f hf=>by
                        rw [List.mem_singleton.1 hf]
                        exact⟨hlim,.inr (.inr ⟨b,len,L,(denL ρ cs).length,denL ρ cs,by rw [m1],updΓ_same _ _ _,(List.take_length).symm,upd_same _ _ _,by rw [hcl,hcs]; exact Nat.le_refl _,by rw [m1]; exact Nat.le_refl _⟩)⟩)
                       have fin:∀K2:Nat->SS->R,(fresh s K2).Ok->∃ρ',(K2 s.nx (bump s)).Ok/\Agr s.nx ρ ρ'/\Ok c T (upd G b (.cells .data (c.Φ.ty cc) (denL ρ cs).length (denL ρ cs))) (updΓ Γ b (.cells cc (ig ρ g) L)) ρ' (eqF (addTy (bump s) (.sl s.nx cc g)) (.a (.len s.nx)) (.k len))/\(ρ' s.nx).vv=.rsl b 0 len len/\(ρ' s.nx).ns=L:=fun K2 h=>by
                        obtain⟨r1,r2,r3,r4⟩:=fresh_ok h hk (.v (.rsl b 0 len len) L)
                        have hv':(ρ.up s.nx (.v (.rsl b 0 len len) L) s.nx).vv=.rsl b 0 len len:=by rw [r4]; rfl
                        have hn':(ρ.up s.nx (.v (.rsl b 0 len len) L) s.nx).ns=L:=by rw [r4]; exact U.ns_of hlim
                        have eD:=(SS.agr (fresh_s h) r2).1
                        refine⟨_,r1,r2,Ok.eqF ⟨⟨r3.sat.fs,r3.sat.bs,r3.sat.pw,r3.sat.ats,r3.sat.fls,r3.sat.ne,r3.sat.fz,r3.sat.sb⟩,?_⟩ ?_,hv',hn'⟩
                        · have:(addTy (bump s) (.sl s.nx cc g)).den (ρ.up s.nx (.v (.rsl b 0 len len) L))=⟨(s.den ρ).L,(s.den ρ).os,.sl (.rsl b 0 len len) cc (ig ρ g) L::(s.den ρ).tys,(s.den ρ).gs⟩:=by
                           refine St.ext' (by have:=congrArg St.L eD; exact this) (by have:=congrArg St.os eD; exact this) ?_ (by have:=congrArg St.gs eD; exact this)
                           show STF.den _ (.sl s.nx cc g)::s.ty.map (STF.den _)=_
                           rw [show s.ty.map (STF.den (ρ.up s.nx (.v (.rsl b 0 len len) L)))=(s.den ρ).tys from congrArg St.tys eD]
                           simp only [STF.den]; rw [hv',hn',ig_agr r2 b3]
                          rw [this]
                          exact hq
                        · rw [LE.ev_a,LE.ev_k]
                          show (((ρ.up s.nx (.v (.rsl b 0 len len) L) s.nx).ns.length:Nat):Int)=_
                          rw [hn',m1]
                       obtain⟨ρ',r1,r2,r3,r4,r5⟩:=fin _ h
                       refine⟨updΓ Γ b (.cells cc (ig ρ g) L),ρ',_,r1,r2,by cases c.Φ.uni cc<;>exact Nat.le_succ _,?_⟩
                       cases hun:c.Φ.uni cc with
                       | true =>
                         have:=r3.put (v:=sc (.ref s.nx)) d
                         rw [show (sc (.ref s.nx)).den ρ'=.rsl b 0 len len from r4] at this
                         exact this
                       | false =>
                         have:=(r3.eqF (a:=.a (.wt s.nx)) (b:=sumL ls) (by
                          rw [LE.ev_a,LE.agr r2 hb4.2,<-k2]
                          show (((ρ' s.nx).ns.sum+(ρ' s.nx).ns.length:Nat):Int)=_
                          rw [r5,m4 hun])).put (v:=sc (.ref s.nx)) d
                         rw [show (sc (.ref s.nx)).den ρ'=.rsl b 0 len len from r4] at this
                         exact this
               · cases h
           · cases h
   · cases h
 · cases h
def hmm (cf:Cf) (d:Nat) (an:An) (s:SS) (K:SS->R):R:=match an with
 | .em pk=>fresh s fun b s=>K (sput (addO s (.em b pk)) d (sc (.rmp b)))
 | .im=>fresh s fun b s=>K (sput (addO s (.im b (.k 0))) d (sc (.rmp b)))
 | .ty cc g=>(match cf.Φ.mv cc with
   | .kd _=>bif gIn s g&&igLt s.nx g then fresh s fun x s=>K (sput (addTy s (.mp x cc g)) d (sc (.ref x))) else .bad 170 s
   | .unit=>bif gIn s g&&igLt s.nx g then fresh s fun x s=>K (sput (addTy s (.mp x cc g)) d (sc (.ref x))) else .bad 170 s
   | _=>.bad 171 s)
 | _=>.bad 172 s
theorem hmm_ok {t:TypeId} {an:An} {K:SS->R} (ho:(opAt ops i).op=.makeMap t none) (hg:(opAt ops i).guard=none) (hd:(opAt ops i).dst=some d) (hlt:d<c.nt) (hP:cf.P=c.P) (hΦ:cf.Φ=c.Φ) (h:(hmm cf d an s K).Ok) (hk:Ok c T G Γ ρ s):Hv c T G Γ ops i s ρ K:=by
 unfold hmm at h
 rw [hΦ] at h
 split at h
 · rename_i pk
   refine StG.makeM hg hd hlt ho fun b hb hb'=>⟨rfl,rfl,?_⟩
   obtain⟨h1,h2,h3,h4⟩:=fresh_ok h hk (.n b)
   have e1:(ρ.up s.nx (.n b) s.nx).nn=b:=by rw [h4]; rfl
   have q:=h3.q.newO (g:=.map []) hb hb' (.map b pk []) rfl ⟨upd_same _ _ _,h3.q.ht.none hb',fun p hp=>by cases hp⟩
   refine⟨Γ,_,_,h1,h2,Nat.le_succ _,?_⟩
   have ok1:Ok c T (upd G b (.map [])) Γ (ρ.up s.nx (.n b)) (addO (bump s) (.em s.nx pk)):=⟨⟨h3.sat.fs,h3.sat.bs,h3.sat.pw,h3.sat.ats,h3.sat.fls,h3.sat.ne,h3.sat.fz,h3.sat.sb⟩,by
    have:(addO (bump s) (.em s.nx pk)).den (ρ.up s.nx (.n b))=⟨((bump s).den (ρ.up s.nx (.n b))).L,.map b pk []::((bump s).den (ρ.up s.nx (.n b))).os,((bump s).den (ρ.up s.nx (.n b))).tys,((bump s).den (ρ.up s.nx (.n b))).gs⟩:=by
     unfold addO SS.den
     simp only [List.map_cons,SO.den,e1]
    rw [this]; exact q⟩
   have:=ok1.put (v:=sc (.rmp s.nx)) d
   rw [show (sc (.rmp s.nx)).den (ρ.up s.nx (.n b))=.rmp b by show AV.rmp (ρ.up s.nx (.n b) s.nx).nn=_; rw [e1]] at this
   exact this
 · refine StG.makeM hg hd hlt ho fun b hb hb'=>⟨rfl,rfl,?_⟩
   obtain⟨h1,h2,h3,h4⟩:=fresh_ok h hk (.n b)
   have e1:(ρ.up s.nx (.n b) s.nx).nn=b:=by rw [h4]; rfl
   have q:=h3.q.newO (g:=.map []) hb hb' (.im b 0) rfl ⟨h3.q.ht.none hb',[],upd_same _ _ _,fun p hp=>by cases hp⟩
   refine⟨Γ,_,_,h1,h2,Nat.le_succ _,?_⟩
   have ok1:Ok c T (upd G b (.map [])) Γ (ρ.up s.nx (.n b)) (addO (bump s) (.im s.nx (.k 0))):=⟨⟨h3.sat.fs,h3.sat.bs,h3.sat.pw,h3.sat.ats,h3.sat.fls,h3.sat.ne,h3.sat.fz,h3.sat.sb⟩,by
    have:(addO (bump s) (.im s.nx (.k 0))).den (ρ.up s.nx (.n b))=⟨((bump s).den (ρ.up s.nx (.n b))).L,.im b 0::((bump s).den (ρ.up s.nx (.n b))).os,((bump s).den (ρ.up s.nx (.n b))).tys,((bump s).den (ρ.up s.nx (.n b))).gs⟩:=by
     unfold addO SS.den
     simp only [List.map_cons,SO.den,e1,LE.ev_k]
     rfl
    rw [this]; exact q⟩
   have:=ok1.put (v:=sc (.rmp s.nx)) d
   rw [show (sc (.rmp s.nx)).den (ρ.up s.nx (.n b))=.rmp b by show AV.rmp (ρ.up s.nx (.n b) s.nx).nn=_; rw [e1]] at this
   exact this
 · rename_i cc g
   have key:MapOk c.P c.Φ G Γ cc (ig ρ g) []->((bif gIn s g&&igLt s.nx g then fresh s fun x s=>K (sput (addTy s (.mp x cc g)) d (sc (.ref x))) else .bad 170 s)).Ok->Hv c T G Γ ops i s ρ K:=fun hm h=>by
    cases hb:(gIn s g&&igLt s.nx g) with
    | false=>rw [hb] at h; cases h
    | true =>
      rw [hb] at h
      simp only [cond_true] at h
      rw [Bool.and_eq_true] at hb
      refine StG.makeM hg hd hlt ho fun b hb1 hb'=>⟨rfl,rfl,?_⟩
      have q:=hk.q.newM (cc:=cc) (g:=ig ρ g) (tys':=[.mp (.rmp b) cc (ig ρ g)]) hb1 hb' (gIn_ok hb.1 hk) hm (fun f hf=>by rw [List.mem_singleton.1 hf]; exact⟨b,rfl,updΓ_same _ _ _⟩)
      obtain⟨r1,r2,r3,r4⟩:=fresh_ok h hk (.v (.rmp b) [])
      have hv':(ρ.up s.nx (.v (.rmp b) []) s.nx).vv=.rmp b:=by rw [r4]; rfl
      have eD:=(SS.agr (fresh_s h) r2).1
      refine⟨updΓ Γ b (.map cc (ig ρ g)),ρ.up s.nx (.v (.rmp b) []),sput (addTy (bump s) (.mp s.nx cc g)) d (sc (.ref s.nx)),r1,r2,Nat.le_succ _,?_⟩
      have ok1:Ok c T (upd G b (.map [])) (updΓ Γ b (.map cc (ig ρ g))) (ρ.up s.nx (.v (.rmp b) [])) (addTy (bump s) (.mp s.nx cc g)):=⟨⟨r3.sat.fs,r3.sat.bs,r3.sat.pw,r3.sat.ats,r3.sat.fls,r3.sat.ne,r3.sat.fz,r3.sat.sb⟩,by
       have:(addTy (bump s) (.mp s.nx cc g)).den (ρ.up s.nx (.v (.rmp b) []))=⟨(s.den ρ).L,(s.den ρ).os,.mp (.rmp b) cc (ig ρ g)::(s.den ρ).tys,(s.den ρ).gs⟩:=by
        refine St.ext' (by have:=congrArg St.L eD; exact this) (by have:=congrArg St.os eD; exact this) ?_ (by have:=congrArg St.gs eD; exact this)
        show STF.den _ (.mp s.nx cc g)::s.ty.map (STF.den _)=_
        rw [show s.ty.map (STF.den (ρ.up s.nx (.v (.rmp b) [])))=(s.den ρ).tys from congrArg St.tys eD]
        simp only [STF.den]; rw [hv',ig_agr r2 hb.2]
       rw [this]; exact q⟩
      have:=ok1.put (v:=sc (.ref s.nx)) d
      rw [show (sc (.ref s.nx)).den (ρ.up s.nx (.v (.rmp b) []))=.rmp b from hv'] at this
      exact this
   split at h
   · rename_i kd hm
     exact key (by unfold MapOk; rw [hm]; exact⟨fun p hp=>(by cases hp),fun p hp=>(by cases hp)⟩) h
   · rename_i hm
     exact key (by unfold MapOk; rw [hm]; exact⟨fun p hp=>(by cases hp),fun p hp=>(by cases hp)⟩) h
   · cases h
 · cases h
end
end Go.Rd
namespace Go.Rd
open Go.Rex Go.RowKit Go.Rt
def rmSO (f:SO->Bool):List SO->Option (SO × List SO)
 | []=>none
 | o::l=>bif f o then some (o,l) else (rmSO f l).map fun p=>(p.1,o::p.2)
theorem rmSO_ok {f:SO->Bool}:∀{l l':List SO} {o:SO},rmSO f l=some (o,l')->f o=true/\l.Perm (l'++[o])
 | [],_,_,h=>by cases h
 | x::l,l',o,h=>by
   have h:(bif f x then some (x,l) else (rmSO f l).map fun p=>(p.1,x::p.2))=some (o,l'):=h
   cases hb:f x with
   | true=>rw [hb] at h; cases h; exact⟨hb,(List.perm_append_singleton _ _).symm⟩
   | false =>
     rw [hb] at h
     cases hr:rmSO f l with
     | none=>rw [hr] at h; cases h
     | some p =>
       rw [hr] at h; cases h
       obtain⟨h1,h2⟩:=rmSO_ok (o:=p.1) (l':=p.2) hr
       exact⟨h1,h2.cons _⟩
def isUl (x:Nat):SO->Bool | .ul y _ _=>Nat.beq y x | _=>false
def isBl (x:Nat):SO->Bool | .bl y _ _=>Nat.beq y x | _=>false
theorem isUl_ok {x:Nat} {o:SO} (h:isUl x o=true):∃c g,o=.ul x c g:=by
 cases o<;>first | (cases h; done) | skip
 have:=beq_ok h; subst this; exact⟨_,_,rfl⟩
def appO (cf:Cf) (e:TypeId) (d cc g:Nat) (osA:List SO) (len:LE) (u:SV) (s:SS) (K:SS->R):R:=bif Nat.beq (cf.Φ.ty cc) e&&cf.Φ.uni cc then
    (match srcS cf s cc g len u with
     | some (n,_)=>bif ent s ((LE.k (capB cf.P e)).sub (len.add n))&&((len.add n).lt s.nx&&(igLt s.nx g&&osA.all (SO.lt s.nx))) then
       fresh s fun x s=>K (sput (eqF (setO s (osA++[.ul x cc g])) (.a (.len x)) (len.add n)) d (sc (.ref x)))
       else .bad 180 s
     | none=>.bad 181 s)
 else .bad 182 s
def hap2 (cf:Cf) (ts tx:TypeId) (d:Nat) (v u:SV) (an:An) (s:SS) (K:SS->R):R:=match apTy cf.P ts tx,v,an with
 | some e,.v false [.nils],.ul cc g=>bif gIn s g then appO cf e d cc g s.os (.k 0) u s K else .bad 183 s
 | some e,.v false [.ref x],an=>(match rmSO (isUl x) s.os with
   | some (.ul _ cc g,osA)=>appO cf e d cc g osA (.a (.len x)) u s K
   | _=>hap cf ts tx d v u (match an with | .ty cc g=>some (cc,g) | _=>none) s K)
 | _,_,.ty cc g=>hap cf ts tx d v u (some (cc,g)) s K
 | _,_,_=>hap cf ts tx d v u none s K
def hms (cf:Cf) (t:TypeId) (d:Nat) (v u:SV) (an:An) (s:SS) (K:SS->R):R:=match v,u,cf.P.underlying t with
 | .v false [.int k e],.v false [.int k' e'],some (.slice el)=>bif isI64 k&&(isI64 k'&&(e.same e'&&(ent s e&&(ent s ((LE.k 16777216).sub e)&&e.lt s.nx)))) then
   (match ((zeroOf cf.P el).bind svA).bind cellsS with
    | some z=>bif Nat.beq z.length (szOf cf.P el)&&(Nat.ble (szOf cf.P el) 1000&&(Nat.blt 0 (szOf cf.P el)&&Nat.ble (cf.P.bytesOf el) 1000000)) then
      (match an with
       | .ty cc g=>bif Nat.beq (cf.Φ.ty cc) el&&(cf.Φ.uni cc&&(gIn s g&&(igLt s.nx g&&((cf.Φ.ks cc).all kjf&&!cf.Φ.raw cc)))) then
         (match chkL cf s g (ghost s.gs g) (.k 0) (cf.Φ.ks cc) z with
          | some os=>bif ent s ((LE.k WU).sub (sumW os)) then fresh s fun x s=>K (sput (eqF (addTy s (.sl x cc g)) (.a (.len x)) e) d (sc (.ref x))) else .bad 184 s
          | none=>.bad 185 s)
         else .bad 186 s
       | .bl=>(match z with
         | [.bool (.k false)]=>fresh s fun x s=>K (sput (eqF (eqF (setO s (.bl x x el::s.os)) (.a (.len x)) e) (.a (.wt x)) (e.mulc 2)) d (sc (.ref x)))
         | _=>.bad 187 s)
       | _=>.bad 188 s)
      else .bad 189 s
    | none=>.bad 190 s)
   else .bad 191 s
 | _,_,_=>.bad 192 s
section
variable {c:Cx} {T:Tm} {G:GH} {Γ:Gam} {ρ ρ':Rho} {s s':SS} {cf:Cf} {ops:Array Oper} {i d:Nat}
theorem perm_den {l l':List SO} (h:l.Perm l') (ρ:Rho):(l.map (SO.den ρ)).Perm (l'.map (SO.den ρ)):=h.map _
theorem appO_ok {cl:Call} {ts tx e:TypeId} {ys yx:Operand} {cc g n:Nat} {osA:List SO} {len:LE} {v u:SV} {K:SS->R} (hg:(opAt ops i).guard=none) (hd:(opAt ops i).dst=some d) (hlt:d<c.nt) (ho:(opAt ops i).op=.call cl) (hc:cl.callee=.builtin .append) (ht:cl.argTypes.toList=[ts,tx]) (hx:cl.args.toList=[ys,yx])
  (hP:cf.P=c.P) (hΦ:cf.Φ=c.Φ) (hap:apTy c.P ts tx=some e) (h:(appO cf e d cc g osA len u s K).Ok) (hk:Ok c T G Γ ρ s) (hv:EvA c.nt T ys (v.den ρ)) (hu:EvA c.nt T yx (u.den ρ)) (hq:Q c T G Γ ⟨(s.den ρ).L,osA.map (SO.den ρ)++[.ul (v.den ρ) cc (ig ρ g) n],(s.den ρ).tys,(s.den ρ).gs⟩) (hl:len.ev ρ=(n:Int)):Hv c T G Γ ops i s ρ K:=by
 unfold appO at h
 rw [hP,hΦ] at h
 cases hb:(Nat.beq (c.Φ.ty cc) e&&c.Φ.uni cc) with
 | false=>rw [hb] at h; cases h
 | true =>
   rw [hb] at h
   rw [Bool.and_eq_true] at hb
   obtain⟨hb,hun⟩:=hb
   have hb:=beq_ok hb
   subst hb
   simp only [cond_true] at h
   cases hsr:srcS cf s cc g len u with
   | none=>rw [hsr] at h; cases h
   | some p =>
     obtain⟨k,w⟩:=p
     rw [hsr] at h
     simp only at h
     cases hf:(ent s ((LE.k (capB c.P (c.Φ.ty cc))).sub (len.add k))&&((len.add k).lt s.nx&&(igLt s.nx g&&osA.all (SO.lt s.nx)))) with
     | false=>rw [hf] at h; cases h
     | true =>
       rw [hf] at h
       simp only [cond_true] at h
       simp only [Bool.and_eq_true] at hf
       obtain⟨f1,f2,f3,f4⟩:=hf
       obtain⟨h1,⟨e',h2⟩,zz,h3,h4⟩:=apTy_ok hap
       have h5:=h4
       simp only [Bool.and_eq_true] at h5
       have hsz:=blt_ok h5.2.2
       have hJ:n=(len.ev ρ).toNat:=by rw [hl]; rfl
       obtain⟨ns,E,k1,k2,k3,k4,k5,k6,k7⟩:=srcS_ok hP hΦ hsr hk hJ hsz
       have hcap:=ent_ok f1 hk.sat
       rw [LE.ev_sub,LE.ev_k,LE.ev_add,hl,k3] at hcap
       obtain⟨c1,c2⟩:=capB_ok (P:=c.P) (e:=c.Φ.ty cc) (n:=n+ns.length) (by omega) (ble_ok h5.1)
       obtain⟨E1,x1,x2,x3⟩:=hq.appO (k:=ns.length) (E2:=E) (osA:=osA.map (SO.den ρ)) (v:=v.den ρ) (cc:=cc) (List.Perm.refl _) k5 k2 (fun j hj=>(k6 j _ (List.getElem?_eq_getElem hj)).more (k7 hun _ (List.getElem_mem hj))) c2
       refine StG.appendW hg hd hlt ho hc ht hx h1 h2 (fun k h=>by cases h) h3 h4 hv hu x1 x2 k1 c1 (Nat.le_trans c2 (by unfold LIM; omega)) fun v' G' ha hnf=>?_
       obtain⟨Γ',hq'⟩:=x3 G' v' ha
       have hown:OwnOk c.P c.Φ G' Γ' (.ul v' cc (ig ρ g) (n+ns.length)):=hq'.own _ (by simp)
       have href:isRefA v'=true:=by
        rcases hown.2.2 with ⟨h,_⟩ | ⟨b,cap,size,C,h,_⟩<;>rw [h]<;>rfl
       have hlim:(List.replicate (n+ns.length) 0).length<=LIM:=by rw [List.length_replicate]; exact c2
       obtain⟨r1,r2,r3,r4⟩:=fresh_ok h hk (.v v' (List.replicate (n+ns.length) 0))
       have hv':(ρ.up s.nx (.v v' (List.replicate (n+ns.length) 0)) s.nx).vv=v':=by rw [r4]; exact U.vv_of href
       have hn':(ρ.up s.nx (.v v' (List.replicate (n+ns.length) 0)) s.nx).ns.length=n+ns.length:=by rw [r4,U.ns_of hlim,List.length_replicate]
       have eD:=(SS.agr (fresh_s h) r2).1
       have eO:osA.map (SO.den (ρ.up s.nx (.v v' (List.replicate (n+ns.length) 0))))=osA.map (SO.den ρ):=List.map_congr_left fun o ho=>SO.agr r2 (List.all_eq_true.1 f4 o ho)
       refine⟨rfl,rfl,Γ',_,_,r1,r2,Nat.le_succ _,?_⟩
       have hbase:Ok c T G' Γ' (ρ.up s.nx (.v v' (List.replicate (n+ns.length) 0))) (setO (bump s) (osA++[.ul s.nx cc g])):=by
        refine⟨⟨r3.sat.fs,r3.sat.bs,r3.sat.pw,r3.sat.ats,r3.sat.fls,r3.sat.ne,r3.sat.fz,r3.sat.sb⟩,?_⟩
        have:(setO (bump s) (osA++[.ul s.nx cc g])).den (ρ.up s.nx (.v v' (List.replicate (n+ns.length) 0)))=⟨(s.den ρ).L,osA.map (SO.den ρ)++[.ul v' cc (ig ρ g) (n+ns.length)],(s.den ρ).tys,(s.den ρ).gs⟩:=by
         refine St.ext' (by have:=congrArg St.L eD; exact this) ?_ (by have:=congrArg St.tys eD; exact this) (by have:=congrArg St.gs eD; exact this)
         show (osA++[SO.ul s.nx cc g]).map (SO.den _)=_
         rw [List.map_append,eO,List.map_singleton]
         simp only [SO.den]; rw [hv',hn',ig_agr r2 f3]
        rw [this]
        exact hq'
       have a1:(LE.a (.len s.nx)).ev (ρ.up s.nx (.v v' (List.replicate (n+ns.length) 0)))=(len.add k).ev (ρ.up s.nx (.v v' (List.replicate (n+ns.length) 0))):=by
        rw [LE.agr r2 f2,LE.ev_add,hl,k3,LE.ev_a]
        show (((ρ.up s.nx (.v v' (List.replicate (n+ns.length) 0)) s.nx).ns.length:Nat):Int)=_
        rw [hn']; omega
       have:=(hbase.eqF a1).put (v:=sc (.ref s.nx)) d
       rw [show (sc (.ref s.nx)).den (ρ.up s.nx (.v v' (List.replicate (n+ns.length) 0)))=v' from hv'] at this
       exact this
theorem hap2_ok {cl:Call} {ts tx:TypeId} {ys yx:Operand} {v u:SV} {an:An} {K:SS->R} (hg:(opAt ops i).guard=none) (hd:(opAt ops i).dst=some d) (hlt:d<c.nt) (ho:(opAt ops i).op=.call cl) (hc:cl.callee=.builtin .append) (ht:cl.argTypes.toList=[ts,tx]) (hx:cl.args.toList=[ys,yx])
  (hP:cf.P=c.P) (hΦ:cf.Φ=c.Φ) (h:(hap2 cf ts tx d v u an s K).Ok) (hk:Ok c T G Γ ρ s) (hv:EvA c.nt T ys (v.den ρ)) (hu:EvA c.nt T yx (u.den ρ)):Hv c T G Γ ops i s ρ K:=by
 unfold hap2 at h
 split at h
 · rename_i e cc g hap
   rw [hP] at hap
   cases hgi:gIn s g with
   | false=>rw [hgi] at h; cases h
   | true =>
     rw [hgi] at h
     refine appO_ok (v:=.v false [.nils]) (n:=0) hg hd hlt ho hc ht hx hP hΦ hap h hk hv hu ?_ (by rw [LE.ev_k]; rfl)
     have q:=hk.q
     refine⟨q.ml,q.at_,q.ht0,q.rl,q.grow,fun o ho=>?_,fun o ho b hb=>?_,?_,q.ht,q.ty,q.gs⟩
     · rcases List.mem_append.1 ho with ho | ho
       · exact q.own o ho
       · rw [List.mem_singleton.1 ho]; exact⟨gIn_ok hgi hk,Nat.zero_le _,.inl ⟨rfl,rfl⟩⟩
     · rcases List.mem_append.1 ho with ho | ho
       · exact q.new o ho b hb
       · rw [List.mem_singleton.1 ho] at hb; cases hb
     · show (blks (_++[Own.ul .nils cc (ig ρ g) 0])).Nodup
       rw [blks_append]
       have:blks [Own.ul .nils cc (ig ρ g) 0]=[]:=rfl
       rw [this,List.append_nil]
       exact q.nd
 · rename_i an' e x hap
   rw [hP] at hap
   split at h
   · rename_i y cc g osA hr
     obtain⟨r1,r2⟩:=rmSO_ok hr
     obtain⟨c',g',e0⟩:=isUl_ok r1
     cases e0
     refine appO_ok (v:=.v false [.ref x]) (n:=(ρ x).ns.length) hg hd hlt ho hc ht hx hP hΦ hap h hk hv hu ?_ (by rw [LE.ev_a]; rfl)
     refine hk.q.weak (fun _ _ h=>h) ⟨[],?_⟩ (fun f h=>h) (fun p h=>h)
     have:=perm_den r2 ρ
     rw [List.map_append,List.map_singleton] at this
     rw [List.append_nil]
     exact this
   · exact hap_ok hg hd hlt ho hc ht hx hP hΦ h hk hv hu
 · exact hap_ok hg hd hlt ho hc ht hx hP hΦ h hk hv hu
 · exact hap_ok hg hd hlt ho hc ht hx hP hΦ h hk hv hu
theorem repl_win {l:List AV} {n j sz:Nat} (hl:l.length=sz) (hj:j<n):((repl n l).drop (j*sz)).take sz=l:=by
 induction n generalizing j with
 | zero=>omega
 | succ n ih =>
   have e:repl (n+1) l=l++repl n l:=rfl
   rw [e]
   cases j with
   | zero=>rw [Nat.zero_mul,List.drop_zero,<-hl,List.take_left]
   | succ j=>rw [Nat.succ_mul,Nat.add_comm,<-List.drop_drop,<-hl,List.drop_left,hl]; exact ih (by omega)
theorem hms_ok {t:TypeId} {yl yc:Operand} {v u:SV} {an:An} {K:SS->R} (ho:(opAt ops i).op=.makeSlice t yl yc) (hg:(opAt ops i).guard=none) (hd:(opAt ops i).dst=some d) (hlt:d<c.nt) (hP:cf.P=c.P) (hΦ:cf.Φ=c.Φ) (h:(hms cf t d v u an s K).Ok) (hk:Ok c T G Γ ρ s) (hv:EvA c.nt T yl (v.den ρ)) (hu:EvA c.nt T yc (u.den ρ)):Hv c T G Γ ops i s ρ K:=by
 unfold hms at h
 rw [hP,hΦ] at h
 split at h
 · rename_i k e k' e' el hun
   cases hb:(isI64 k&&(isI64 k'&&(e.same e'&&(ent s e&&(ent s ((LE.k 16777216).sub e)&&e.lt s.nx))))) with
   | false=>rw [hb] at h; cases h
   | true =>
     rw [hb] at h
     simp only [cond_true] at h
     simp only [Bool.and_eq_true] at hb
     obtain⟨b1,b2,b3,b4,b5,b6⟩:=hb
     have b1:=isI64_ok b1
     have b2:=isI64_ok b2
     subst b1 b2
     have e1:=ent_ok b4 hk.sat
     have e2:=ent_ok b5 hk.sat
     rw [LE.ev_sub,LE.ev_k] at e2
     have e3:=LE.same_ok b3 ρ
     have hv:EvA c.nt T yl (.int .i64 (.ofNat (e.ev ρ).toNat)):=by
      have:(SV.v false [.int .i64 e]).den ρ=.int .i64 (.ofNat (e.ev ρ).toNat):=by show AV.int .i64 (e.ev ρ)=_; congr 1; exact (Int.toNat_of_nonneg e1).symm
      rw [<-this]; exact hv
     have hu:EvA c.nt T yc (.int .i64 (.ofNat (e.ev ρ).toNat)):=by
      have:(SV.v false [.int .i64 e']).den ρ=.int .i64 (.ofNat (e.ev ρ).toNat):=by show AV.int .i64 (e'.ev ρ)=_; rw [<-e3]; congr 1; exact (Int.toNat_of_nonneg e1).symm
      rw [<-this]; exact hu
     split at h
     · rename_i z hz
       cases hzz:zeroOf c.P el with
       | none=>rw [hzz] at hz; cases hz
       | some zz =>
         rw [hzz] at hz
         simp only [Option.bind_some] at hz
         cases hv0:svA zz with
         | none=>rw [hv0] at hz; cases hz
         | some w =>
           rw [hv0] at hz
           have hz:cellsS w=some z:=hz
           have z1:zz.cells=denL ρ z:=by rw [<-svA_ok hv0 ρ]; exact cellsS_ok hz ρ
           have z1l:zz.cells.length=z.length:=by rw [z1]; simp [denL]
           cases hb7:(Nat.beq z.length (szOf c.P el)&&(Nat.ble (szOf c.P el) 1000&&(Nat.blt 0 (szOf c.P el)&&Nat.ble (c.P.bytesOf el) 1000000))) with
           | false=>rw [hb7] at h; cases h
           | true =>
             rw [hb7] at h
             simp only [cond_true] at h
             have hgz:(Nat.beq zz.cells.length (szOf c.P el)&&(Nat.ble (szOf c.P el) 1000&&(Nat.blt 0 (szOf c.P el)&&Nat.ble (c.P.bytesOf el) 1000000)))=true:=by rw [z1l]; exact hb7
             have hzl:zz.cells.length=szOf c.P el:=by rw [z1l]; simp only [Bool.and_eq_true] at hb7; exact beq_ok hb7.1
             have hlim:(e.ev ρ).toNat<=LIM:=by unfold LIM; omega
             have hrl:(repl (e.ev ρ).toNat zz.cells).length=(e.ev ρ).toNat*szOf c.P el:=by rw [repl_length,hzl]
             split at h
             · rename_i cc g
               cases hb8:(Nat.beq (c.Φ.ty cc) el&&(c.Φ.uni cc&&(gIn s g&&(igLt s.nx g&&((c.Φ.ks cc).all kjf&&!c.Φ.raw cc))))) with
               | false=>rw [hb8] at h; cases h
               | true =>
                 rw [hb8] at h
                 simp only [cond_true] at h
                 simp only [Bool.and_eq_true,Bool.not_eq_true'] at hb8
                 obtain⟨d1,d2,d3,d4,d5,hrw⟩:=hb8
                 have d1:=beq_ok d1
                 subst d1
                 cases hch:chkL cf s g (ghost s.gs g) (.k 0) (c.Φ.ks cc) z with
                 | none=>rw [hch] at h; cases h
                 | some os =>
                   rw [hch] at h
                   simp only at h
                   cases hw:ent s ((LE.k WU).sub (sumW os)) with
                   | false=>rw [hw] at h; cases h
                   | true =>
                     rw [hw] at h
                     simp only [cond_true] at h
                     obtain⟨fs,w1,w2,w3⟩:=chkL_ok hΦ hk (fun dv h=>ghost_ok h hk) (J:=0) (by rw [LE.ev_k]; exact⟨Int.le_refl _,rfl⟩) hch
                     have hwu:=ent_ok hw hk.sat
                     rw [LE.ev_sub,LE.ev_k,w2] at hwu
                     rw [<-z1] at w1
                     refine StG.makeSW hg hd hlt ho hun hzz hgz hv hu (by omega) (by rw [z1]; exact denL_nf _ _) fun b hb hb'=>⟨rfl,rfl,?_⟩
                     have hq:=hk.q.newT (cc:=cc) (g:=ig ρ g) (L:=List.replicate (e.ev ρ).toNat WU) (size:=(e.ev ρ).toNat*szOf c.P (c.Φ.ty cc)) (C:=repl (e.ev ρ).toNat zz.cells) (tys':=[.sl (.rsl b 0 (e.ev ρ).toNat (e.ev ρ).toNat) cc (ig ρ g) (List.replicate (e.ev ρ).toNat WU)]) hb hb' (gIn_ok d3 hk) hrw (fun _ m hm=>List.eq_of_mem_replicate hm) (by rw [hrl,List.length_replicate]) (fun j m hj=>by
                       have hm:=List.eq_of_mem_replicate (List.mem_of_getElem? hj)
                       have hjl:=(List.getElem?_eq_some_iff.1 hj).1
                       rw [List.length_replicate] at hjl
                       rw [repl_win hzl hjl,hm]
                       exact⟨fs,wts_jfree d5 w1,by omega,w3⟩) (fun f hf=>by
                       rw [List.mem_singleton.1 hf]
                       exact⟨by rw [List.length_replicate]; exact hlim,.inr (.inr ⟨b,(e.ev ρ).toNat,_,_,_,by rw [List.length_replicate],updΓ_same _ _ _,(List.take_length).symm,upd_same _ _ _,Nat.le_refl _,by rw [List.length_replicate]; exact Nat.le_refl _⟩)⟩)
                     obtain⟨r1,r2,r3,r4⟩:=fresh_ok h hk (.v (.rsl b 0 (e.ev ρ).toNat (e.ev ρ).toNat) (List.replicate (e.ev ρ).toNat WU))
                     generalize hU:U.v (.rsl b 0 (e.ev ρ).toNat (e.ev ρ).toNat) (List.replicate (e.ev ρ).toNat WU)=uu at r1 r2 r3 r4
                     have hv':(ρ.up s.nx uu s.nx).vv=.rsl b 0 (e.ev ρ).toNat (e.ev ρ).toNat:=by rw [r4,<-hU]; rfl
                     have hn':(ρ.up s.nx uu s.nx).ns=List.replicate (e.ev ρ).toNat WU:=by rw [r4,<-hU]; exact U.ns_of (by rw [List.length_replicate]; exact hlim)
                     have eD:=(SS.agr (fresh_s h) r2).1
                     refine⟨updΓ Γ b (.cells cc (ig ρ g) (List.replicate (e.ev ρ).toNat WU)),ρ.up s.nx uu,_,r1,r2,Nat.le_succ _,?_⟩
                     have ok1:Ok c T (upd G b (.cells .data (c.Φ.ty cc) ((e.ev ρ).toNat*szOf c.P (c.Φ.ty cc)) (repl (e.ev ρ).toNat zz.cells))) (updΓ Γ b (.cells cc (ig ρ g) (List.replicate (e.ev ρ).toNat WU))) (ρ.up s.nx uu) (addTy (bump s) (.sl s.nx cc g)):=⟨⟨r3.sat.fs,r3.sat.bs,r3.sat.pw,r3.sat.ats,r3.sat.fls,r3.sat.ne,r3.sat.fz,r3.sat.sb⟩,by
                      have:(addTy (bump s) (.sl s.nx cc g)).den (ρ.up s.nx uu)=⟨(s.den ρ).L,(s.den ρ).os,.sl (.rsl b 0 (e.ev ρ).toNat (e.ev ρ).toNat) cc (ig ρ g) (List.replicate (e.ev ρ).toNat WU)::(s.den ρ).tys,(s.den ρ).gs⟩:=by
                       refine St.ext' (by have:=congrArg St.L eD; exact this) (by have:=congrArg St.os eD; exact this) ?_ (by have:=congrArg St.gs eD; exact this)
                       show STF.den _ (.sl s.nx cc g)::s.ty.map (STF.den _)=_
                       rw [show s.ty.map (STF.den (ρ.up s.nx uu))=(s.den ρ).tys from congrArg St.tys eD]
                       simp only [STF.den]; rw [hv',hn',ig_agr r2 d4]
                      rw [this]; exact hq⟩
                     have:=(ok1.eqF (a:=.a (.len s.nx)) (b:=e) (by
                      rw [LE.ev_a,LE.agr r2 b6]
                      show (((ρ.up s.nx uu s.nx).ns.length:Nat):Int)=_
                      rw [hn',List.length_replicate]; omega)).put (v:=sc (.ref s.nx)) d
                     rw [show (sc (.ref s.nx)).den (ρ.up s.nx uu)=.rsl b 0 (e.ev ρ).toNat (e.ev ρ).toNat from hv'] at this
                     exact this
             · split at h
               · have z2:zz.cells=[.bool false]:=z1
                 rw [z2] at hzl hrl
                 have hzl:1=szOf c.P el:=hzl
                 refine StG.makeSW hg hd hlt ho hun hzz hgz hv hu (by omega) (by rw [z1]; exact denL_nf _ _) fun b hb hb'=>⟨rfl,rfl,?_⟩
                 rw [z2]
                 have hC:repl (e.ev ρ).toNat [AV.bool false]=(List.replicate (e.ev ρ).toNat 1).map (fun m=>AV.bool (Nat.beq m 0)):=by
                  generalize (e.ev ρ).toNat=n
                  induction n with
                  | zero=>rfl
                  | succ n ih=>show AV.bool false::repl n [AV.bool false]=_; rw [ih]; rfl
                 have hq:=hk.q.newO (g:=.cells .data el ((e.ev ρ).toNat*szOf c.P el) (repl (e.ev ρ).toNat [AV.bool false])) hb hb' (.bl (.rsl b 0 (e.ev ρ).toNat (e.ev ρ).toNat) el (List.replicate (e.ev ρ).toNat 1)) rfl ⟨by rw [List.length_replicate]; exact hlim,fun m hm=>by rw [List.eq_of_mem_replicate hm]; exact Nat.le_refl _,b,(e.ev ρ).toNat*szOf c.P el,by rw [List.length_replicate],hk.q.ht.none hb',by rw [upd_same,hC]⟩
                 obtain⟨r1,r2,r3,r4⟩:=fresh_ok h hk (.v (.rsl b 0 (e.ev ρ).toNat (e.ev ρ).toNat) (List.replicate (e.ev ρ).toNat 1))
                 generalize hU:U.v (.rsl b 0 (e.ev ρ).toNat (e.ev ρ).toNat) (List.replicate (e.ev ρ).toNat 1)=uu at r1 r2 r3 r4
                 have hv':(ρ.up s.nx uu s.nx).vv=.rsl b 0 (e.ev ρ).toNat (e.ev ρ).toNat:=by rw [r4,<-hU]; rfl
                 have hn':(ρ.up s.nx uu s.nx).ns=List.replicate (e.ev ρ).toNat 1:=by rw [r4,<-hU]; exact U.ns_of (by rw [List.length_replicate]; exact hlim)
                 have eD:=(SS.agr (fresh_s h) r2).1
                 refine⟨Γ,ρ.up s.nx uu,_,r1,r2,Nat.le_succ _,?_⟩
                 have ok1:Ok c T (upd G b (.cells .data el ((e.ev ρ).toNat*szOf c.P el) (repl (e.ev ρ).toNat [AV.bool false]))) Γ (ρ.up s.nx uu) (setO (bump s) (.bl s.nx s.nx el::s.os)):=⟨⟨r3.sat.fs,r3.sat.bs,r3.sat.pw,r3.sat.ats,r3.sat.fls,r3.sat.ne,r3.sat.fz,r3.sat.sb⟩,by
                  have:(setO (bump s) (.bl s.nx s.nx el::s.os)).den (ρ.up s.nx uu)=⟨(s.den ρ).L,.bl (.rsl b 0 (e.ev ρ).toNat (e.ev ρ).toNat) el (List.replicate (e.ev ρ).toNat 1)::(s.den ρ).os,(s.den ρ).tys,(s.den ρ).gs⟩:=by
                   refine St.ext' (by have:=congrArg St.L eD; exact this) ?_ (by have:=congrArg St.tys eD; exact this) (by have:=congrArg St.gs eD; exact this)
                   show SO.den _ (.bl s.nx s.nx el)::s.os.map (SO.den _)=_
                   rw [show s.os.map (SO.den (ρ.up s.nx uu))=(s.den ρ).os from congrArg St.os eD]
                   simp only [SO.den]; rw [hv',hn']
                  rw [this]; exact hq⟩
                 have:=((ok1.eqF (a:=.a (.len s.nx)) (b:=e) (by
                  rw [LE.ev_a,LE.agr r2 b6]
                  show (((ρ.up s.nx uu s.nx).ns.length:Nat):Int)=_
                  rw [hn',List.length_replicate]; omega)).eqF (a:=.a (.wt s.nx)) (b:=e.mulc 2) (by
                  rw [LE.ev_a,LE.ev_mulc,LE.agr r2 b6]
                  show (((ρ.up s.nx uu s.nx).ns.sum+(ρ.up s.nx uu s.nx).ns.length:Nat):Int)=_
                  rw [hn',List.length_replicate,List.sum_replicate_nat]; omega)).put (v:=sc (.ref s.nx)) d
                 rw [show (sc (.ref s.nx)).den (ρ.up s.nx uu)=.rsl b 0 (e.ev ρ).toNat (e.ev ρ).toNat from hv'] at this
                 exact this
               · cases h
             · cases h
     · cases h
 · cases h
end
end Go.Rd
namespace Go.Rd
open Go.Rex Go.RowKit Go.Rt
def stU (cf:Cf) (t:TypeId) (cc g:Nat) (e:LE) (o:Nat) (v:SV) (s:SS) (K:SS->R):R:=match cellsS v with
 | some l=>bif cf.Φ.uni cc&&((cf.P.info? t).isSome&&(Nat.beq (szOf cf.P t) l.length&&Nat.ble (o+l.length) (cf.Φ.ks cc).length)) then
   (match chkL cf s g (ghost s.gs g) e (((cf.Φ.ks cc).drop o).take l.length) l with
    | some os=>bif osOk s os o l.length (cf.Φ.ks cc).length then K s else .bad 200 s
    | none=>.bad 201 s)
   else .bad 202 s
 | none=>.bad 203 s
def blD (s:SS) (m:Nat) (e:LE):Nat:=match lkPw s.pw m e,lkPw s.pw m (e.addc 1) with
 | some p,some q=>bif q.same (p.addc 2) then 1 else 0
 | _,_=>0
def stB (cf:Cf) (t:TypeId) (y m:Nat) (el:TypeId) (osA:List SO) (e:LE) (v:SV) (s:SS) (K:SS->R):R:=match v with
 | .v false [.bool (.k true)]=>bif (cf.P.info? t).isSome&&(Nat.beq (szOf cf.P t) 1&&(osA.all (SO.lt s.nx)&&(Nat.blt y s.nx&&Nat.blt m s.nx))) then
   fresh s fun x s'=>K (addF (eqF (setO s' (osA++[.bl y x el])) (.a (.len x)) (.a (.len m))) (((LE.a (.wt m)).sub (.a (.wt x))).addc (-(blD s m e:Nat))))
   else .bad 204 s
 | _=>.bad 205 s
def sto2 (cf:Cf) (t:TypeId) (x v:SV) (s:SS) (K:SS->R):R:=match x with
 | .v false [.elp y e sz o]=>(match rmSO (fun w=>isUl y w||isBl y w) s.os with
   | some (.ul _ cc g,osA)=>bif inO s (.ul cc g) y e&&Nat.beq sz (szOf cf.P (cf.Φ.ty cc)) then stU cf t cc g e o v s K else .bad 206 s
   | some (.bl _ m el,osA)=>bif inO s (.bl m el) y e&&(Nat.beq sz 1&&Nat.beq o 0) then stB cf t y m el osA e v s K else .bad 207 s
   | _=>sto cf t x v s K)
 | _=>sto cf t x v s K
section
variable {c:Cx} {T:Tm} {G:GH} {Γ:Gam} {ρ ρ':Rho} {s s':SS} {cf:Cf} {ops:Array Oper} {i d:Nat}
theorem inO_ok' {w:OwD} {y:Nat} {e:LE} (hw:w.so y∈s.os) (h:inO s w y e=true) (hk:Ok c T G Γ ρ s):0<=e.ev ρ/\(e.ev ρ).toNat<(ρ (w.ln y)).ns.length:=by
 unfold inO at h
 rw [Bool.and_eq_true] at h
 have e1:=ent_ok h.1 hk.sat
 have e2:=ent_ok h.2 hk.sat
 rw [LE.ev_addc,LE.ev_sub,LE.ev_a] at e2
 have e2:0<=((ρ (w.ln y)).ns.length:Int)-e.ev ρ+-1:=e2
 exact⟨e1,by omega⟩
theorem set_sum:∀{l:List Nat} {k:Nat} (h:k<l.length),(l.set k 0).sum+l[k]=l.sum
 | a::l,0,_=>by simp; omega
 | a::l,k+1,h=>by
   have:=set_sum (l:=l) (k:=k) (by simpa using h)
   simp only [List.set_cons_succ,List.sum_cons,List.getElem_cons_succ]
   omega
theorem blD_ok {m:Nat} {e:LE} (hs:Sat ρ s) (he:0<=e.ev ρ) (hlt:(e.ev ρ).toNat<(ρ m).ns.length):blD s m e<=(ρ m).ns[(e.ev ρ).toNat]:=by
 unfold blD
 split
 · rename_i p q h1 h2
   cases hb:q.same (p.addc 2) with
   | false=>exact Nat.zero_le _
   | true =>
     show 1<=_
     obtain⟨e1,m1,m2⟩:=lkPw_ok h1
     obtain⟨e2,m3,m4⟩:=lkPw_ok h2
     have a1:=(hs.pw _ m1).2
     have a2:=(hs.pw _ m3).2
     have a1:((((ρ m).ns.take (e1.ev ρ).toNat).sum:Nat):Int)+e1.ev ρ=p.ev ρ:=a1
     have a2:((((ρ m).ns.take (e2.ev ρ).toNat).sum:Nat):Int)+e2.ev ρ=q.ev ρ:=a2
     rw [m2 ρ] at a1
     rw [m4 ρ,LE.ev_addc,LE.same_ok hb ρ,LE.ev_addc,show (e.ev ρ+1).toNat=(e.ev ρ).toNat+1 by omega] at a2
     have hsum:((ρ m).ns.take ((e.ev ρ).toNat+1)).sum=((ρ m).ns.take (e.ev ρ).toNat).sum+(ρ m).ns[(e.ev ρ).toNat]:=by
      rw [List.take_add_one,List.getElem?_eq_getElem hlt,List.sum_append]; simp
     omega
 · exact Nat.zero_le _
theorem sto2_ok {t:TypeId} {x:Nat} {y:Operand} {u v:SV} {K:SS->R} (ho:(opAt ops i).op=.store t (.tmp x) y) (hg:(opAt ops i).guard=none) (hd:(opAt ops i).dst=none) (hP:cf.P=c.P) (hΦ:cf.Φ=c.Φ) (h:(sto2 cf t u v s K).Ok) (hk:Ok c T G Γ ρ s) (hx:T.at x=u.den ρ) (hy:EvA c.nt T y (v.den ρ)):Hv c T G Γ ops i s ρ K:=by
 unfold sto2 at h
 split at h
 · rename_i q e sz o
   split at h
   · rename_i q' cc g osA hr
     obtain⟨r1,r2⟩:=rmSO_ok hr
     have hq':q'=q:=by
      have r1:(isUl q (.ul q' cc g)||false)=true:=r1
      rw [Bool.or_false] at r1
      exact beq_ok r1
     subst hq'
     rw [hP,hΦ] at h
     cases hb:(inO s (.ul cc g) q' e&&Nat.beq sz (szOf c.P (c.Φ.ty cc))) with
     | false=>rw [hb] at h; cases h
     | true =>
       rw [hb] at h
       simp only [cond_true] at h
       rw [Bool.and_eq_true] at hb
       have hmem:SO.ul q' cc g∈s.os:=r2.mem_iff.2 (by simp)
       obtain⟨a1,a2⟩:=inO_ok' (w:=.ul cc g) hmem hb.1 hk
       have a2:(e.ev ρ).toNat<(ρ q').ns.length:=a2
       have hsz:=beq_ok hb.2
       subst hsz
       unfold stU at h
       rw [hP,hΦ] at h
       cases hc:cellsS v with
       | none=>rw [hc] at h; cases h
       | some l =>
         rw [hc] at h
         simp only at h
         cases hb1:(c.Φ.uni cc&&((c.P.info? t).isSome&&(Nat.beq (szOf c.P t) l.length&&Nat.ble (o+l.length) (c.Φ.ks cc).length))) with
         | false=>rw [hb1] at h; cases h
         | true =>
           rw [hb1] at h
           simp only [cond_true] at h
           simp only [Bool.and_eq_true] at hb1
           obtain⟨b1,b2,b3,b4⟩:=hb1
           have b3:=beq_ok b3
           have b4:=ble_ok b4
           cases hcl:chkL cf s g (ghost s.gs g) e (((c.Φ.ks cc).drop o).take l.length) l with
           | none=>rw [hcl] at h; cases h
           | some os =>
             rw [hcl] at h
             simp only at h
             cases hos:osOk s os o l.length (c.Φ.ks cc).length with
             | false=>rw [hos] at h; cases h
             | true =>
               rw [hos] at h
               have h:(K s).Ok:=h
               have hos:=osOk_ok hos hk.sat
               have hown:=hk.own hmem
               obtain⟨o1,o2,o3⟩:_/\_/\_:=hown
               rcases o3 with ⟨_,h0⟩ | ⟨b,cap,size,C,k1,k2,k3,k4,k5,k6,k7⟩
               · have h0:(ρ q').ns.length=0:=h0
                 omega
               · have k4:C.length=(ρ q').ns.length*szOf c.P (c.Φ.ty cc):=k4
                 have k7:∀j,j<(ρ q').ns.length->ElOk c.P c.Φ G Γ WU cc (ig ρ g) j ((C.drop (j*szOf c.P (c.Φ.ty cc))).take (szOf c.P (c.Φ.ty cc))):=k7
                 have e2:=cellsS_ok hc ρ
                 have hll:(denL ρ l).length=l.length:=by simp [denL]
                 obtain⟨fl,c1,c2,c3⟩:=chkL_ok hΦ hk (fun dv h=>ghost_ok h hk) ⟨a1,rfl⟩ hcl
                 have h1:((e.ev ρ).toNat+1)*szOf c.P (c.Φ.ty cc)<=(ρ q').ns.length*szOf c.P (c.Φ.ty cc):=Nat.mul_le_mul_right _ a2
                 rw [Nat.succ_mul] at h1
                 obtain⟨fs0,w1,w2,w3⟩:=k7 _ a2
                 have hks:(c.Φ.ks cc).length=szOf c.P (c.Φ.ty cc):=by
                  rw [<-w1.len,List.length_take,List.length_drop]; omega
                 have hx':T.at x=.rpt b ((e.ev ρ).toNat*szOf c.P (c.Φ.ty cc)+o):=hx.trans (elp_den k1)
                 have hfit:(e.ev ρ).toNat*szOf c.P (c.Φ.ty cc)+o+l.length<=C.length:=by omega
                 refine StG.storeD (fun e=>by cases e) hg hd ho hx' hy b2 rfl (by rw [e2,hll,b3]) (by rw [e2]; exact denL_flat _ _) (by rw [e2]; exact denL_nf _ _) k3 (by rw [b3]; exact hfit) ⟨rfl,rfl,Γ,ρ,s,h,Agr.refl _ _,Nat.le_refl _,hk.sat,?_⟩
                 rw [e2,putL_spl]
                 have hpd:=perm_den r2 ρ
                 rw [List.map_append,List.map_singleton] at hpd
                 have hQ:=hk.q.chgO (b:=b) (G':=upd G b (.cells .data (c.Φ.ty cc) size (spl ((e.ev ρ).toNat*szOf c.P (c.Φ.ty cc)+o) (denL ρ l) C))) (Γ':=Γ) (osA:=osA.map (SO.den ρ)) (o:=SO.den ρ (.ul q' cc g)) (o':=SO.den ρ (.ul q' cc g)) (tys':=[]) hpd (grow_upd (.inl (by rw [k3]; rfl))) (fun _ _=>rfl) (fun k h=>upd_ne h) (by rw [upd_same]; rfl)
                  (fun _ _ _ h=>by rw [k3] at h; cases h) (fun _ _ _ h=>by rw [k3] at h; cases h; exact⟨_,upd_same _ _ _⟩) (fun x h=>by rw [k2] at h; cases h) rfl rfl (.inl (by show slBlk (ρ q').vv=_; rw [k1]; rfl)) (by show slBlk (ρ q').vv=_; rw [k1]; rfl) (fun x _ _ h=>by rw [k2] at h; cases h)
                  (fun hr' hl'=>⟨o1,o2,.inr ⟨b,cap,size,_,k1,k2,upd_same _ _ _,by rw [spl_len (by rw [hll]; exact hfit)]; exact k4,k5,k6,fun j hj=>by
                   rw [el_spl k4 a2 (by rw [hll]; omega)]
                   by_cases ek:j=(e.ev ρ).toNat
                   · subst ek
                     rw [if_pos rfl]
                     obtain⟨fs',p1,p2,p3,p4⟩:=wts_put (o:=o) w1 (l:=denL ρ l) (by rw [hll]; exact c1) (by rw [hll]; exact b4)
                     refine ElOk.le ⟨fs',p1,?_,fun f hf=>(p3 f hf).elim (w3 f) (c3 f)⟩ hr' hl' o1
                     rcases hos with rfl | ⟨ho0,hlk,hW⟩
                     · rw [sumW,LE.ev_k] at c2
                       have:wgt c.Φ fl=0:=by omega
                       omega
                     · have:=p4 ⟨ho0,by rw [hll]; exact hlk⟩
                       rw [this]
                       omega
                   · rw [if_neg ek]
                     exact (k7 j hj).le hr' hl' o1⟩⟩) (fun f h=>by cases h)
                 exact hQ.weak (fun _ _ h=>h) ⟨[],by rw [List.append_nil]; exact hpd.symm⟩ (fun f h=>h) (fun p h=>h)
   · rename_i q' m el osA hr
     obtain⟨r1,r2⟩:=rmSO_ok hr
     have hq':q'=q:=by
      have r1:(false||isBl q (.bl q' m el))=true:=r1
      rw [Bool.false_or] at r1
      exact beq_ok r1
     subst hq'
     cases hb:(inO s (.bl m el) q' e&&(Nat.beq sz 1&&Nat.beq o 0)) with
     | false=>rw [hb] at h; cases h
     | true =>
       rw [hb] at h
       simp only [cond_true] at h
       simp only [Bool.and_eq_true] at hb
       have hmem:SO.bl q' m el∈s.os:=r2.mem_iff.2 (by simp)
       obtain⟨a1,a2⟩:=inO_ok' (w:=.bl m el) hmem hb.1 hk
       have a2:(e.ev ρ).toNat<(ρ m).ns.length:=a2
       have h1:=beq_ok hb.2.1
       have h2:=beq_ok hb.2.2
       subst h1 h2
       unfold stB at h
       rw [hP] at h
       split at h
       · cases hb1:((c.P.info? t).isSome&&(Nat.beq (szOf c.P t) 1&&(osA.all (SO.lt s.nx)&&(Nat.blt q' s.nx&&Nat.blt m s.nx)))) with
         | false=>rw [hb1] at h; cases h
         | true =>
           rw [hb1] at h
           simp only [cond_true] at h
           simp only [Bool.and_eq_true] at hb1
           obtain⟨b1,b2,b3,b4,b5⟩:=hb1
           have b2:=beq_ok b2
           have hown:=hk.own hmem
           obtain⟨o1,o2,b,size,k1,k2,k3⟩:=hown
           have hx':T.at x=.rpt b (e.ev ρ).toNat:=(hx.trans (elp_den k1)).trans (by rw [Nat.mul_one,Nat.add_zero])
           have hone:((SV.v false [SC.bool (.k true)]).den ρ).cells=[.bool true]:=rfl
           refine StG.storeD (fun e=>by cases e) hg hd ho hx' hy b1 rfl (by rw [hone,b2]; rfl) rfl (by rw [hone]; exact nfL_cons (nf_bool _) nfL_nil) k3 (by rw [b2,List.length_map]; omega) ⟨rfl,rfl,Γ,?_⟩
           rw [hone]
           have hput:putL ((ρ m).ns.map (fun m=>AV.bool (Nat.beq m 0))) (e.ev ρ).toNat [.bool true]=((ρ m).ns.set (e.ev ρ).toNat 0).map (fun m=>AV.bool (Nat.beq m 0)):=by
            rw [List.map_set]
            have hl:(e.ev ρ).toNat<((ρ m).ns.map (fun m=>AV.bool (Nat.beq m 0))).length:=by rw [List.length_map]; exact a2
            rw [List.set_eq_take_append_cons_drop,if_pos hl]
            show _++[_]++_=_
            rw [List.append_assoc]; rfl
           rw [hput]
           have hlim:((ρ m).ns.set (e.ev ρ).toNat 0).length<=LIM:=by rw [List.length_set]; exact o1
           obtain⟨p1,p2,p3,p4⟩:=fresh_ok h hk (.v .nils ((ρ m).ns.set (e.ev ρ).toNat 0))
           generalize hU:U.v .nils ((ρ m).ns.set (e.ev ρ).toNat 0)=uu at p1 p2 p3 p4
           have hn':(ρ.up s.nx uu s.nx).ns=(ρ m).ns.set (e.ev ρ).toNat 0:=by rw [p4,<-hU]; exact U.ns_of hlim
           have eD:=(SS.agr (fresh_s h) p2).1
           have hpd:=perm_den r2 ρ
           rw [List.map_append,List.map_singleton] at hpd
           have hQ:=hk.q.chgO (b:=b) (G':=upd G b (.cells .data el size (((ρ m).ns.set (e.ev ρ).toNat 0).map (fun m=>AV.bool (Nat.beq m 0))))) (Γ':=Γ) (osA:=osA.map (SO.den ρ)) (o:=SO.den ρ (.bl q' m el)) (o':=.bl (ρ q').vv el ((ρ m).ns.set (e.ev ρ).toNat 0)) (tys':=[]) hpd (grow_upd (.inl (by rw [k3]; rfl))) (fun _ _=>rfl) (fun k h=>upd_ne h) (by rw [upd_same]; rfl)
            (fun _ _ _ h=>by rw [k3] at h; cases h) (fun _ _ _ h=>by rw [k3] at h; cases h; exact⟨_,upd_same _ _ _⟩) (fun x h=>by rw [k2] at h; cases h) rfl rfl (.inl (by show slBlk (ρ q').vv=_; rw [k1]; rfl)) (by show slBlk (ρ q').vv=_; rw [k1]; rfl) (fun x _ _ h=>by rw [k2] at h; cases h)
            (fun hr' hl'=>⟨hlim,fun z hz=>by
             rcases List.mem_or_eq_of_mem_set hz with hz | rfl
             · exact o2 z hz
             · exact Nat.zero_le _,b,size,by rw [List.length_set]; exact k1,k2,upd_same _ _ _⟩) (fun f h=>by cases h)
           refine⟨ρ.up s.nx uu,_,p1,p2,Nat.le_succ _,?_⟩
           have eO:osA.map (SO.den (ρ.up s.nx uu))=osA.map (SO.den ρ):=List.map_congr_left fun o ho=>SO.agr p2 (List.all_eq_true.1 b3 o ho)
           have hbase:Ok c T (upd G b (.cells .data el size (((ρ m).ns.set (e.ev ρ).toNat 0).map (fun m=>AV.bool (Nat.beq m 0))))) Γ (ρ.up s.nx uu) (setO (bump s) (osA++[.bl q' s.nx el])):=by
            refine⟨⟨p3.sat.fs,p3.sat.bs,p3.sat.pw,p3.sat.ats,p3.sat.fls,p3.sat.ne,p3.sat.fz,p3.sat.sb⟩,?_⟩
            have:(setO (bump s) (osA++[.bl q' s.nx el])).den (ρ.up s.nx uu)=⟨(s.den ρ).L,osA.map (SO.den ρ)++[.bl (ρ q').vv el ((ρ m).ns.set (e.ev ρ).toNat 0)],(s.den ρ).tys,(s.den ρ).gs⟩:=by
             refine St.ext' (by have:=congrArg St.L eD; exact this) ?_ (by have:=congrArg St.tys eD; exact this) (by have:=congrArg St.gs eD; exact this)
             show (osA++[SO.bl q' s.nx el]).map (SO.den _)=_
             rw [List.map_append,eO,List.map_singleton]
             simp only [SO.den]; rw [hn',p2 q' (blt_ok b4)]
            rw [this]
            exact hQ.weak (fun _ _ h=>h) ⟨[],by rw [List.append_nil]⟩ (fun f h=>h) (fun p h=>h)
           have hm2:=p2 m (blt_ok b5)
           refine (hbase.eqF ?_).addF ?_
           · rw [LE.ev_a,LE.ev_a]
             show (((ρ.up s.nx uu s.nx).ns.length:Nat):Int)=(((ρ.up s.nx uu m).ns.length:Nat):Int)
             rw [hn',hm2,List.length_set]
           · rw [LE.ev_addc,LE.ev_sub,LE.ev_a,LE.ev_a]
             show 0<=(((ρ.up s.nx uu m).ns.sum+(ρ.up s.nx uu m).ns.length:Nat):Int)-(((ρ.up s.nx uu s.nx).ns.sum+(ρ.up s.nx uu s.nx).ns.length:Nat):Int)+_
             rw [hn',hm2,List.length_set]
             have h5:=set_sum a2
             have h6:=blD_ok (s:=s) (m:=m) (e:=e) hk.sat a1 a2
             omega
       · cases h
   · exact sto_ok ho hg hd hP hΦ h hk hx hy
 · exact sto_ok ho hg hd hP hΦ h hk hx hy
end
end Go.Rd
namespace Go.Rd
open Go.Rex Go.RowKit Go.Rt
theorem putA_mem2 {k v:AV}:∀{es:List (AV × AV)} {p:AV × AV},p∈putA k v es->p∈es∨(p.2=v/\(p.1=k∨keyEq k p.1=true))
 | [],p,h=>by rw [List.mem_singleton.1 h]; exact .inr ⟨rfl,.inl rfl⟩
 | q::es,p,h=>by
   have h:p∈(bif keyEq k q.1 then (q.1,v)::es else q::putA k v es):=h
   cases hb:keyEq k q.1 with
   | true =>
     rw [hb] at h
     rcases List.mem_cons.1 h with rfl | h
     · exact .inr ⟨rfl,.inr hb⟩
     · exact .inl (List.mem_cons_of_mem _ h)
   | false =>
     rw [hb] at h
     rcases List.mem_cons.1 h with rfl | h
     · exact .inl (List.mem_cons_self ..)
     · exact (putA_mem2 h).imp_left (List.mem_cons_of_mem _)
theorem findA_eq {pk:KK} {x k:AV} (hx:KeyF pk x) (hk:KeyF pk k) (h:keyEq x k=true):∀{es:List (AV × AV)},(∀p∈es,KeyF pk p.1)->findA x es=findA k es
 | [],_=>rfl
 | p::es,h0=>by
   show (bif keyEq x p.1 then some p.2 else findA x es)=(bif keyEq k p.1 then some p.2 else findA k es)
   rw [keyEq_trans hx hk (h0 p (List.mem_cons_self ..)) h,findA_eq hx hk h fun q hq=>h0 q (List.mem_cons_of_mem _ hq)]
def isMp (b:Nat):SO->Bool | .im y _=>Nat.beq y b | .am y _ _=>Nat.beq y b | _=>false
def noAm:SO->Bool | .am _ _ _=>false | _=>true
def ghostW:List (Nat × Nat × Bool)->Nat->Option Nat
 | [],_=>none
 | p::l,g=>bif Nat.beq p.1 g&&p.2.2 then some p.2.1 else ghostW l g
theorem ghostW_mem:∀{l:List (Nat × Nat × Bool)} {g d:Nat},ghostW l g=some d->(g,d,true)∈l
 | [],g,d,h=>by cases h
 | p::l,g,d,h=>by
   have h:(bif Nat.beq p.1 g&&p.2.2 then some p.2.1 else ghostW l g)=some d:=h
   cases hb:(Nat.beq p.1 g&&p.2.2) with
   | true =>
     rw [hb] at h; cases h
     rw [Bool.and_eq_true] at hb
     have:=beq_ok hb.1
     subst this
     have e:p=(p.1,p.2.1,true):=by rw [<-hb.2]
     rw [<-e]; exact List.mem_cons_self ..
   | false=>rw [hb] at h; exact List.mem_cons_of_mem _ (ghostW_mem h)
def gsKeep (s:SS):List (Nat × Nat × Bool):=s.gs.filter fun p=>s.fz.contains p.2.1
def eqN (s:SS) (d d':Nat):List Nat->SS
 | []=>s
 | k::ks=>eqF (eqN s d d' ks) (.a (.gn d' k)) (.a (.gn d k))
def sbOf:List (Nat × Nat)->Nat->Nat->List (Nat × Nat)
 | [],_,_=>[]
 | p::l,d,d'=>bif Nat.beq p.1 d then (d',p.2)::sbOf l d d' else sbOf l d d'
def newD (s:SS) (g d':Nat) (w:Bool) (os:List SO) (ats:List (Nat × SC × LE)) (fls:List (Nat × LE × LE)) (fz:List Nat) (sb:List (Nat × Nat)):SS:=⟨s.nx,s.L,os,s.ty,(g,d',w)::gsKeep s,s.fs,s.bs,s.pw,ats++s.ats,fls++s.fls,s.ne,fz++s.fz,sb++s.sb⟩
def atsOf (s:SS) (d d':Nat):List (Nat × SC × LE):=(s.ats.filter fun p=>Nat.beq p.1 d&&ent s p.2.2).map fun p=>(d',p.2.1,p.2.2)
def huA (cf:Cf) (b g q:Nat) (osA:List SO) (k v:SV) (s:SS) (K:SS->R):R:=match ghostW s.gs g,k,v with
 | some d,.v false [x],.v false [.int kd e]=>(match lkAt s.ats d x with
   | some ea=>bif ent s ((LE.k (-1)).sub ea)&&(isI64 kd&&(ent s e&&(ent s (((LE.a (.gn d q)).sub e).addc (-1))&&(x.lt s.nx&&(e.lt s.nx&&(Nat.blt d s.nx&&(igLt s.nx g&&(Nat.blt b s.nx&&(osA.all noAm&&osA.all (SO.lt s.nx)))))))))) then
     fresh s fun d' s'=>K (eqN (newD s' g d' true (osA++[.am b g q]) ((d',x,e)::atsOf s d d') [] [] (sbOf s.sb d d')) d d' [0,1,2,3,4,5])
     else .bad 210 s
   | none=>.bad 211 s)
 | _,_,_=>.bad 212 s
def hmu (cf:Cf) (t:TypeId) (m k v:SV) (s:SS) (K:SS->R):R:=match cf.P.underlying t with
 | some (.map kt et)=>(match m with
   | .v false [.ref y]=>(match fMp s.ty y with
     | some (cc,g)=>bif keyT cf kt (cf.Φ.pk cc)&&keyS (cf.Φ.pk cc) k then
       (match cf.Φ.mv cc,v,k with
        | .kd kd,.v false [x],_=>(match chkK cf s g (ghost s.gs g) (.k 0) kd x with | some _=>K s | none=>.bad 213 s)
        | .unit,.v true [],_=>K s
        | .fiv,.v false [.int kd e],.v true [x,_]=>(match ghost s.gs g with
          | some d=>(match lkAt s.ats d x with
            | some j=>(match lkFl s.fls d j with
              | some f=>bif isI64 kd&&(ent s j&&(ent s e&&(ent s ((f.sub e).addc (-1))&&s.fz.contains d))) then K s else .bad 214 s
              | none=>.bad 215 s)
            | none=>.bad 216 s)
          | none=>.bad 217 s)
        | _,_,_=>.bad 218 s)
       else .bad 219 s
     | none=>.bad 220 s)
   | .v false [.rmp b]=>bif keyT cf kt .str&&keyS .str k then (match rmSO (isMp b) s.os with
     | some (.im _ e0,osA)=>(match v with
       | .v false [.int kd e]=>bif isI64 kd&&ent s e then
         (bif ent s ((e0.sub e).addc (-1)) then K (setO s (osA++[.im b e0])) else bif ent s ((e.addc 1).sub e0) then K (setO s (osA++[.im b (e.addc 1)])) else .bad 221 s)
         else .bad 222 s
       | _=>.bad 223 s)
     | some (.am _ g q,osA)=>huA cf b g q osA k v s K
     | _=>.bad 224 s) else .bad 225 s
   | _=>.bad 226 s)
 | _=>.bad 227 s
section
variable {c:Cx} {T:Tm} {G:GH} {Γ:Gam} {ρ ρ':Rho} {s s':SS} {cf:Cf} {ops:Array Oper} {i d:Nat}
theorem eqN_ok {dd dn:Nat}:∀{ks:List Nat},Ok c T G Γ ρ s->(∀k,(ρ dn).gg.n k=(ρ dd).gg.n k)->Ok c T G Γ ρ (eqN s dd dn ks)
 | [],h,_=>h
 | k::ks,h,hn=>(eqN_ok (ks:=ks) h hn).eqF (by rw [LE.ev_a,LE.ev_a]; show (((ρ dn).gg.n k:Nat):Int)=(((ρ dd).gg.n k:Nat):Int); rw [hn])
theorem sbOf_ok {dd dn:Nat} (hs:(ρ dn).gg.sub=(ρ dd).gg.sub):∀{l:List (Nat × Nat)},(∀p∈l,(ρ p.1).gg.sub=ig ρ p.2)->∀p∈sbOf l dd dn,(ρ p.1).gg.sub=ig ρ p.2
 | [],_,_,h=>by cases h
 | q::l,h0,p,h=>by
   have h:p∈(bif Nat.beq q.1 dd then (dn,q.2)::sbOf l dd dn else sbOf l dd dn):=h
   cases hb:Nat.beq q.1 dd with
   | true =>
     rw [hb] at h
     have e:=beq_ok hb
     rcases List.mem_cons.1 h with rfl | h
     · have:=h0 q (List.mem_cons_self ..)
       rw [e] at this
       show (ρ dn).gg.sub=_
       rw [hs]; exact this
     · exact sbOf_ok hs (fun p hp=>h0 p (List.mem_cons_of_mem _ hp)) p h
   | false=>rw [hb] at h; exact sbOf_ok hs (fun p hp=>h0 p (List.mem_cons_of_mem _ hp)) p h
theorem gsKeep_ne {g:Nat} (hk:Ok c T G Γ ρ s) {p:Nat × Nat × Bool} (hp:p∈gsKeep s) (hg:(Γ.gd g).fz=false):p∈s.gs/\ig ρ p.1≠g:=by
 obtain⟨h1,h2⟩:=List.mem_filter.1 hp
 refine⟨h1,fun e=>?_⟩
 have h3:=hk.sat.fz p.2.1 (List.contains_iff_mem.1 h2)
 have:=(hk.q.gs (ig ρ p.1,(ρ p.2.1).gg,p.2.2) (List.mem_map.2 ⟨p,h1,rfl⟩)).2.1
 have this:Γ.gd (ig ρ p.1)=(ρ p.2.1).gg:=this
 rw [e] at this
 rw [<-this,hg] at h3
 cases h3
theorem hu_same {t kt et:TypeId} {ym yk yv:Operand} {y cc g:Nat} {k v:SV} {pk:KK} {K:SS->R} (ho:(opAt ops i).op=.mapUpdate t ym yk yv) (hg:(opAt ops i).guard=none) (hd:(opAt ops i).dst=none) (hu:c.P.underlying t=some (.map kt et)) (hM:MapT c.P kt (c.Φ.pk cc)) (hk:Ok c T G Γ ρ s) (hm:EvA c.nt T ym (ρ y).vv) (hkk:EvA c.nt T yk (k.den ρ)) (hv:EvA c.nt T yv (v.den ρ)) (hf:fMp s.ty y=some (cc,g)) (hks:KeyF (c.Φ.pk cc) (k.den ρ)) (hK:(K s).Ok)
  (hok:∀es,MapOk c.P c.Φ G Γ cc (ig ρ g) es->MapOk c.P c.Φ G Γ cc (ig ρ g) (putA (k.den ρ) (v.den ρ) es)):Hv c T G Γ ops i s ρ K:=by
 obtain⟨b,q1,q2⟩:=hk.ty (fMp_mem hf)
 obtain⟨g0,es,r1,r2,r3⟩:=hk.q.ht.b _ _ q2
 have q1:(ρ y).vv=.rmp b:=q1
 rw [q1] at hm
 have hnf:nf (v.den ρ):=sv_nf v ρ
 refine StG.mapUpd hg hd ho hu hM hm hkk hv hks hnf r1 r3.1 ⟨rfl,rfl,updΓ Γ b (.map cc (ig ρ g)),ρ,s,hK,Agr.refl _ _,Nat.le_refl _,hk.sat,?_⟩
 have hQ:=hk.q.chgT (x:=.map cc (ig ρ g)) (y:=.map cc (ig ρ g)) (tys':=[]) (g':=.map (putA (k.den ρ) (v.den ρ) es)) q2 rfl (DsLe.refl _) (fun el size C h=>by rw [r1] at h; cases h)
  (fun hr hl=>⟨g0,_,upd_same _ _ _,fun p hp=>by
   rcases putA_mem hp with h | h
   · rw [h]; exact hnf
   · exact r2 p h,(hok es r3).le hr hl rfl⟩) (fun f h=>by cases h)
 exact hQ.weak (fun _ _ h=>h) ⟨[],by simp⟩ (fun f h=>h) (fun p h=>h)
theorem hmu_ok {t:TypeId} {ym yk yv:Operand} {m k v:SV} {K:SS->R} (ho:(opAt ops i).op=.mapUpdate t ym yk yv) (hg:(opAt ops i).guard=none) (hd:(opAt ops i).dst=none) (hP:cf.P=c.P) (hΦ:cf.Φ=c.Φ) (hK:KeysOk cf) (h:(hmu cf t m k v s K).Ok) (hk:Ok c T G Γ ρ s) (hm:EvA c.nt T ym (m.den ρ)) (hkk:EvA c.nt T yk (k.den ρ)) (hv:EvA c.nt T yv (v.den ρ)):Hv c T G Γ ops i s ρ K:=by
 unfold hmu at h
 split at h
 · rename_i kt et hu
   rw [hP] at hu
   split at h
   · rename_i y
     split at h
     · rename_i cc g hf
       rw [hΦ] at h
       cases hb:(keyT cf kt (c.Φ.pk cc)&&keyS (c.Φ.pk cc) k) with
       | false=>rw [hb] at h; cases h
       | true =>
         rw [hb] at h
         simp only [cond_true] at h
         rw [Bool.and_eq_true] at hb
         have hMt:=keyT_ok hb.1 hK
         rw [hP] at hMt
         have hkf:=keyS_ok hb.2 ρ
         split at h
         · rename_i kd x _ hmv
           split at h
           · rename_i o hc
             obtain⟨fs,c1,c2,c3⟩:=chkK_ok hc hΦ hk (fun dv h=>ghost_ok h hk) (J:=0) (by rw [LE.ev_k]; exact⟨Int.le_refl _,rfl⟩)
             refine hu_same (pk:=c.Φ.pk cc) ho hg hd hu hMt hk hm hkk hv hf hkf h fun es hes=>?_
             obtain⟨h1,h2⟩:=hes
             refine⟨putA_key hkf h1,?_⟩
             rw [hmv] at h2 ⊢
             intro p hp
             rcases putA_mem hp with h | h
             · rw [h]; exact⟨fs,c1,c3⟩
             · exact h2 p h
           · cases h
         · rename_i _ hmv
           refine hu_same (pk:=c.Φ.pk cc) ho hg hd hu hMt hk hm hkk hv hf hkf h fun es hes=>?_
           obtain⟨h1,h2⟩:=hes
           refine⟨putA_key hkf h1,?_⟩
           rw [hmv] at h2 ⊢
           intro p hp
           rcases putA_mem hp with h | h
           · rw [h]; rfl
           · exact h2 p h
         · rename_i kd e x z hmv
           split at h
           · rename_i dd hgd
             split at h
             · rename_i j hj
               split at h
               · rename_i f hff
                 cases hb2:(isI64 kd&&(ent s j&&(ent s e&&(ent s ((f.sub e).addc (-1))&&s.fz.contains dd)))) with
                 | false=>rw [hb2] at h; cases h
                 | true =>
                   rw [hb2] at h
                   simp only [cond_true] at h
                   simp only [Bool.and_eq_true] at hb2
                   obtain⟨b1,b2,b3,b4,b5⟩:=hb2
                   have b1:=isI64_ok b1
                   subst b1
                   have e1:=ent_ok b2 hk.sat
                   have e2:=ent_ok b3 hk.sat
                   have e3:=ent_ok b4 hk.sat
                   rw [LE.ev_addc,LE.ev_sub] at e3
                   have hdd:=ghost_ok hgd hk
                   have hfz:=hk.sat.fz dd (List.contains_iff_mem.1 b5)
                   obtain⟨x',m1,m2⟩:=lkAt_ok hj
                   obtain⟨j',m3,m4⟩:=lkFl_ok hff
                   obtain⟨_,_,f3⟩:=hk.sat.fls _ m3
                   have f3:(((ρ dd).gg.fl (j'.ev ρ).toNat:Nat):Int)=f.ev ρ:=f3
                   rw [m4 ρ] at f3
                   obtain⟨a1,a2⟩:=(hk.sat.ats _ m1).resolve_right fun hr=>by
                    have hr:j.ev ρ<0:=hr.1
                    omega
                   have a2:atV (ρ dd).gg (x'.den ρ)=some (j.ev ρ).toNat:=a2
                   rw [m2 ρ] at a2
                   refine hu_same (pk:=c.Φ.pk cc) ho hg hd hu hMt hk hm hkk hv hf hkf h fun es hes=>?_
                   obtain⟨h1,h2⟩:=hes
                   refine⟨putA_key hkf h1,?_⟩
                   rw [hmv] at h2 ⊢
                   obtain⟨hpk,hz,hrs,hfi⟩:=h2
                   refine⟨hpk,hz,hrs,fun p hp=>?_⟩
                   rcases putA_mem2 hp with hp' | ⟨hp1,hp2⟩
                   · exact hfi p hp'
                   · have hpkey:=putA_key hkf h1 p hp
                     rw [hpk] at hkf hpkey
                     obtain⟨l,n,l',n',ek⟩:=hkf
                     obtain⟨pl,pn,pl',pn',ep⟩:=hpkey
                     have ek0:AV.agg [x.den ρ,z.den ρ]=.agg [.str l n,.str l' n']:=ek
                     have ex:x.den ρ=.str l n:=by injection ek0 with e; exact (List.cons.inj e).1
                     rw [ex] at a2
                     have a2:(ρ dd).gg.at_ l n=some (j.ev ρ).toNat:=a2
                     rw [hdd]
                     rw [hdd] at hrs
                     refine⟨pl,pn,pl',pn',(e.ev ρ).toNat,(j.ev ρ).toNat,ep,?_,hfz,?_,by omega⟩
                     · rw [hp1]; show AV.int .i64 (e.ev ρ)=_; congr 1; exact (Int.toNat_of_nonneg e2).symm
                     · rcases hp2 with hp2 | hp2
                       · rw [ep] at hp2
                         have hp2:AV.agg [.str pl pn,.str pl' pn']=.agg [x.den ρ,z.den ρ]:=hp2
                         rw [ek0] at hp2
                         injection hp2 with e0
                         have:=(List.cons.inj e0).1
                         injection this with e4 e5
                         subst e4 e5
                         exact a2
                       · rw [ep] at hp2
                         have hp2:keyEq (.agg [x.den ρ,z.den ρ]) (.agg [.str pl pn,.str pl' pn'])=true:=hp2
                         rw [ek0] at hp2
                         have hp2:(strEq l n pl pn&&strEq l' n' pl' pn')=true:=hp2
                         rw [Bool.and_eq_true] at hp2
                         rw [<-hrs l n pl pn hp2.1]; exact a2
               · cases h
             · cases h
           · cases h
         · cases h
     · cases h
   · rename_i b
     cases hb:(keyT cf kt .str&&keyS .str k) with
     | false=>rw [hb] at h; cases h
     | true =>
       rw [hb] at h
       simp only [cond_true] at h
       rw [Bool.and_eq_true] at hb
       have hMt:=keyT_ok hb.1 hK
       rw [hP] at hMt
       have hkf:=keyS_ok hb.2 ρ
       have hm:EvA c.nt T ym (.rmp (ρ b).nn):=hm
       have hnf:nf (v.den ρ):=sv_nf v ρ
       split at h
       · rename_i b' e0 osA hr
         obtain⟨r1,r2⟩:=rmSO_ok hr
         have hbb:b'=b:=beq_ok r1
         subst hbb
         obtain⟨o1,es,o2,o3⟩:=hk.own (r2.mem_iff.2 (by simp:SO.im b' e0∈osA++[.im b' e0]))
         have hpd:=perm_den r2 ρ
         rw [List.map_append,List.map_singleton] at hpd
         split at h
         · rename_i kd e
           cases hb2:(isI64 kd&&ent s e) with
           | false=>rw [hb2] at h; cases h
           | true =>
             rw [hb2] at h
             simp only [cond_true] at h
             rw [Bool.and_eq_true] at hb2
             have b1:=isI64_ok hb2.1
             subst b1
             have hpos:=ent_ok hb2.2 hk.sat
             have fin:∀en:LE,(K (setO s (osA++[.im b' en]))).Ok->(e0.ev ρ).toNat<=(en.ev ρ).toNat->(e.ev ρ).toNat<(en.ev ρ).toNat->Hv c T G Γ ops i s ρ K:=fun en hKn hle hlt=>by
              refine StG.mapUpd hg hd ho hu hMt hm hkk hv hkf hnf o2 (fun p hp=>(o3 p hp).1) ⟨rfl,rfl,Γ,ρ,_,hKn,Agr.refl _ _,Nat.le_refl _,⟨hk.sat.fs,hk.sat.bs,hk.sat.pw,hk.sat.ats,hk.sat.fls,hk.sat.ne,hk.sat.fz,hk.sat.sb⟩,?_⟩
              have hQ:=hk.q.chgO (b:=(ρ b').nn) (G':=upd G (ρ b').nn (.map (putA (k.den ρ) ((SV.v false [SC.int .i64 e]).den ρ) es))) (Γ':=Γ) (osA:=osA.map (SO.den ρ)) (o:=SO.den ρ (.im b' e0)) (o':=SO.den ρ (.im b' en)) (tys':=[]) hpd (grow_upd (.inl (by rw [o2]; rfl))) (fun _ _=>rfl) (fun k h=>upd_ne h) (by rw [upd_same]; rfl)
               (fun _ _ _ h=>by rw [o2] at h; cases h) (fun _ _ _ h=>by rw [o2] at h; cases h) (fun x h=>by rw [o1] at h; cases h) rfl rfl (.inl rfl) rfl (fun x _ _ h=>by rw [o1] at h; cases h)
               (fun hr' hl'=>⟨o1,_,upd_same _ _ _,fun p hp=>⟨putA_key hkf (fun p hp=>(o3 p hp).1) p hp,by
                rcases putA_mem hp with h | h
                · exact⟨(e.ev ρ).toNat,by rw [h]; show AV.int .i64 (e.ev ρ)=_; congr 1; exact (Int.toNat_of_nonneg hpos).symm,hlt⟩
                · obtain⟨_,n,h1,h2⟩:=o3 p h; exact⟨n,h1,by omega⟩⟩⟩) (fun f h=>by cases h)
              refine hQ.weak (fun _ _ h=>h) ⟨[],?_⟩ (fun f h=>h) (fun p h=>h)
              show List.Perm _ (((osA++[SO.im b' en]).map (SO.den ρ))++[])
              rw [List.append_nil,List.map_append,List.map_singleton]
             cases hc:ent s ((e0.sub e).addc (-1)) with
             | true =>
               rw [hc] at h
               have h2:=ent_ok hc hk.sat
               rw [LE.ev_addc,LE.ev_sub] at h2
               exact fin e0 h (Nat.le_refl _) (by omega)
             | false =>
               rw [hc] at h
               simp only [cond_false] at h
               cases hc2:ent s ((e.addc 1).sub e0) with
               | false=>rw [hc2] at h; cases h
               | true =>
                 rw [hc2] at h
                 have h2:=ent_ok hc2 hk.sat
                 rw [LE.ev_sub,LE.ev_addc] at h2
                 exact fin (e.addc 1) h (by rw [LE.ev_addc]; omega) (by rw [LE.ev_addc]; omega)
         · cases h
       · rename_i b' g q osA hr
         obtain⟨r1,r2⟩:=rmSO_ok hr
         have hbb:b'=b:=beq_ok r1
         subst hbb
         obtain⟨o1,o0,obd,es,o2,o3,o4⟩:=hk.own (r2.mem_iff.2 (by simp:SO.am b' g q∈osA++[.am b' g q]))
         have hpd:=perm_den r2 ρ
         rw [List.map_append,List.map_singleton] at hpd
         unfold huA at h
         split at h
         · rename_i dd x kd e hgw
           split at h
           · rename_i ea hat
             cases hb2:(ent s ((LE.k (-1)).sub ea)&&(isI64 kd&&(ent s e&&(ent s (((LE.a (.gn dd q)).sub e).addc (-1))&&(x.lt s.nx&&(e.lt s.nx&&(Nat.blt dd s.nx&&(igLt s.nx g&&(Nat.blt b' s.nx&&(osA.all noAm&&osA.all (SO.lt s.nx))))))))))) with
             | false=>rw [hb2] at h; cases h
             | true =>
               rw [hb2] at h
               simp only [cond_true] at h
               simp only [Bool.and_eq_true] at hb2
               obtain⟨b1,b2,b3,b4,b5,b6,b7,b8,b9,b10,b11⟩:=hb2
               have b2:=isI64_ok b2
               subst b2
               have e1:=ent_ok b1 hk.sat
               rw [LE.ev_sub,LE.ev_k] at e1
               have e2:=ent_ok b3 hk.sat
               have e3:=ent_ok b4 hk.sat
               rw [LE.ev_addc,LE.ev_sub,LE.ev_a] at e3
               have e3:0<=(((ρ dd).gg.n q:Nat):Int)-e.ev ρ+-1:=e3
               obtain⟨x',m1,m2⟩:=lkAt_ok hat
               obtain⟨_,a2⟩:=(hk.sat.ats _ m1).resolve_left fun hr=>by
                have hr:0<=ea.ev ρ:=hr.1
                omega
               have a2:atV (ρ dd).gg (x'.den ρ)=none:=a2
               rw [m2 ρ] at a2
               have hmemg:=ghostW_mem hgw
               have hgs:=hk.q.gs (ig ρ g,(ρ dd).gg,true) (List.mem_map.2 ⟨(g,dd,true),hmemg,rfl⟩)
               obtain⟨g1,g2,g3⟩:=hgs
               have g2:Γ.gd (ig ρ g)=(ρ dd).gg:=g2
               obtain⟨g3,g4,g5⟩:=g3 rfl
               have g4:(ρ dd).gg.fz=false:=g4
               obtain⟨lx,mx,ek⟩:=hkf
               have ex:x.den ρ=.str lx mx:=ek
               rw [ex] at a2
               have a2:(ρ dd).gg.at_ lx mx=none:=a2
               rw [g2] at obd o4
               -- the new ghost
               let dn:Gd:=⟨(ρ dd).gg.n,fun l m=>bif strEq l m lx mx then some (e.ev ρ).toNat else (ρ dd).gg.at_ l m,(ρ dd).gg.fl,false,(ρ dd).gg.sub⟩
               have hsame:∀l m,strEq l m lx mx=true->(ρ dd).gg.at_ l m=none:=fun l m hs=>by
                have h1:=o4 l m
                have h2:=o4 lx mx
                rw [findA_eq (pk:=.str) (x:=.str l m) (k:=.str lx mx) ⟨l,m,rfl⟩ ⟨lx,mx,rfl⟩ hs fun p hp=>(o3 p hp).1,h2,a2] at h1
                cases hc:(ρ dd).gg.at_ l m with
                | none=>rfl
                | some j=>rw [hc] at h1; cases h1
               have hle:(ρ dd).gg.Le dn:=by
                refine⟨fun k=>Nat.le_refl _,fun l m j hj=>?_,fun hz=>?_,rfl⟩
                · show (bif strEq l m lx mx then some (e.ev ρ).toNat else (ρ dd).gg.at_ l m)=some j
                  cases hs:strEq l m lx mx with
                  | true=>rw [hsame l m hs] at hj; cases hj
                  | false=>exact hj
                · rw [g4] at hz; cases hz
               refine StG.mapUpd hg hd ho hu hMt hm hkk hv ⟨lx,mx,ek⟩ hnf o2 (fun p hp=>(o3 p hp).1) ⟨rfl,rfl,updG Γ (ig ρ g) dn Γ.ng,?_⟩
               -- the map,exactly
               have hQ1:=hk.q.chgO (b:=(ρ b').nn) (G':=upd G (ρ b').nn (.map (putA ((SV.v false [x]).den ρ) ((SV.v false [SC.int .i64 e]).den ρ) es))) (Γ':=Γ) (osA:=osA.map (SO.den ρ)) (o:=SO.den ρ (.am b' g q)) (o':=.map (ρ b').nn .str (putA ((SV.v false [x]).den ρ) ((SV.v false [SC.int .i64 e]).den ρ) es)) (tys':=[]) hpd (grow_upd (.inl (by rw [o2]; rfl))) (fun _ _=>rfl) (fun k h=>upd_ne h) (by rw [upd_same]; rfl)
                (fun _ _ _ h=>by rw [o2] at h; cases h) (fun _ _ _ h=>by rw [o2] at h; cases h) (fun x h=>by rw [o1] at h; cases h) rfl rfl (.inl rfl) rfl (fun x _ _ h=>by rw [o1] at h; cases h)
                (fun hr' hl'=>⟨upd_same _ _ _,o1,putA_key (pk:=.str) ⟨lx,mx,ek⟩ fun p hp=>(o3 p hp).1⟩) (fun f h=>by cases h)
               have hnoam:∀b g' k',Own.am b g' k'∈osA.map (SO.den ρ)++[.map (ρ b').nn .str (putA ((SV.v false [x]).den ρ) ((SV.v false [SC.int .i64 e]).den ρ) es)]->False:=fun b g' k' hm=>by
                rcases List.mem_append.1 hm with hm | hm
                · obtain⟨o,h1,h2⟩:=List.mem_map.1 hm
                  have:=List.all_eq_true.1 b10 o h1
                  cases o<;>first | (cases h2; done) | skip
                  cases this
                · have:=List.mem_singleton.1 hm; cases this
               have hQ2:=hQ1.gset (g:=ig ρ g) (d0:=(ρ dd).gg) (dn:=dn) (w:=true) (gs':=(ig ρ g,dn,true)::(gsKeep s).map fun p=>(ig ρ p.1,(ρ p.2.1).gg,p.2.2)) (List.mem_map.2 ⟨(g,dd,true),hmemg,rfl⟩) hle (fun _=>rfl) (fun b g' k' hm=>(hnoam b g' k' hm).elim) (fun p hp=>by
                rcases List.mem_cons.1 hp with rfl | hp
                · exact .inl rfl
                · obtain⟨p0,h1,rfl⟩:=List.mem_map.1 hp
                  obtain⟨k1,k2⟩:=gsKeep_ne (g:=ig ρ g) hk h1 (by rw [g2]; exact g4)
                  exact .inr ⟨List.mem_map.2 ⟨p0,k1,rfl⟩,k2⟩)
               have hgdn:(updG Γ (ig ρ g) dn Γ.ng).gd (ig ρ g)=dn:=updG_same _ _ _ _
               have hown3:OwnOk c.P c.Φ (upd G (ρ b').nn (.map (putA ((SV.v false [x]).den ρ) ((SV.v false [SC.int .i64 e]).den ρ) es))) (updG Γ (ig ρ g) dn Γ.ng) (.am (ρ b').nn (ig ρ g) q):=by
                refine⟨o1,o0,?_,_,upd_same _ _ _,fun p hp=>⟨putA_key (pk:=.str) ⟨lx,mx,ek⟩ (fun p hp=>(o3 p hp).1) p hp,?_⟩,?_⟩
                · rw [hgdn]
                  intro l n j hj
                  have hj:(bif strEq l n lx mx then some (e.ev ρ).toNat else (ρ dd).gg.at_ l n)=some j:=hj
                  cases hs:strEq l n lx mx with
                  | true=>rw [hs] at hj; cases hj; show (e.ev ρ).toNat<(ρ dd).gg.n q; omega
                  | false=>rw [hs] at hj; exact obd l n j hj
                · rcases putA_mem hp with h | h
                  · rw [h]; exact hnf
                  · exact (o3 p h).2
                · rw [hgdn]
                  intro l n
                  rw [findA_put (pk:=.str) ⟨lx,mx,ek⟩ ⟨l,n,rfl⟩ fun p hp=>(o3 p hp).1]
                  rw [show (SV.v false [x]).den ρ=.str lx mx from ek]
                  show (if strEq l n lx mx=true then _ else _)=Option.map _ (bif strEq l n lx mx then some (e.ev ρ).toNat else (ρ dd).gg.at_ l n)
                  cases hs:strEq l n lx mx with
                  | true =>
                    rw [if_pos rfl]
                    show some (AV.int .i64 (e.ev ρ))=some (AV.int .i64 (.ofNat (e.ev ρ).toNat))
                    congr 2; exact (Int.toNat_of_nonneg e2).symm
                  | false=>rw [if_neg (by decide)]; exact o4 l n
               have hQ3:=hQ2.conv (osA:=osA.map (SO.den ρ)) (o':=.am (ρ b').nn (ig ρ g) q) (List.Perm.refl _) rfl hown3
               obtain⟨p1,p2,p3,p4⟩:=fresh_ok h hk (.g dn)
               have hgg:(ρ.up s.nx (.g dn) s.nx).gg=dn:=by rw [p4]; rfl
               have eD:=(SS.agr (fresh_s h) p2).1
               have hdd:=p2 dd (blt_ok b7)
               have eO:osA.map (SO.den (ρ.up s.nx (.g dn)))=osA.map (SO.den ρ):=List.map_congr_left fun o ho=>SO.agr p2 (List.all_eq_true.1 b11 o ho)
               refine⟨ρ.up s.nx (.g dn),_,p1,p2,Nat.le_succ _,eqN_ok ⟨⟨p3.sat.fs,p3.sat.bs,p3.sat.pw,fun p hp=>?_,p3.sat.fls,p3.sat.ne,p3.sat.fz,fun p hp=>?_⟩,?_⟩ fun k=>by rw [hgg,hdd]⟩
               · rcases List.mem_append.1 hp with hp | hp
                 · rcases List.mem_cons.1 hp with rfl | hp
                   · refine .inl ⟨by show 0<=e.ev _; rw [LE.agr p2 b6]; exact e2,?_⟩
                     show atV (ρ.up s.nx (.g dn) s.nx).gg (x.den (ρ.up s.nx (.g dn)))=some (e.ev (ρ.up s.nx (.g dn))).toNat
                     rw [hgg,SC.agr p2 b5,LE.agr p2 b6,ex]
                     show (bif strEq lx mx lx mx then some (e.ev ρ).toNat else (ρ dd).gg.at_ lx mx)=_
                     rw [strEq_refl]; rfl
                   · obtain⟨p0,hp0,rfl⟩:=List.mem_map.1 hp
                     obtain⟨h1,h2⟩:=List.mem_filter.1 hp0
                     rw [Bool.and_eq_true] at h2
                     have hs0:=p3.sat.ats p0 h1
                     unfold AtF at hs0 ⊢
                     have ed:=beq_ok h2.1
                     rw [ed,hdd] at hs0
                     have hpos:0<=p0.2.2.ev (ρ.up s.nx (.g dn)):=by
                      exact entF_ok (s:=s) (fun f hf=>p3.sat.fs f hf) h2.2
                     rcases hs0 with ⟨a3,a4⟩ | ⟨a3,_⟩
                     · refine .inl ⟨a3,?_⟩
                       show atV (ρ.up s.nx (.g dn) s.nx).gg _=_
                       rw [hgg]
                       unfold atV at a4 ⊢
                       split
                       · rename_i l m hv'; rw [hv'] at a4; exact hle.at_ l m _ a4
                       · rename_i hv'
                         split at a4
                         · rename_i l m hv2; exact absurd hv2 (hv' l m)
                         · cases a4
                     · exact absurd hpos (by omega)
                 · exact p3.sat.ats p hp
               · rcases List.mem_append.1 hp with hp | hp
                 · exact sbOf_ok (dd:=dd) (dn:=s.nx) (by rw [hgg,hdd]) p3.sat.sb p hp
                 · exact p3.sat.sb p hp
               · have:(newD (bump s) g s.nx true (osA++[.am b' g q]) ((s.nx,x,e)::atsOf s dd s.nx) [] [] (sbOf s.sb dd s.nx)).den (ρ.up s.nx (.g dn))=⟨(s.den ρ).L,osA.map (SO.den ρ)++[.am (ρ b').nn (ig ρ g) q],(s.den ρ).tys,(ig ρ g,dn,true)::(gsKeep s).map fun p=>(ig ρ p.1,(ρ p.2.1).gg,p.2.2)⟩:=by
                  refine St.ext' (by have:=congrArg St.L eD; exact this) ?_ (by have:=congrArg St.tys eD; exact this) ?_
                  · show (osA++[SO.am b' g q]).map (SO.den _)=_
                    rw [List.map_append,eO,List.map_singleton]
                    simp only [SO.den]; rw [p2 b' (blt_ok b9),ig_agr p2 b8]
                  · show (ig (ρ.up s.nx (.g dn)) g,(ρ.up s.nx (.g dn) s.nx).gg,true)::(gsKeep s).map (fun p=>(ig (ρ.up s.nx (.g dn)) p.1,(ρ.up s.nx (.g dn) p.2.1).gg,p.2.2))=_
                    rw [hgg,ig_agr p2 b8]
                    congr 1
                    refine List.map_congr_left fun p hp=>?_
                    have hs:=fresh_s h
                    unfold SS.ok at hs
                    simp only [Bool.and_eq_true,List.all_eq_true] at hs
                    have:=hs.2.2.2.1 p (List.mem_filter.1 hp).1
                    rw [ig_agr p2 this.1,p2 _ (blt_ok this.2)]
                 rw [this]
                 exact hQ3.weak (fun _ _ h=>h) ⟨[],by rw [List.append_nil]⟩ (fun f h=>h) (fun p h=>h)
           · cases h
         · cases h
       · cases h
   · cases h
 · cases h
end
end Go.Rd
namespace Go.Rd
open Go.Rex Go.RowKit Go.Rt
def Ac (c:Cx) (T:Tm) (G:GH) (Γ:Gam) (s:SS) (ρ:Rho) (K:SS->R):Prop :=
 ∃G' Γ' ρ' s',Ret G G'/\(K s').Ok/\Agr s.nx ρ ρ'/\s.nx<=s'.nx/\Ok c T G' Γ' ρ' s'
def atsEq (s:SS) (d d':Nat):List (Nat × SC × LE):=(s.ats.filter fun p=>Nat.beq p.1 d).map fun p=>(d',p.2.1,p.2.2)
def lkN:List (Nat × LE)->Nat->Option LE
 | [],_=>none
 | p::l,k=>bif Nat.beq p.1 k then some p.2 else lkN l k
def setN (s:SS) (dv:Nat):List (Nat × LE)->SS
 | []=>s
 | p::l=>eqF (setN s dv l) (.a (.gn dv p.1)) p.2
def nsOk (s:SS) (ns:List (Nat × LE)):Bool:=ns.all fun p=>ent s p.2&&p.2.lt s.nx
def nsV (ρ:Rho) (ns:List (Nat × LE)) (k:Nat):Nat:=match lkN ns k with | some e=>(e.ev ρ).toNat | none=>0
def nsU:List (Nat × LE)->Bool
 | []=>true
 | p::l=>(l.all fun q=>!Nat.beq q.1 p.1)&&nsU l
def addGs (s:SS) (p:Nat × Nat × Bool) (sb:Nat × Nat):SS:=⟨s.nx,s.L,s.os,s.ty,p::s.gs,s.fs,s.bs,s.pw,s.ats,s.fls,s.ne,s.fz,sb::s.sb⟩
def acNew (ns:List (Nat × LE)) (sub:Nat) (s:SS) (K:SS->R):R:=bif nsOk s ns&&(nsU ns&&igLt s.nx sub) then
    fresh s fun y s=>fresh s fun dv s=>K (setN (addGs s (y+1,dv,true) (dv,sub)) dv ns)
 else .bad 230 s
def acNewA (ns:List (Nat × LE)) (sub b k:Nat) (s:SS) (K:SS->R):R:=bif nsOk s ns&&(nsU ns&&(igLt s.nx sub&&Nat.blt b s.nx)) then
    (match rmSO (fun o=>match o with | .em y pk=>Nat.beq y b&&kkE pk .str | _=>false) s.os with
     | some (_,osA)=>bif osA.all (SO.lt s.nx) then fresh s fun y s=>fresh s fun dv s=>K (setN (addGs (setO s (osA++[.am b (y+1) k])) (y+1,dv,true) (dv,sub)) dv ns) else .bad 231 s
     | none=>.bad 232 s)
 else .bad 233 s
def acBump (g k:Nat) (e:LE) (s:SS) (K:SS->R):R:=match ghostW s.gs g with
 | some d=>bif ent s (e.sub (.a (.gn d k)))&&(e.lt s.nx&&(Nat.blt d s.nx&&igLt s.nx g)) then
   fresh s fun d' s'=>K (eqF (eqN (newD s' g d' true s.os (atsEq s d d') [] [] (sbOf s.sb d d')) d d' ([0,1,2,3,4,5].filter fun j=>!Nat.beq j k)) (.a (.gn d' k)) e)
   else .bad 234 s
 | none=>.bad 235 s
def acFrz (g:Nat) (s:SS) (K:SS->R):R:=match ghostW s.gs g with
 | some d=>bif Nat.blt d s.nx&&igLt s.nx g then
   fresh s fun d' s'=>K (eqN (newD s' g d' false s.os (atsEq s d d') [] [d'] (sbOf s.sb d d')) d d' [0,1,2,3,4,5])
   else .bad 236 s
 | none=>.bad 237 s
section
variable {c:Cx} {T:Tm} {G:GH} {Γ:Gam} {ρ ρ':Rho} {s s':SS} {cf:Cf} {ops:Array Oper} {i d:Nat}
theorem setN_ok {dv:Nat}:∀{ns:List (Nat × LE)},Ok c T G Γ ρ s->(∀p∈ns,(((ρ dv).gg.n p.1:Nat):Int)=p.2.ev ρ)->Ok c T G Γ ρ (setN s dv ns)
 | [],h,_=>h
 | p::l,h,hn=>(setN_ok (ns:=l) h fun q hq=>hn q (List.mem_cons_of_mem _ hq)).eqF (by rw [LE.ev_a]; exact hn p (List.mem_cons_self ..))
theorem nsV_ok (ρ:Rho):∀{ns:List (Nat × LE)},nsU ns=true->∀p∈ns,nsV ρ ns p.1=(p.2.ev ρ).toNat
 | [],_,p,h=>by cases h
 | q::l,hu,p,h=>by
   have hu:((l.all fun x=>!Nat.beq x.1 q.1)&&nsU l)=true:=hu
   rw [Bool.and_eq_true] at hu
   unfold nsV
   show (match (bif Nat.beq q.1 p.1 then some q.2 else lkN l p.1) with | some e=>(e.ev ρ).toNat | none=>0)=_
   rcases List.mem_cons.1 h with rfl | h
   · rw [Nat.beq_refl]; rfl
   · have hne:Nat.beq p.1 q.1=false:=by
      have:=List.all_eq_true.1 hu.1 p h
      rw [Bool.not_eq_true'] at this; exact this
     have hne2:Nat.beq q.1 p.1=false:=by
      cases hb:Nat.beq q.1 p.1 with
      | false=>rfl
      | true=>have:=beq_ok hb; rw [this,Nat.beq_refl] at hne; cases hne
     rw [hne2]
     exact nsV_ok ρ hu.2 p h
theorem fresh2 {K:Nat->Nat->SS->R} (h:((fresh s fun y s=>fresh s fun dv s=>K y dv s)).Ok) (hk:Ok c T G Γ ρ s) (u v:U):∃ρ',(K s.nx (s.nx+1) (bump (bump s))).Ok/\Agr s.nx ρ ρ'/\Ok c T G Γ ρ' (bump (bump s))/\ρ' s.nx=u/\ρ' (s.nx+1)=v:=by
 obtain⟨h1,h2,h3,h4⟩:=fresh_ok h hk u
 obtain⟨k1,k2,k3,k4⟩:=fresh_ok h1 h3 v
 refine⟨_,k1,h2.trans k2 (Nat.le_succ _),k3,?_,k4⟩
 rw [k2 s.nx (Nat.lt_succ_self _)]; exact h4
theorem nsOk_ev {ns:List (Nat × LE)} (h:nsOk s ns=true) (hs:Sat ρ s):∀p∈ns,0<=p.2.ev ρ/\p.2.lt s.nx=true:=fun p hp=>by
 have:=List.all_eq_true.1 h p hp
 rw [Bool.and_eq_true] at this
 exact⟨ent_ok this.1 hs,this.2⟩
theorem new_core {ns:List (Nat × LE)} {sub:Nat} {os:List SO} {K:Nat->Nat->SS->R} (hns:nsOk s ns=true) (hu:nsU ns=true) (hsub:igLt s.nx sub=true) (h:((fresh s fun y s=>fresh s fun dv s=>K y dv s)).Ok) (hk:Ok c T G Γ ρ s) :
  ∃ρ' dn,(K s.nx (s.nx+1) (bump (bump s))).Ok/\Agr s.nx ρ ρ'/\(ρ' s.nx).nn=Γ.ng/\(ρ' (s.nx+1)).gg=dn/\dn.at_=(fun _ _=>none)/\dn.fz=false/\(∀p∈ns,(((ρ' (s.nx+1)).gg.n p.1:Nat):Int)=p.2.ev ρ')/\(ρ' (s.nx+1)).gg.sub=ig ρ' sub/\Sat ρ' (bump (bump s))/\(bump (bump s)).den ρ'=s.den ρ/\Q c T G (updG Γ Γ.ng dn (Γ.ng+1)) ⟨(s.den ρ).L,(s.den ρ).os,(s.den ρ).tys,(Γ.ng,dn,true)::(s.den ρ).gs⟩:=by
 let dn:Gd:=⟨nsV ρ ns,fun _ _=>none,fun _=>0,false,ig ρ sub⟩
 obtain⟨ρ',k1,k2,k3,k4,k5⟩:=fresh2 h hk (.n Γ.ng) (.g dn)
 have hs:=fresh_s h
 refine⟨ρ',dn,k1,k2,by rw [k4]; rfl,by rw [k5]; rfl,rfl,rfl,fun p hp=>?_,?_,k3.sat,?_,hk.q.newI dn true fun _=>rfl⟩
 · obtain⟨e1,e2⟩:=nsOk_ev hns hk.sat p hp
   rw [k5,LE.agr k2 e2]
   show ((nsV ρ ns p.1:Nat):Int)=_
   rw [nsV_ok ρ hu p hp]; omega
 · rw [k5,ig_agr k2 hsub]; rfl
 · exact (SS.agr hs k2).1
theorem acNew_ok {ns:List (Nat × LE)} {sub:Nat} {K:SS->R} (h:(acNew ns sub s K).Ok) (hk:Ok c T G Γ ρ s):Ac c T G Γ s ρ K:=by
 unfold acNew at h
 cases hb:(nsOk s ns&&(nsU ns&&igLt s.nx sub)) with
 | false=>rw [hb] at h; cases h
 | true =>
   rw [hb] at h
   simp only [cond_true] at h
   simp only [Bool.and_eq_true] at hb
   obtain⟨ρ',dn,k1,k2,k3,k4,_,k6,k7,k8,k9,k10,k11⟩:=new_core (os:=[]) hb.1 hb.2.1 hb.2.2 h hk
   refine⟨G,updG Γ Γ.ng dn (Γ.ng+1),ρ',_,Ret.refl _,k1,k2,?_,setN_ok ⟨⟨k9.fs,k9.bs,k9.pw,k9.ats,k9.fls,k9.ne,k9.fz,fun p hp=>?_⟩,?_⟩ k7⟩
   · have:∀(s0:SS) (dv:Nat) (l:List (Nat × LE)),(setN s0 dv l).nx=s0.nx:=fun s0 dv l=>by
      induction l with
      | nil=>rfl
      | cons p l ih=>exact ih
     rw [this]; show s.nx<=s.nx+1+1; omega
   · rcases List.mem_cons.1 hp with rfl | hp
     · exact k8
     · exact k9.sb p hp
   · have:(addGs (bump (bump s)) (s.nx+1,s.nx+1,true) (s.nx+1,sub)).den ρ'=⟨(s.den ρ).L,(s.den ρ).os,(s.den ρ).tys,(Γ.ng,dn,true)::(s.den ρ).gs⟩:=by
      refine St.ext' (by have:=congrArg St.L k10; exact this) (by have:=congrArg St.os k10; exact this) (by have:=congrArg St.tys k10; exact this) ?_
      show ((ρ' s.nx).nn,(ρ' (s.nx+1)).gg,true)::_=_
      rw [k3,k4]
      congr 1
      have:=congrArg St.gs k10; exact this
     rw [this]; exact k11
theorem setN_nx (s0:SS) (dv:Nat) (l:List (Nat × LE)):(setN s0 dv l).nx=s0.nx:=by
 induction l with
 | nil=>rfl
 | cons p l ih=>exact ih
theorem eqN_nx (s0:SS) (d dv:Nat) (l:List Nat):(eqN s0 d dv l).nx=s0.nx:=by
 induction l with
 | nil=>rfl
 | cons p l ih=>exact ih
theorem acNewA_ok {ns:List (Nat × LE)} {sub b k:Nat} {K:SS->R} (h:(acNewA ns sub b k s K).Ok) (hk:Ok c T G Γ ρ s):Ac c T G Γ s ρ K:=by
 unfold acNewA at h
 cases hb:(nsOk s ns&&(nsU ns&&(igLt s.nx sub&&Nat.blt b s.nx))) with
 | false=>rw [hb] at h; cases h
 | true =>
   rw [hb] at h
   simp only [cond_true] at h
   simp only [Bool.and_eq_true] at hb
   split at h
   · rename_i o osA hr
     cases hb2:osA.all (SO.lt s.nx) with
     | false=>rw [hb2] at h; cases h
     | true =>
       rw [hb2] at h
       simp only [cond_true] at h
       obtain⟨r1,r2⟩:=rmSO_ok hr
       obtain⟨pk,rfl,hpk⟩:∃pk,o=.em b pk/\pk=.str:=by
        cases o<;>first | (cases r1; done) | skip
        rename_i y pk
        have r1:(Nat.beq y b&&kkE pk .str)=true:=r1
        rw [Bool.and_eq_true] at r1
        have:=beq_ok r1.1
        have:=kkE_ok r1.2
        subst_vars
        exact⟨_,rfl,rfl⟩
       subst hpk
       obtain⟨ρ',dn,k1,k2,k3,k4,k5,k6,k7,k8,k9,k10,k11⟩:=new_core (os:=[]) hb.1 hb.2.1 hb.2.2.1 h hk
       have hpd:=perm_den r2 ρ
       rw [List.map_append,List.map_singleton] at hpd
       obtain⟨o1,o2,o3⟩:=hk.own (r2.mem_iff.2 (by simp:SO.em b .str∈osA++[.em b .str]))
       have hgd:(updG Γ Γ.ng dn (Γ.ng+1)).gd Γ.ng=dn:=updG_same _ _ _ _
       have hQ:=k11.conv (osA:=osA.map (SO.den ρ)) (o':=.am (ρ b).nn Γ.ng k) hpd rfl ⟨o2,Nat.lt_succ_self _,by rw [hgd,k5]; exact fun l n j hj=>(by cases hj),[],o1,fun p hp=>(by cases hp),by rw [hgd,k5]; exact fun l n=>rfl⟩
       have eO:osA.map (SO.den ρ')=osA.map (SO.den ρ):=List.map_congr_left fun o ho=>SO.agr k2 (List.all_eq_true.1 hb2 o ho)
       refine⟨G,updG Γ Γ.ng dn (Γ.ng+1),ρ',_,Ret.refl _,k1,k2,?_,setN_ok ⟨⟨k9.fs,k9.bs,k9.pw,k9.ats,k9.fls,k9.ne,k9.fz,fun p hp=>?_⟩,?_⟩ k7⟩
       · rw [setN_nx]; show s.nx<=s.nx+1+1; omega
       · rcases List.mem_cons.1 hp with rfl | hp
         · exact k8
         · exact k9.sb p hp
       · have:(addGs (setO (bump (bump s)) (osA++[.am b (s.nx+1) k])) (s.nx+1,s.nx+1,true) (s.nx+1,sub)).den ρ'=⟨(s.den ρ).L,osA.map (SO.den ρ)++[.am (ρ b).nn Γ.ng k],(s.den ρ).tys,(Γ.ng,dn,true)::(s.den ρ).gs⟩:=by
          refine St.ext' (by have:=congrArg St.L k10; exact this) ?_ (by have:=congrArg St.tys k10; exact this) ?_
          · show (osA++[SO.am b (s.nx+1) k]).map (SO.den ρ')=_
            rw [List.map_append,eO,List.map_singleton]
            show _++[Own.am (ρ' b).nn (ρ' s.nx).nn k]=_
            rw [k3,k2 b (blt_ok hb.2.2.2)]
          · show ((ρ' s.nx).nn,(ρ' (s.nx+1)).gg,true)::_=_
            rw [k3,k4]
            congr 1
            have:=congrArg St.gs k10; exact this
         rw [this]; exact hQ
   · cases h
theorem gset_core {g dd:Nat} {dn:Gd} {w:Bool} {K2:Nat->SS->R} (hgw:ghostW s.gs g=some dd) (hle:(ρ dd).gg.Le dn) (hw:w=true->dn.fz=false) (hat:dn.at_=(ρ dd).gg.at_) (hd:Nat.blt dd s.nx=true) (hg:igLt s.nx g=true) (h:(fresh s K2).Ok) (hk:Ok c T G Γ ρ s) :
  ∃ρ',(K2 s.nx (bump s)).Ok/\Agr s.nx ρ ρ'/\(ρ' s.nx).gg=dn/\Sat ρ' (bump s)/\∀fls fz,(∀p∈fls,0<=p.2.1.ev ρ'/\(ρ' p.1).gg.fz=true/\(((ρ' p.1).gg.fl (p.2.1.ev ρ').toNat:Nat):Int)=p.2.2.ev ρ')->(∀d∈fz,(ρ' d).gg.fz=true)->Ok c T G (updG Γ (ig ρ g) dn Γ.ng) ρ' (newD (bump s) g s.nx w s.os (atsEq s dd s.nx) fls fz (sbOf s.sb dd s.nx)):=by
 obtain⟨p1,p2,p3,p4⟩:=fresh_ok h hk (.g dn)
 have hgg:(ρ.up s.nx (.g dn) s.nx).gg=dn:=by rw [p4]; rfl
 have eD:=(SS.agr (fresh_s h) p2).1
 have hdd:=p2 dd (blt_ok hd)
 have hmemg:=ghostW_mem hgw
 obtain⟨g1,g2,g3⟩:=hk.q.gs (ig ρ g,(ρ dd).gg,true) (List.mem_map.2 ⟨(g,dd,true),hmemg,rfl⟩)
 have g2:Γ.gd (ig ρ g)=(ρ dd).gg:=g2
 obtain⟨g3,g4,g5⟩:=g3 rfl
 have g4:(ρ dd).gg.fz=false:=g4
 refine⟨_,p1,p2,hgg,p3.sat,fun fls fz hfls hfz=>⟨⟨p3.sat.fs,p3.sat.bs,p3.sat.pw,fun p hp=>?_,fun p hp=>?_,p3.sat.ne,fun d hd=>?_,fun p hp=>?_⟩,?_⟩⟩
 · rcases List.mem_append.1 hp with hp | hp
   · obtain⟨q,h1,rfl⟩:=List.mem_map.1 hp
     obtain⟨h2,h3⟩:=List.mem_filter.1 h1
     have e:=beq_ok h3
     have:=p3.sat.ats q h2
     unfold AtF atV at this ⊢
     simp only [e,hdd] at this
     simp only [hgg,hat]
     exact this
   · exact p3.sat.ats p hp
 · rcases List.mem_append.1 hp with hp | hp
   · exact hfls p hp
   · exact p3.sat.fls p hp
 · rcases List.mem_append.1 hd with hd | hd
   · exact hfz d hd
   · exact p3.sat.fz d hd
 · rcases List.mem_append.1 hp with hp | hp
   · exact sbOf_ok (dd:=dd) (dn:=s.nx) (by rw [hgg,hdd]; exact hle.sub) p3.sat.sb p hp
   · exact p3.sat.sb p hp
 · have hQ:=hk.q.gset (g:=ig ρ g) (d0:=(ρ dd).gg) (dn:=dn) (w:=w) (gs':=(ig ρ g,dn,w)::(gsKeep s).map fun p=>(ig ρ p.1,(ρ p.2.1).gg,p.2.2)) (List.mem_map.2 ⟨(g,dd,true),hmemg,rfl⟩) hle hw (fun _ _ _ _=>hat) (fun p hp=>by
    rcases List.mem_cons.1 hp with rfl | hp
    · exact .inl rfl
    · obtain⟨p0,h1,rfl⟩:=List.mem_map.1 hp
      obtain⟨k1,k2⟩:=gsKeep_ne (g:=ig ρ g) hk h1 (by rw [g2]; exact g4)
      exact .inr ⟨List.mem_map.2 ⟨p0,k1,rfl⟩,k2⟩)
   have:(newD (bump s) g s.nx w s.os (atsEq s dd s.nx) fls fz (sbOf s.sb dd s.nx)).den (ρ.up s.nx (.g dn))=⟨(s.den ρ).L,(s.den ρ).os,(s.den ρ).tys,(ig ρ g,dn,w)::(gsKeep s).map fun p=>(ig ρ p.1,(ρ p.2.1).gg,p.2.2)⟩:=by
    refine St.ext' (by have:=congrArg St.L eD; exact this) (by have:=congrArg St.os eD; exact this) (by have:=congrArg St.tys eD; exact this) ?_
    show (ig (ρ.up s.nx (.g dn)) g,(ρ.up s.nx (.g dn) s.nx).gg,w)::(gsKeep s).map (fun p=>(ig (ρ.up s.nx (.g dn)) p.1,(ρ.up s.nx (.g dn) p.2.1).gg,p.2.2))=_
    rw [hgg,ig_agr p2 hg]
    congr 1
    refine List.map_congr_left fun p hp=>?_
    have hs:=fresh_s h
    unfold SS.ok at hs
    simp only [Bool.and_eq_true,List.all_eq_true] at hs
    have:=hs.2.2.2.1 p (List.mem_filter.1 hp).1
    rw [ig_agr p2 this.1,p2 _ (blt_ok this.2)]
   rw [this]
   exact hQ
theorem acBump_ok {g k:Nat} {e:LE} {K:SS->R} (h:(acBump g k e s K).Ok) (hk:Ok c T G Γ ρ s):Ac c T G Γ s ρ K:=by
 unfold acBump at h
 split at h
 · rename_i dd hgw
   cases hb:(ent s (e.sub (.a (.gn dd k)))&&(e.lt s.nx&&(Nat.blt dd s.nx&&igLt s.nx g))) with
   | false=>rw [hb] at h; cases h
   | true =>
     rw [hb] at h
     simp only [cond_true] at h
     simp only [Bool.and_eq_true] at hb
     obtain⟨b1,b2,b3,b4⟩:=hb
     have e1:=ent_ok b1 hk.sat
     rw [LE.ev_sub,LE.ev_a] at e1
     have e1:0<=e.ev ρ-(((ρ dd).gg.n k:Nat):Int):=e1
     have hfz:(ρ dd).gg.fz=false:=by
      obtain⟨_,_,g3⟩:=hk.q.gs (ig ρ g,(ρ dd).gg,true) (List.mem_map.2 ⟨(g,dd,true),ghostW_mem hgw,rfl⟩)
      exact (g3 rfl).2.1
     have hle:(ρ dd).gg.Le ⟨fun j=>bif Nat.beq j k then (e.ev ρ).toNat else (ρ dd).gg.n j,(ρ dd).gg.at_,(ρ dd).gg.fl,(ρ dd).gg.fz,(ρ dd).gg.sub⟩:=by
      refine⟨fun j=>?_,fun _ _ _ h=>h,fun h=>?_,rfl⟩
      · show (ρ dd).gg.n j<=bif Nat.beq j k then _ else _
        cases hj:Nat.beq j k with
        | true=>have:=beq_ok hj; subst this; show _<=(e.ev ρ).toNat; omega
        | false=>exact Nat.le_refl _
      · rw [hfz] at h; cases h
     obtain⟨ρ',p1,p2,p3,p4,p5⟩:=gset_core (dn:=⟨fun j=>bif Nat.beq j k then (e.ev ρ).toNat else (ρ dd).gg.n j,(ρ dd).gg.at_,(ρ dd).gg.fl,(ρ dd).gg.fz,(ρ dd).gg.sub⟩) (w:=true) hgw hle (fun _=>hfz) rfl b3 b4 h hk
     have hdd:=p2 dd (blt_ok b3)
     refine⟨G,updG Γ (ig ρ g) ⟨fun j=>bif Nat.beq j k then (e.ev ρ).toNat else (ρ dd).gg.n j,(ρ dd).gg.at_,(ρ dd).gg.fl,(ρ dd).gg.fz,(ρ dd).gg.sub⟩ Γ.ng,ρ',_,Ret.refl _,p1,p2,?_,Ok.eqF ?_ ?_⟩
     · show s.nx<=(eqN _ _ _ _).nx
       rw [eqN_nx]; show s.nx<=s.nx+1; omega
     · have key:∀(ks:List Nat) (s0:SS),(∀j∈ks,Nat.beq j k=false)->Ok c T G (updG Γ (ig ρ g) ⟨fun j=>bif Nat.beq j k then (e.ev ρ).toNat else (ρ dd).gg.n j,(ρ dd).gg.at_,(ρ dd).gg.fl,(ρ dd).gg.fz,(ρ dd).gg.sub⟩ Γ.ng) ρ' s0->Ok c T G (updG Γ (ig ρ g) ⟨fun j=>bif Nat.beq j k then (e.ev ρ).toNat else (ρ dd).gg.n j,(ρ dd).gg.at_,(ρ dd).gg.fl,(ρ dd).gg.fz,(ρ dd).gg.sub⟩ Γ.ng) ρ' (eqN s0 dd s.nx ks):=fun ks s0 hks h0=>by
        induction ks with
        | nil=>exact h0
        | cons j ks ih =>
          refine (ih fun j hj=>hks j (List.mem_cons_of_mem _ hj)).eqF ?_
          rw [LE.ev_a,LE.ev_a]
          show (((ρ' s.nx).gg.n j:Nat):Int)=(((ρ' dd).gg.n j:Nat):Int)
          rw [p3,hdd]
          show ((bif Nat.beq j k then (e.ev ρ).toNat else (ρ dd).gg.n j:Nat):Int)=_
          rw [hks j (List.mem_cons_self ..)]; rfl
       exact key _ _ (fun j hj=>by have:=(List.mem_filter.1 hj).2; rw [Bool.not_eq_true'] at this; exact this) (p5 [] [] (fun p hp=>by cases hp) (fun d hd=>by cases hd))
     · rw [LE.ev_a,LE.agr p2 b2]
       show (((ρ' s.nx).gg.n k:Nat):Int)=_
       rw [p3]
       show ((bif Nat.beq k k then (e.ev ρ).toNat else (ρ dd).gg.n k:Nat):Int)=_
       rw [Nat.beq_refl]; show (((e.ev ρ).toNat:Nat):Int)=_; omega
 · cases h
theorem acFrz_ok {g:Nat} {K:SS->R} (h:(acFrz g s K).Ok) (hk:Ok c T G Γ ρ s):Ac c T G Γ s ρ K:=by
 unfold acFrz at h
 split at h
 · rename_i dd hgw
   cases hb:(Nat.blt dd s.nx&&igLt s.nx g) with
   | false=>rw [hb] at h; cases h
   | true =>
     rw [hb] at h
     simp only [cond_true] at h
     rw [Bool.and_eq_true] at hb
     have hfz:(ρ dd).gg.fz=false:=by
      obtain⟨_,_,g3⟩:=hk.q.gs (ig ρ g,(ρ dd).gg,true) (List.mem_map.2 ⟨(g,dd,true),ghostW_mem hgw,rfl⟩)
      exact (g3 rfl).2.1
     obtain⟨ρ',p1,p2,p3,p4,p5⟩:=gset_core (dn:=⟨(ρ dd).gg.n,(ρ dd).gg.at_,(ρ dd).gg.fl,true,(ρ dd).gg.sub⟩) (w:=false) hgw ⟨fun j=>Nat.le_refl _,fun _ _ _ h=>h,fun h=>(by rw [hfz] at h; cases h),rfl⟩ (fun h=>by cases h) rfl hb.1 hb.2 h hk
     have hdd:=p2 dd (blt_ok hb.1)
     refine⟨G,updG Γ (ig ρ g) ⟨(ρ dd).gg.n,(ρ dd).gg.at_,(ρ dd).gg.fl,true,(ρ dd).gg.sub⟩ Γ.ng,ρ',_,Ret.refl _,p1,p2,?_,eqN_ok (p5 [] [s.nx] (fun p hp=>by cases hp) (fun d hd=>by rw [List.mem_singleton.1 hd,p3])) fun k=>by rw [p3,hdd]⟩
     rw [eqN_nx]; show s.nx<=s.nx+1; omega
 · cases h
end
end Go.Rd
namespace Go.Rd
open Go.Rex Go.RowKit Go.Rt
def SV.mapC (f:SC->SC):SV->SV
 | .v ag cs=>.v ag (cs.map f)
 | .tup l=>.tup (l.map fun p=>(p.1,p.2.map f))
 | .undef=>.undef
 | .clo q cs=>.clo q (cs.map f)
def SO.mapC (f:SC->SC):SO->SO
 | .loc b el cs=>.loc b el (cs.map f)
 | o=>o
def mapS (f:SC->SC) (s:SS):SS:=⟨s.nx,s.L.map fun p=>(p.1,p.2.mapC f),s.os.map (SO.mapC f),s.ty,s.gs,s.fs,s.bs,s.pw,s.ats,s.fls,s.ne,s.fz,s.sb⟩
section
variable {c:Cx} {T:Tm} {G G':GH} {Γ Γ':Gam} {ρ ρ':Rho} {s s':SS} {cf:Cf} {ops:Array Oper} {i d:Nat}
theorem denL_mapC {f:SC->SC} (h:∀x,(f x).den ρ=x.den ρ) (cs:List SC):denL ρ (cs.map f)=denL ρ cs:=by
 unfold denL
 rw [List.map_map]
 exact List.map_congr_left fun x _=>h x
theorem den1_mapC {f:SC->SC} (h:∀x,(f x).den ρ=x.den ρ) (p:Bool × List SC):den1 ρ (p.1,p.2.map f)=den1 ρ p:=by unfold den1; simp only [denL_mapC h]
theorem SV.den_mapC {f:SC->SC} (h:∀x,(f x).den ρ=x.den ρ) (v:SV):(v.mapC f).den ρ=v.den ρ:=by
 cases v with
 | v ag cs=>exact den1_mapC h (ag,cs)
 | tup l =>
   show AV.tup ((l.map fun p=>(p.1,p.2.map f)).map (den1 ρ))=.tup (l.map (den1 ρ))
   rw [List.map_map]
   congr 1
   exact List.map_congr_left fun p _=>den1_mapC h p
 | undef=>rfl
 | clo q cs=>simp only [SV.mapC,SV.den,denL_mapC h]
theorem SO.den_mapC {f:SC->SC} (h:∀x,(f x).den ρ=x.den ρ) (o:SO):(o.mapC f).den ρ=o.den ρ:=by
 cases o with
 | loc b el cs=>simp only [SO.mapC,SO.den,denL_mapC h]
 | _=>rfl
theorem mapS_den {f:SC->SC} (h:∀x,(f x).den ρ=x.den ρ):(mapS f s).den ρ=s.den ρ:=by
 refine St.ext' ?_ ?_ rfl rfl
 · show (s.L.map fun p=>(p.1,p.2.mapC f)).map (fun p=>(p.1,p.2.den ρ))=s.L.map fun p=>(p.1,p.2.den ρ)
   rw [List.map_map]
   exact List.map_congr_left fun p _=>by show (p.1,(p.2.mapC f).den ρ)=_; rw [SV.den_mapC h]
 · show (s.os.map (SO.mapC f)).map (SO.den ρ)=s.os.map (SO.den ρ)
   rw [List.map_map]
   exact List.map_congr_left fun o _=>SO.den_mapC h o
theorem Ok.mapS {f:SC->SC} (hk:Ok c T G Γ ρ s) (h:∀x,(f x).den ρ=x.den ρ):Ok c T G Γ ρ (mapS f s):=⟨⟨hk.sat.fs,hk.sat.bs,hk.sat.pw,hk.sat.ats,hk.sat.fls,hk.sat.ne,hk.sat.fz,hk.sat.sb⟩,by rw [mapS_den h]; exact hk.q⟩
def subRpt (b x:Nat):SC->SC
 | .rpt b' o=>bif Nat.beq b' b then (bif Nat.beq o 0 then .ref x else .ptp x o) else .rpt b' o
 | c=>c
def subRmp (b x:Nat):SC->SC
 | .rmp b'=>bif Nat.beq b' b then .ref x else .rmp b'
 | c=>c
def subRef (y x:Nat):SC->SC
 | .ref y'=>bif Nat.beq y' y then .ref x else .ref y'
 | c=>c
theorem subRpt_den {b x:Nat} (h:(ρ x).vv=.rpt (ρ b).nn 0) (q:SC):(subRpt b x q).den ρ=q.den ρ:=by
 cases q<;>first | rfl | skip
 rename_i b' o
 show (bif Nat.beq b' b then (bif Nat.beq o 0 then SC.ref x else .ptp x o) else .rpt b' o).den ρ=_
 cases hb:Nat.beq b' b with
 | false=>rfl
 | true =>
   have:=beq_ok hb
   subst this
   cases ho:Nat.beq o 0 with
   | true=>have:=beq_ok ho; subst this; show (ρ x).vv=_; rw [h]; rfl
   | false=>show ptpA (ρ x).vv o=.rpt (ρ b').nn o; rw [h]; show AV.rpt _ (0+o)=_; rw [Nat.zero_add]
theorem subRmp_den {b x:Nat} (h:(ρ x).vv=.rmp (ρ b).nn) (q:SC):(subRmp b x q).den ρ=q.den ρ:=by
 cases q<;>first | rfl | skip
 rename_i b'
 show (bif Nat.beq b' b then SC.ref x else .rmp b').den ρ=_
 cases hb:Nat.beq b' b with
 | false=>rfl
 | true=>have:=beq_ok hb; subst this; show (ρ x).vv=_; rw [h]; rfl
theorem subRef_den {y x:Nat} (h:(ρ x).vv=(ρ y).vv) (q:SC):(subRef y x q).den ρ=q.den ρ:=by
 cases q<;>first | rfl | skip
 rename_i b'
 show (bif Nat.beq b' y then SC.ref x else .ref b').den ρ=_
 cases hb:Nat.beq b' y with
 | false=>rfl
 | true=>have:=beq_ok hb; subst this; exact h
def isLoc (b:Nat):SO->Bool | .loc y _ _=>Nat.beq y b | _=>false
def acPubL (cf:Cf) (b cc g:Nat) (s:SS) (K:SS->R):R:=match rmSO (isLoc b) s.os with
 | some (.loc _ el cs,osA)=>bif Nat.beq el (cf.Φ.ty cc)&&((cf.Φ.uni cc&&!cf.Φ.raw cc)&&(Nat.beq cs.length (szOf cf.P el)&&(gIn s g&&(igLt s.nx g&&(Nat.blt b s.nx&&osA.all (SO.lt s.nx)))))) then
   (match chkL cf s g (ghost s.gs g) (.k 0) (cf.Φ.ks cc) cs with
    | some os=>bif ent s ((LE.k WU).sub (sumW os)) then fresh s fun x s=>K (mapS (subRpt b x) (addTy (setO s osA) (.pt x cc g))) else .bad 240 s
    | none=>.bad 241 s)
   else .bad 242 s
 | _=>.bad 243 s
theorem acPubL_ok {b cc g:Nat} {K:SS->R} (hP:cf.P=c.P) (hΦ:cf.Φ=c.Φ) (h:(acPubL cf b cc g s K).Ok) (hk:Ok c T G Γ ρ s):Ac c T G Γ s ρ K:=by
 unfold acPubL at h
 rw [hP,hΦ] at h
 split at h
 · rename_i b' el cs osA hr
   obtain⟨r1,r2⟩:=rmSO_ok hr
   have hbb:b'=b:=beq_ok r1
   subst hbb
   cases hb:(Nat.beq el (c.Φ.ty cc)&&((c.Φ.uni cc&&!c.Φ.raw cc)&&(Nat.beq cs.length (szOf c.P el)&&(gIn s g&&(igLt s.nx g&&(Nat.blt b' s.nx&&osA.all (SO.lt s.nx))))))) with
   | false=>rw [hb] at h; cases h
   | true =>
     rw [hb] at h
     simp only [cond_true] at h
     simp only [Bool.and_eq_true,Bool.not_eq_true'] at hb
     obtain⟨b1,⟨b2,hrw⟩,b3,b4,b5,b6,b7⟩:=hb
     have b1:=beq_ok b1
     subst b1
     have b3:=beq_ok b3
     cases hch:chkL cf s g (ghost s.gs g) (.k 0) (c.Φ.ks cc) cs with
     | none=>rw [hch] at h; cases h
     | some os =>
       rw [hch] at h
       simp only at h
       cases hw:ent s ((LE.k WU).sub (sumW os)) with
       | false=>rw [hw] at h; cases h
       | true =>
         rw [hw] at h
         simp only [cond_true] at h
         obtain⟨fs,w1,w2,w3⟩:=chkL_ok hΦ hk (fun dv h=>ghost_ok h hk) (J:=0) (by rw [LE.ev_k]; exact⟨Int.le_refl _,rfl⟩) hch
         have hwu:=ent_ok hw hk.sat
         rw [LE.ev_sub,LE.ev_k,w2] at hwu
         have hcl:(denL ρ cs).length=cs.length:=by simp [denL]
         obtain⟨hG,hm⟩:=hk.own (r2.mem_iff.2 (by simp:SO.loc b' (c.Φ.ty cc) cs∈osA++[.loc b' (c.Φ.ty cc) cs]))
         have hpd:=perm_den r2 ρ
         rw [List.map_append,List.map_singleton] at hpd
         have hglt:ig ρ g<Γ.ng:=gIn_ok b4 hk
         have hQ:=hk.q.pub (osA:=osA.map (SO.den ρ)) (o:=SO.den ρ (.loc b' (c.Φ.ty cc) cs)) (b:=(ρ b').nn) (y:=.cells cc (ig ρ g) [WU]) (g':=.cells .data (c.Φ.ty cc) (denL ρ cs).length (denL ρ cs)) (tys':=[.pt (.rpt (ρ b').nn 0) cc (ig ρ g)]) hpd rfl hm (fun _ _ _ h=>by rw [hG] at h; cases h) (fun _ _ _ h=>by rw [hG] at h; cases h)
          (fun hr hl=>⟨⟨hglt,hrw⟩,fun _ m hm=>List.mem_singleton.1 hm,_,_,upd_same _ _ _,by rw [hcl,b3]; simp,fun j m hj=>by
           cases j with
           | succ j=>simp at hj
           | zero =>
             simp only [List.getElem?_cons_zero,Option.some.injEq] at hj
             subst hj
             rw [Nat.zero_mul,List.drop_zero,List.take_of_length_le (by rw [hcl,b3]; exact Nat.le_refl _)]
             exact ElOk.le ⟨fs,w1,by omega,w3⟩ hr hl hglt⟩) (fun f hf=>by
           rw [List.mem_singleton.1 hf]
           exact⟨(ρ b').nn,[WU],rfl,updΓ_same _ _ _,by simp⟩)
         obtain⟨p1,p2,p3,p4⟩:=fresh_ok h hk (.v (.rpt (ρ b').nn 0) [])
         generalize hU:U.v (.rpt (ρ b').nn 0) []=uu at p1 p2 p3 p4
         have hv':(ρ.up s.nx uu s.nx).vv=.rpt (ρ b').nn 0:=by rw [p4,<-hU]; rfl
         have eD:=(SS.agr (fresh_s h) p2).1
         have eO:osA.map (SO.den (ρ.up s.nx uu))=osA.map (SO.den ρ):=List.map_congr_left fun o ho=>SO.agr p2 (List.all_eq_true.1 b7 o ho)
         refine⟨_,_,ρ.up s.nx uu,_,fun k=>?_,p1,p2,Nat.le_succ _,Ok.mapS (G:=upd G (ρ b').nn (.cells .data (c.Φ.ty cc) (denL ρ cs).length (denL ρ cs))) (Γ:=updΓ Γ (ρ b').nn (.cells cc (ig ρ g) [WU])) ⟨⟨p3.sat.fs,p3.sat.bs,p3.sat.pw,p3.sat.ats,p3.sat.fls,p3.sat.ne,p3.sat.fz,p3.sat.sb⟩,?_⟩ (subRpt_den ?_)⟩
         · by_cases e:k=(ρ b').nn
           · subst e; exact .inr ⟨_,_,_,hG,upd_same _ _ _⟩
           · exact .inl (upd_ne e)
         · have:(addTy (setO (bump s) osA) (.pt s.nx cc g)).den (ρ.up s.nx uu)=⟨(s.den ρ).L,osA.map (SO.den ρ),.pt (.rpt (ρ b').nn 0) cc (ig ρ g)::(s.den ρ).tys,(s.den ρ).gs⟩:=by
            refine St.ext' (by have:=congrArg St.L eD; exact this) eO ?_ (by have:=congrArg St.gs eD; exact this)
            show STF.den _ (.pt s.nx cc g)::s.ty.map (STF.den _)=_
            rw [show s.ty.map (STF.den (ρ.up s.nx uu))=(s.den ρ).tys from congrArg St.tys eD]
            simp only [STF.den]; rw [hv',ig_agr p2 b5]
           rw [this]; exact hQ
         · rw [hv',p2 b' (blt_ok b6)]
 · cases h
def isMap (b:Nat):SO->Bool | .em y _=>Nat.beq y b | .am y _ _=>Nat.beq y b | .im y _=>Nat.beq y b | _=>false
def hasAm (g:Nat) (os:List SO):Bool:=os.any fun o=>match o with | .am _ g' _=>Nat.beq g' g | _=>false
def pubB (cf:Cf) (cc g:Nat) (osA:List SO) (s:SS) (o:SO):Bool:=match o,cf.Φ.mv cc,ghost s.gs g with
 | .am _ g' q,.atv q',some d=>Nat.beq g' g&&(Nat.beq q q'&&(kkE (cf.Φ.pk cc) .str&&s.fz.contains d))
 | .im _ e,.kd (.nat k),some d=>kkE (cf.Φ.pk cc) .str&&ent s ((LE.a (.gn d k)).sub e)
 | .em _ pk,.kd _,_=>kkE (cf.Φ.pk cc) pk
 | .em _ pk,.unit,_=>kkE (cf.Φ.pk cc) pk
 | .em _ pk,.fiv,some d=>kkE (cf.Φ.pk cc) .pair&&(s.fz.contains d&&hasAm g osA)
 | _,_,_=>false
def acPubM (cf:Cf) (b cc g:Nat) (s:SS) (K:SS->R):R:=match rmSO (isMap b) s.os with
 | some (o,osA)=>bif pubB cf cc g osA s o&&(gIn s g&&(igLt s.nx g&&(Nat.blt b s.nx&&osA.all (SO.lt s.nx)))) then
   fresh s fun x s=>K (mapS (subRmp b x) (addTy (setO s osA) (.mp x cc g)))
   else .bad 244 s
 | none=>.bad 245 s
theorem nilP {p:AV × AV->Prop}:∀q∈([]:List (AV × AV)),p q:=fun q h=>by cases h
theorem pubB_ok {b cc g:Nat} {osA:List SO} {o:SO} (hΦ:cf.Φ=c.Φ) (h:pubB cf cc g osA s o=true) (hm:isMap b o=true) (hA:∀o∈osA,o∈s.os) (ho:o∈s.os) (hk:Ok c T G Γ ρ s):(o.den ρ).blk=some (ρ b).nn/\Γ.m (ρ b).nn=none/\∃es,G (ρ b).nn=some (.map es)/\(∀p∈es,nf p.2)/\MapOk c.P c.Φ G Γ cc (ig ρ g) es:=by
 have hown:=hk.own ho
 have strs:∀es:List (AV × AV),c.Φ.pk cc=.str->(∀p∈es,KeyF .str p.1)->∀p∈es,KeyF (c.Φ.pk cc) p.1:=fun es e h=>by rw [e]; exact h
 unfold pubB at h
 rw [hΦ] at h
 split at h
 · rename_i y g' q q' dd hmv hgd
   simp only [Bool.and_eq_true] at h
   have e1:=beq_ok h.1
   have e2:=beq_ok h.2.1
   have e3:=kkE_ok h.2.2.1
   have e4:y=b:=beq_ok hm
   subst e1 e2 e4
   obtain⟨o1,o0,obd,es,o2,o3,o4⟩:=hown
   have hdd:=ghost_ok hgd hk
   have hfz:=hk.sat.fz dd (List.contains_iff_mem.1 h.2.2.2)
   refine⟨rfl,o1,es,o2,fun p hp=>(o3 p hp).2,strs es e3 fun p hp=>(o3 p hp).1,?_⟩
   rw [hmv]
   exact⟨e3,by rw [hdd]; exact hfz,o4,obd⟩
 · rename_i y e k dd hmv hgd
   rw [Bool.and_eq_true] at h
   have e3:=kkE_ok h.1
   have e4:y=b:=beq_ok hm
   subst e4
   obtain⟨o1,es,o2,o3⟩:=hown
   have hdd:=ghost_ok hgd hk
   have he:=ent_ok h.2 hk.sat
   rw [LE.ev_sub,LE.ev_a] at he
   have he:0<=(((ρ dd).gg.n k:Nat):Int)-e.ev ρ:=he
   refine⟨rfl,o1,es,o2,fun p hp=>?_,strs es e3 fun p hp=>(o3 p hp).1,?_⟩
   · obtain⟨_,n,h1,_⟩:=o3 p hp; rw [h1]; exact nf_int _ _
   · rw [hmv]
     intro p hp
     obtain⟨_,n,h1,h2⟩:=o3 p hp
     exact⟨[],⟨⟨n,h1,by rw [hdd]; omega⟩,rfl⟩,fun f hf=>by cases hf⟩
 · rename_i y pk kd hmv
   have e4:y=b:=beq_ok hm
   subst e4
   obtain⟨o1,o2,o3⟩:=hown
   refine⟨rfl,o2,[],o1,nilP,fun p hp=>(by cases hp),?_⟩
   rw [hmv]; exact nilP
 · rename_i y pk hmv
   have e4:y=b:=beq_ok hm
   subst e4
   obtain⟨o1,o2,o3⟩:=hown
   refine⟨rfl,o2,[],o1,nilP,fun p hp=>(by cases hp),?_⟩
   rw [hmv]; exact nilP
 · rename_i y pk dd hmv hgd
   simp only [Bool.and_eq_true] at h
   have e3:=kkE_ok h.1
   have e4:y=b:=beq_ok hm
   subst e4
   obtain⟨o1,o2,o3⟩:=hown
   have hdd:=ghost_ok hgd hk
   have hfz:=hk.sat.fz dd (List.contains_iff_mem.1 h.2.1)
   refine⟨rfl,o2,[],o1,nilP,fun p hp=>(by cases hp),?_⟩
   rw [hmv]
   refine⟨e3,by rw [hdd]; exact hfz,fun l n l' n' hs=>?_,nilP⟩
   obtain⟨oa,m1,m2⟩:=List.any_eq_true.1 h.2.2
   cases oa<;>first | (cases m2; done) | skip
   rename_i b2 g' k2
   have:=beq_ok m2
   subst this
   obtain⟨_,_,_,es,q2,q3,q4⟩:=hk.own (hA _ m1)
   have h1:=q4 l n
   have h2:=q4 l' n'
   rw [findA_eq (pk:=.str) (x:=.str l n) (k:=.str l' n') ⟨l,n,rfl⟩ ⟨l',n',rfl⟩ hs fun p hp=>(q3 p hp).1,h2] at h1
   cases ha:(Γ.gd (ig ρ g')).at_ l n with
   | none=>rw [ha] at h1; cases hb:(Γ.gd (ig ρ g')).at_ l' n' with
     | none=>rfl
     | some j=>rw [hb] at h1; cases h1
   | some i=>rw [ha] at h1; cases hb:(Γ.gd (ig ρ g')).at_ l' n' with
     | none=>rw [hb] at h1; cases h1
     | some j =>
       rw [hb] at h1
       simp only [Option.map_some,Option.some.injEq,AV.int.injEq,true_and] at h1
       have h1:(j:Int)=(i:Int):=h1
       congr 1; omega
 · cases h
theorem acPubM_ok {b cc g:Nat} {K:SS->R} (hΦ:cf.Φ=c.Φ) (h:(acPubM cf b cc g s K).Ok) (hk:Ok c T G Γ ρ s):Ac c T G Γ s ρ K:=by
 unfold acPubM at h
 split at h
 · rename_i o osA hr
   obtain⟨r1,r2⟩:=rmSO_ok hr
   cases hb:(pubB cf cc g osA s o&&(gIn s g&&(igLt s.nx g&&(Nat.blt b s.nx&&osA.all (SO.lt s.nx))))) with
   | false=>rw [hb] at h; cases h
   | true =>
     rw [hb] at h
     simp only [cond_true] at h
     simp only [Bool.and_eq_true] at hb
     obtain⟨b1,b2,b3,b4,b5⟩:=hb
     obtain⟨hblk,hm,es,hG,hnf,hM⟩:=pubB_ok hΦ b1 r1 (fun o ho=>r2.mem_iff.2 (by simp [ho])) (r2.mem_iff.2 (by simp)) hk
     have hpd:=perm_den r2 ρ
     rw [List.map_append,List.map_singleton] at hpd
     have hself:upd G (ρ b).nn (.map es)=G:=upd_self hG
     have hglt:ig ρ g<Γ.ng:=gIn_ok b2 hk
     have hQ:=hk.q.pub (osA:=osA.map (SO.den ρ)) (o:=SO.den ρ o) (b:=(ρ b).nn) (y:=.map cc (ig ρ g)) (g':=.map es) (tys':=[.mp (.rmp (ρ b).nn) cc (ig ρ g)]) hpd hblk hm (fun _ _ _ h=>by rw [hG] at h; cases h) (fun _ _ _ h=>by rw [hG] at h; cases h)
      (fun hr hl=>⟨hglt,es,upd_same _ _ _,hnf,hM.le hr hl rfl⟩) (fun f hf=>by
       rw [List.mem_singleton.1 hf]
       exact⟨(ρ b).nn,rfl,updΓ_same _ _ _⟩)
     rw [hself] at hQ
     obtain⟨p1,p2,p3,p4⟩:=fresh_ok h hk (.v (.rmp (ρ b).nn) [])
     generalize hU:U.v (.rmp (ρ b).nn) []=uu at p1 p2 p3 p4
     have hv':(ρ.up s.nx uu s.nx).vv=.rmp (ρ b).nn:=by rw [p4,<-hU]; rfl
     have eD:=(SS.agr (fresh_s h) p2).1
     have eO:osA.map (SO.den (ρ.up s.nx uu))=osA.map (SO.den ρ):=List.map_congr_left fun o ho=>SO.agr p2 (List.all_eq_true.1 b5 o ho)
     refine⟨G,_,ρ.up s.nx uu,_,Ret.refl _,p1,p2,Nat.le_succ _,Ok.mapS (Γ:=updΓ Γ (ρ b).nn (.map cc (ig ρ g))) ⟨⟨p3.sat.fs,p3.sat.bs,p3.sat.pw,p3.sat.ats,p3.sat.fls,p3.sat.ne,p3.sat.fz,p3.sat.sb⟩,?_⟩ (subRmp_den ?_)⟩
     · have:(addTy (setO (bump s) osA) (.mp s.nx cc g)).den (ρ.up s.nx uu)=⟨(s.den ρ).L,osA.map (SO.den ρ),.mp (.rmp (ρ b).nn) cc (ig ρ g)::(s.den ρ).tys,(s.den ρ).gs⟩:=by
        refine St.ext' (by have:=congrArg St.L eD; exact this) eO ?_ (by have:=congrArg St.gs eD; exact this)
        show STF.den _ (.mp s.nx cc g)::s.ty.map (STF.den _)=_
        rw [show s.ty.map (STF.den (ρ.up s.nx uu))=(s.den ρ).tys from congrArg St.tys eD]
        simp only [STF.den]; rw [hv',ig_agr p2 b3]
       rw [this]; exact hQ
     · rw [hv',p2 b (blt_ok b4)]
 · cases h
end
end Go.Rd
namespace Go.Rd
open Go.Rex Go.RowKit Go.Rt
def acFrzU (cf:Cf) (g x cc':Nat) (s:SS) (K:SS->R):R:=match rmSO (isUl x) s.os,ghostW s.gs g with
 | some (.ul _ cc g',osA),some d=>bif Nat.beq g' g&&((cf.Φ.uni cc'&&!cf.Φ.raw cc')&&(Nat.beq (cf.Φ.ty cc) (cf.Φ.ty cc')&&(toF (cf.Φ.ks cc) (cf.Φ.ks cc')&&(Nat.blt d s.nx&&(igLt s.nx g&&(Nat.blt x s.nx&&osA.all (SO.lt s.nx))))))) then
   fresh s fun d' s'=>fresh (eqN (newD s' g d' false s.os (atsEq s d d') [] [d'] (sbOf s.sb d d')) d d' [0,1,2,3,4,5]) fun x' s2=>K (mapS (subRef x x') (eqF (addTy (setO s2 osA) (.sl x' cc' g)) (.a (.len x')) (.a (.len x))))
   else .bad 250 s
 | _,_=>.bad 251 s
section
variable {c:Cx} {T:Tm} {G G':GH} {Γ Γ':Gam} {ρ ρ':Rho} {s s':SS} {cf:Cf} {ops:Array Oper} {i d:Nat}
theorem acFrzU_ok {g x cc':Nat} {K:SS->R} (hΦ:cf.Φ=c.Φ) (h:(acFrzU cf g x cc' s K).Ok) (hk:Ok c T G Γ ρ s):Ac c T G Γ s ρ K:=by
 unfold acFrzU at h
 rw [hΦ] at h
 split at h
 · rename_i y cc g' osA dd hr hgw
   obtain⟨r1,r2⟩:=rmSO_ok hr
   have hy:y=x:=beq_ok r1
   subst hy
   cases hb:(Nat.beq g' g&&((c.Φ.uni cc'&&!c.Φ.raw cc')&&(Nat.beq (c.Φ.ty cc) (c.Φ.ty cc')&&(toF (c.Φ.ks cc) (c.Φ.ks cc')&&(Nat.blt dd s.nx&&(igLt s.nx g&&(Nat.blt y s.nx&&osA.all (SO.lt s.nx)))))))) with
   | false=>rw [hb] at h; cases h
   | true =>
     rw [hb] at h
     simp only [cond_true] at h
     simp only [Bool.and_eq_true,Bool.not_eq_true'] at hb
     obtain⟨b1,⟨b2,hrw⟩,b3,b4,b5,b6,b7,b8⟩:=hb
     have b1:=beq_ok b1
     have b3:=beq_ok b3
     subst b1
     have hfz:(ρ dd).gg.fz=false:=by
      obtain⟨_,_,g3⟩:=hk.q.gs (ig ρ g',(ρ dd).gg,true) (List.mem_map.2 ⟨(g',dd,true),ghostW_mem hgw,rfl⟩)
      exact (g3 rfl).2.1
     have hgd:Γ.gd (ig ρ g')=(ρ dd).gg:=(hk.q.gs (ig ρ g',(ρ dd).gg,true) (List.mem_map.2 ⟨(g',dd,true),ghostW_mem hgw,rfl⟩)).2.1
     obtain⟨u1,u2,u3⟩:=hk.own (r2.mem_iff.2 (by simp:SO.ul y cc g'∈osA++[.ul y cc g']))
     -- the lengths
     obtain⟨F,hF⟩:∃F:Nat->Nat,∀dn:Gd,(ρ dd).gg.Le dn->dn.fz=true->dn.fl=F->((ρ y).vv=.nils/\(ρ y).ns.length=0)∨∃b cap size C,(ρ y).vv=.rsl b 0 (ρ y).ns.length cap/\Γ.m b=none/\G b=some (.cells .data (c.Φ.ty cc) size C)/\C.length=(ρ y).ns.length*szOf c.P (c.Φ.ty cc)/\cap*szOf c.P (c.Φ.ty cc)<=size/\(ρ y).ns.length<=cap /\
       ∀j,j<(ρ y).ns.length->∃fs,WtS c.Φ dn (ig ρ g') j (c.Φ.ks cc') ((C.drop (j*szOf c.P (c.Φ.ty cc))).take (szOf c.P (c.Φ.ty cc))) fs/\wgt c.Φ fs<=WU/\∀f∈fs,TOk c.P c.Φ G Γ f:=by
      rcases u3 with ⟨v1,v2⟩ | ⟨b,cap,size,C,v1,v2,v3,v4,v5,v6,v7⟩
      · exact⟨fun _=>0,fun dn _ _ _=>.inl ⟨v1,v2⟩⟩
      · have:∀j,∃n:Nat,j<(ρ y).ns.length->∃fs,(∀dn:Gd,(ρ dd).gg.Le dn->dn.fz=true->dn.fl j=n->WtS c.Φ dn (ig ρ g') j (c.Φ.ks cc') ((C.drop (j*szOf c.P (c.Φ.ty cc))).take (szOf c.P (c.Φ.ty cc))) fs)/\wgt c.Φ fs<=WU/\∀f∈fs,TOk c.P c.Φ G Γ f:=fun j=>by
         by_cases hj:j<(ρ y).ns.length
         · obtain⟨fs,w1,w2,w3⟩:=v7 j hj
           rw [hgd] at w1
           obtain⟨n,hn⟩:=toF_ok b4 w1
           exact⟨n,fun _=>⟨fs,hn,w2,w3⟩⟩
         · exact⟨0,fun h=>absurd h hj⟩
        obtain⟨F,hF⟩:=Classical.axiomOfChoice this
        exact⟨F,fun dn a1 a2 a3=>.inr ⟨b,cap,size,C,v1,v2,v3,v4,v5,v6,fun j hj=>by
         obtain⟨fs,w1,w2,w3⟩:=hF j hj
         exact⟨fs,w1 dn a1 a2 (by rw [a3]),w2,w3⟩⟩⟩
     have hle:(ρ dd).gg.Le ⟨(ρ dd).gg.n,(ρ dd).gg.at_,F,true,(ρ dd).gg.sub⟩:=⟨fun j=>Nat.le_refl _,fun _ _ _ h=>h,fun h=>(by rw [hfz] at h; cases h),rfl⟩
     obtain⟨ρ1,p1,p2,p3,p4,p5⟩:=gset_core (dn:=⟨(ρ dd).gg.n,(ρ dd).gg.at_,F,true,(ρ dd).gg.sub⟩) (w:=false) hgw hle (fun h=>by cases h) rfl b5 b6 h hk
     have hdd:=p2 dd (blt_ok b5)
     have ok1:=eqN_ok (ks:=[0,1,2,3,4,5]) (dd:=dd) (dn:=s.nx) (p5 [] [s.nx] (fun p hp=>by cases hp) (fun d hd=>by rw [List.mem_singleton.1 hd,p3])) fun k=>by rw [p3,hdd]
     have hF:=hF _ hle rfl rfl
     generalize hdn:(⟨(ρ dd).gg.n,(ρ dd).gg.at_,F,true,(ρ dd).gg.sub⟩:Gd)=dn at p3 p5 ok1 hF hle
     have hlim:(List.replicate (ρ y).ns.length WU).length<=LIM:=by rw [List.length_replicate]; exact U.ns_lim _
     have href:isRefA (ρ y).vv=true:=U.vv_ref _
     -- the state between,in the old words
     have hso:∀(s0:SS) (l:List Nat),(eqN s0 dd s.nx l).den ρ1=s0.den ρ1:=fun s0 l=>by
      induction l with
      | nil=>rfl
      | cons k l ih=>exact ih
     have hnx:(eqN (newD (bump s) g' s.nx false s.os (atsEq s dd s.nx) [] [s.nx] (sbOf s.sb dd s.nx)) dd s.nx [0,1,2,3,4,5]).nx=s.nx+1:=by rw [eqN_nx]; rfl
     obtain⟨gs1,hden1⟩:∃gs1,(eqN (newD (bump s) g' s.nx false s.os (atsEq s dd s.nx) [] [s.nx] (sbOf s.sb dd s.nx)) dd s.nx [0,1,2,3,4,5]).den ρ1=⟨(s.den ρ).L,(s.den ρ).os,(s.den ρ).tys,gs1⟩:=by
      rw [hso]
      have eD0:=(SS.agr (fresh_s h) p2).1
      exact⟨_,St.ext' (by have:=congrArg St.L eD0; exact this) (by have:=congrArg St.os eD0; exact this) (by have:=congrArg St.tys eD0; exact this) rfl⟩
     generalize eqN (newD (bump s) g' s.nx false s.os (atsEq s dd s.nx) [] [s.nx] (sbOf s.sb dd s.nx)) dd s.nx [0,1,2,3,4,5]=s1 at p1 ok1 hnx hden1
     obtain⟨q1,q2,q3,q4⟩:=fresh_ok p1 ok1 (.v (ρ y).vv (List.replicate (ρ y).ns.length WU))
     have hs1:=fresh_s p1
     rw [hnx] at q1 q2 q3 q4
     have A:Agr s.nx ρ (ρ1.up (s.nx+1) (.v (ρ y).vv (List.replicate (ρ y).ns.length WU))):=p2.trans q2 (Nat.le_succ _)
     generalize hρ2:ρ1.up (s.nx+1) (.v (ρ y).vv (List.replicate (ρ y).ns.length WU))=ρ2 at q2 q3 q4 A
     have hv':(ρ2 (s.nx+1)).vv=(ρ y).vv:=by rw [q4]; exact U.vv_of href
     have hn':(ρ2 (s.nx+1)).ns=List.replicate (ρ y).ns.length WU:=by rw [q4]; exact U.ns_of hlim
     have hy2:=A y (blt_ok b7)
     have eD:=(SS.agr hs1 (ρ:=ρ1) (ρ':=ρ2) (by rw [hnx]; exact q2)).1
     have eO:osA.map (SO.den ρ2)=osA.map (SO.den ρ):=List.map_congr_left fun o ho=>SO.agr A (List.all_eq_true.1 b8 o ho)
     have hpd:=perm_den r2 ρ
     rw [List.map_append,List.map_singleton] at hpd
     have hq1:=ok1.q
     rw [hden1] at hq1
     have hlt:ig ρ g'<(updG Γ (ig ρ g') dn Γ.ng).ng:=u1
     have hgl:GamLe Γ (updG Γ (ig ρ g') dn Γ.ng):=gamLe_upd (fun _=>by rw [hgd]; exact hle) (Nat.le_refl _)
     have hself:∀{b:Nat} {x:Gh},G b=some x->upd G b x=G:=fun h=>upd_self h
     -- the list made common
     obtain⟨Γ2,hQ⟩:∃Γ2,Q c T G Γ2 ⟨(s.den ρ).L,osA.map (SO.den ρ),.sl (ρ y).vv cc' (ig ρ g') (List.replicate (ρ y).ns.length WU)::(s.den ρ).tys,gs1⟩:=by
      rcases hF with ⟨v1,v2⟩ | ⟨b,cap,size,C,v1,v2,v3,v4,v5,v6,v7⟩
      · refine⟨updG Γ (ig ρ g') dn Γ.ng,?_⟩
        have:=hq1.weak (st':=⟨(s.den ρ).L,osA.map (SO.den ρ),(s.den ρ).tys,gs1⟩) (fun _ _ h=>h) ⟨_,hpd⟩ (fun f h=>h) (fun p h=>h)
        exact⟨this.ml,this.at_,this.ht0,this.rl,this.grow,this.own,this.new,this.nd,this.ht,fun f hf=>by
         rcases List.mem_cons.1 hf with rfl | hf
         · rw [v2]; exact⟨Nat.zero_le _,.inl ⟨v1,rfl⟩⟩
         · exact this.ty f hf,this.gs⟩
      · refine⟨updΓ (updG Γ (ig ρ g') dn Γ.ng) b (.cells cc' (ig ρ g') (List.replicate (ρ y).ns.length WU)),?_⟩
        have:=hq1.pub (osA:=osA.map (SO.den ρ)) (o:=SO.den ρ (.ul y cc g')) (b:=b) (y:=.cells cc' (ig ρ g') (List.replicate (ρ y).ns.length WU)) (g':=.cells .data (c.Φ.ty cc) size C) (tys':=[.sl (ρ y).vv cc' (ig ρ g') (List.replicate (ρ y).ns.length WU)]) hpd (by show slBlk (ρ y).vv=_; rw [v1]; rfl) v2 (fun _ _ _ h=>by rw [v3] at h; cases h) (fun _ _ _ h=>by rw [v3] at h; cases h; exact⟨_,rfl⟩)
         (fun hr hl=>⟨⟨hlt,hrw⟩,fun _ m hm=>List.eq_of_mem_replicate hm,size,C,by rw [upd_same,b3],by rw [List.length_replicate,<-b3]; exact v4,fun j m hj=>by
          have hm:=List.eq_of_mem_replicate (List.mem_of_getElem? hj)
          have hjl:=(List.getElem?_eq_some_iff.1 hj).1
          rw [List.length_replicate] at hjl
          subst hm
          obtain⟨fs,w1,w2,w3⟩:=v7 j hjl
          rw [<-b3]
          refine⟨fs,?_,w2,fun f hf=>((w3 f hf).le (RawLe.refl _) hgl).le hr hl⟩
          show WtS c.Φ ((updG Γ (ig ρ g') dn Γ.ng).gd (ig ρ g')) _ _ _ _ _
          rw [updG_same]; exact w1⟩) (fun f hf=>by
          rw [List.mem_singleton.1 hf]
          exact⟨hlim,.inr (.inr ⟨b,cap,_,size,C,by rw [List.length_replicate]; exact v1,updΓ_same _ _ _,(List.take_length).symm,by rw [upd_same,b3],by rw [<-b3]; exact v5,by rw [List.length_replicate]; exact v6⟩)⟩)
        rw [hself v3] at this
        exact this
     refine⟨G,Γ2,ρ2,_,Ret.refl _,q1,A,?_,Ok.mapS (Ok.eqF ⟨⟨q3.sat.fs,q3.sat.bs,q3.sat.pw,q3.sat.ats,q3.sat.fls,q3.sat.ne,q3.sat.fz,q3.sat.sb⟩,?_⟩ ?_) (subRef_den ?_)⟩
     · show s.nx<=s1.nx+1
       rw [hnx]; omega
     · have e2:(addTy (setO (bump s1) osA) (.sl (s.nx+1) cc' g')).den ρ2=⟨(s.den ρ).L,osA.map (SO.den ρ),.sl (ρ y).vv cc' (ig ρ g') (List.replicate (ρ y).ns.length WU)::(s.den ρ).tys,gs1⟩:=by
        have eD2:=eD.trans hden1
        refine St.ext' (by have:=congrArg St.L eD2; exact this) eO ?_ (by have:=congrArg St.gs eD2; exact this)
        show STF.den ρ2 (.sl (s.nx+1) cc' g')::_=_
        rw [show STF.den ρ2 (.sl (s.nx+1) cc' g')=.sl (ρ y).vv cc' (ig ρ g') (List.replicate (ρ y).ns.length WU) by simp only [STF.den]; rw [hv',hn',ig_agr A b6]]
        congr 1
        have:=congrArg St.tys eD2; exact this
       have hg2:=hQ
       rw [<-e2] at hg2
       exact hg2
     · rw [LE.ev_a,LE.ev_a]
       show (((ρ2 (s.nx+1)).ns.length:Nat):Int)=(((ρ2 y).ns.length:Nat):Int)
       rw [hn',hy2,List.length_replicate]
     · rw [hv',hy2]
 · cases h
end
end Go.Rd
namespace Go.Rd
open Go.Rex Go.RowKit Go.Rt
inductive Sb where
 | vr (y:Nat) | n (e:LE) | z (e:LE) | b (b:BE) | s (x:SC) | v (x:SC)
def lkQ:List (Nat × Sb)->Nat->Option Sb
 | [],_=>none
 | p::l,k=>bif Nat.beq p.1 k then some p.2 else lkQ l k
theorem lkQ_mem:∀{l:List (Nat × Sb)} {k:Nat} {b:Sb},lkQ l k=some b->(k,b)∈l
 | [],_,_,h=>by cases h
 | p::l,k,b,h=>by
   have h:(bif Nat.beq p.1 k then some p.2 else lkQ l k)=some b:=h
   cases hb:Nat.beq p.1 k with
   | true=>rw [hb] at h; cases h; have:=beq_ok hb; subst this; exact List.mem_cons_self ..
   | false=>rw [hb] at h; exact List.mem_cons_of_mem _ (lkQ_mem h)
structure Su where
 base:Nat
 l:List (Nat × Sb)
def Su.get (σ:Su) (k:Nat):Option Sb:=bif Nat.blt k σ.base then some (.vr k) else lkQ σ.l k
def nsS (ρ:Rho):SC->List Nat | .ref y=>(ρ y).ns | _=>[]
def Sb.u (ρ:Rho):Sb->U
 | .vr y=>ρ y
 | .n e=>.n (e.ev ρ).toNat
 | .z e=>.z (e.ev ρ)
 | .b be=>.b (be.ev ρ)
 | .s x=>(match x.den ρ with | .str l m=>.s l m | _=>.n 0)
 | .v x=>.v (x.den ρ) (nsS ρ x)
def Su.up (σ:Su) (ρ:Rho):Rho:=fun k=>match σ.get k with | some b=>b.u ρ | none=>.n 0
def isRS:SC->Bool
 | .ref _=>true | .nils=>true | .nilp=>true | .nilmap=>true | .rpt _ _=>true | .elp _ _ _ _=>true | .ptp _ _=>true | .rmp _=>true | .osl _ _=>true
 | _=>false
theorem isRS_ref {x:SC} (h:isRS x=true) (ρ:Rho):isRefA (x.den ρ)=true:=by
 cases x<;>first | (cases h; done) | skip
 · exact U.vv_ref _
 · rfl
 · rfl
 · rfl
 · rfl
 · show isRefA (elpA _ _)=true; unfold elpA; split<;>rfl
 · show isRefA (ptpA _ _)=true; unfold ptpA; split<;>rfl
 · rfl
 · rfl
def Sb.fit (ρ:Rho):Sb->Prop
 | .n e=>0<=e.ev ρ
 | .s x=>(strOf x).isSome=true
 | .v x=>isRS x=true
 | _=>True
def SuOk (ρ:Rho) (σ:Su):Prop:=∀p∈σ.l,p.2.fit ρ
def Sb.fitB (s:SS):Sb->Bool
 | .n e=>ent s e
 | .s x=>(strOf x).isSome
 | .v x=>isRS x
 | _=>true
theorem Sb.fitB_ok {s:SS} {b:Sb} {ρ:Rho} (h:b.fitB s=true) (hs:Sat ρ s):b.fit ρ:=by
 cases b with
 | n e=>exact ent_ok h hs
 | s x=>exact h
 | v x=>exact h
 | _=>trivial
theorem Su.fit {σ:Su} {ρ:Rho} (h:SuOk ρ σ) {k:Nat} {b:Sb} (hb:σ.get k=some b):b.fit ρ:=by
 unfold Su.get at hb
 cases hc:Nat.blt k σ.base with
 | true=>rw [hc] at hb; cases hb; trivial
 | false=>rw [hc] at hb; exact h _ (lkQ_mem hb)
theorem Su.up_at {σ:Su} {ρ:Rho} {k:Nat} {b:Sb} (hb:σ.get k=some b):σ.up ρ k=b.u ρ:=by unfold Su.up; rw [hb]
theorem map_some {α β:Type} {o:Option α} {f:α->β} {b:β} (h:o.map f=some b):∃a,o=some a/\b=f a:=by
 cases o with
 | none=>cases h
 | some a=>cases h; exact⟨a,rfl,rfl⟩
theorem blt_of' {a b:Nat} (h:a<b):Nat.blt a b=true:=Nat.ble_eq_true_of_le h
theorem Su.agr (σ:Su) (ρ:Rho):Agr σ.base ρ (σ.up ρ):=fun i hi=>by
 have:σ.get i=some (.vr i):=by unfold Su.get; rw [blt_of' hi]; rfl
 rw [Su.up_at this]; rfl
theorem ns_v (ρ:Rho) (x:SC):(Sb.u ρ (.v x)).ns=nsS ρ x:=by
 show (U.v (x.den ρ) (nsS ρ x)).ns=_
 refine U.ns_of ?_
 cases x<;>first | exact U.ns_lim _ | exact Nat.zero_le _
def sA (σ:Su):At->Option LE
 | .n k=>(match σ.get k with | some (.vr y)=>some (.a (.n y)) | some (.n e)=>some e | _=>none)
 | .z k=>(match σ.get k with | some (.vr y)=>some (.a (.z y)) | some (.z e)=>some e | _=>none)
 | .len k=>(match σ.get k with | some (.vr y)=>some (.a (.len y)) | some (.v (.ref y))=>some (.a (.len y)) | some (.v .nils)=>some (.k 0) | _=>none)
 | .wt k=>(match σ.get k with | some (.vr y)=>some (.a (.wt y)) | some (.v (.ref y))=>some (.a (.wt y)) | some (.v .nils)=>some (.k 0) | _=>none)
 | .sl k=>(match σ.get k with | some (.vr y)=>some (.a (.sl y)) | some (.s (.str y))=>some (.a (.sl y)) | some (.s (.strc l _))=>some (.k l) | _=>none)
 | .gn k b=>(match σ.get k with | some (.vr y)=>some (.a (.gn y b)) | _=>none)
section
variable {c:Cx} {T:Tm} {G G':GH} {Γ Γ':Gam} {ρ ρ':Rho} {s s':SS} {σ:Su}
theorem sA_ok {a:At} {e:LE} (hσ:SuOk ρ σ) (h:sA σ a=some e):e.ev ρ=a.ev (σ.up ρ):=by
 cases a with
 | n k =>
   unfold sA at h
   simp only at h
   split at h
   · rename_i y hg; cases h; rw [LE.ev_a]; simp only [At.ev]; rw [Su.up_at hg]; rfl
   · rename_i e' hg
     cases h
     have hf:0<=e.ev ρ:=Su.fit hσ hg
     simp only [At.ev]; rw [Su.up_at hg]; show _=(((e.ev ρ).toNat:Nat):Int); omega
   · cases h
 | z k =>
   unfold sA at h
   simp only at h
   split at h
   · rename_i y hg; cases h; rw [LE.ev_a]; simp only [At.ev]; rw [Su.up_at hg]; rfl
   · rename_i e' hg; cases h; simp only [At.ev]; rw [Su.up_at hg]; rfl
   · cases h
 | len k =>
   unfold sA at h
   simp only at h
   split at h
   · rename_i y hg; cases h; rw [LE.ev_a]; simp only [At.ev]; rw [Su.up_at hg]; rfl
   · rename_i y hg; cases h; rw [LE.ev_a]; simp only [At.ev]; rw [Su.up_at hg,ns_v]; rfl
   · rename_i hg; cases h; rw [LE.ev_k]; simp only [At.ev]; rw [Su.up_at hg,ns_v]; rfl
   · cases h
 | wt k =>
   unfold sA at h
   simp only at h
   split at h
   · rename_i y hg; cases h; rw [LE.ev_a]; simp only [At.ev]; rw [Su.up_at hg]; rfl
   · rename_i y hg; cases h; rw [LE.ev_a]; simp only [At.ev]; rw [Su.up_at hg,ns_v]; rfl
   · rename_i hg; cases h; rw [LE.ev_k]; simp only [At.ev]; rw [Su.up_at hg,ns_v]; rfl
   · cases h
 | sl k =>
   unfold sA at h
   simp only at h
   split at h
   · rename_i y hg; cases h; rw [LE.ev_a]; simp only [At.ev]; rw [Su.up_at hg]; rfl
   · rename_i y hg; cases h; rw [LE.ev_a]; simp only [At.ev]; rw [Su.up_at hg]; exact congrArg (fun n:Nat=>(n:Int)) (U.sl_of (m:=(ρ y).sm) (U.sl_lim (ρ y))).symm
   · rename_i l m hg; cases h; rw [LE.ev_k]; simp only [At.ev]; rw [Su.up_at hg]; exact congrArg (fun n:Nat=>(n:Int)) (U.sl_of (m:=m) (strOf_lim (x:=.strc l m) (ρ:=ρ) (m:=m) (Su.fit hσ hg) rfl)).symm
   · cases h
 | gn k b =>
   unfold sA at h
   simp only at h
   split at h
   · rename_i y hg; cases h; rw [LE.ev_a]; simp only [At.ev]; rw [Su.up_at hg]; rfl
   · cases h
def sT (σ:Su):List (Int × At)->Option LE
 | []=>some (.k 0)
 | p::l=>(match sA σ p.2,sT σ l with | some e,some r=>some ((e.mulc p.1).add r) | _,_=>none)
theorem sT_ok (hσ:SuOk ρ σ):∀{l:List (Int × At)} {e:LE},sT σ l=some e->e.ev ρ=evT (σ.up ρ) l
 | [],e,h=>by cases h; rw [LE.ev_k]; rfl
 | p::l,e,h=>by
   unfold sT at h
   split at h
   · rename_i e1 r h1 h2
     cases h
     rw [LE.ev_add,LE.ev_mulc,sA_ok hσ h1,sT_ok hσ h2]; rfl
   · cases h
def sE (σ:Su) (e:LE):Option LE:=(sT σ e.ts).map fun r=>r.addc e.c
theorem sE_ok {e e':LE} (hσ:SuOk ρ σ) (h:sE σ e=some e'):e'.ev ρ=e.ev (σ.up ρ):=by
 unfold sE at h
 cases ht:sT σ e.ts with
 | none=>rw [ht] at h; cases h
 | some r=>rw [ht] at h; cases h; rw [LE.ev_addc,sT_ok hσ ht]; unfold LE.ev; omega
def sBE (σ:Su):BE->Option BE
 | .k b=>some (.k b)
 | .v k=>(match σ.get k with | some (.vr y)=>some (.v y) | some (.b b)=>some b | _=>none)
 | .nv k=>(match σ.get k with | some (.vr y)=>some (.nv y) | some (.b b)=>some b.not | _=>none)
 | .ge e=>(sE σ e).map .ge
 | .eq e=>(sE σ e).map .eq
 | .ne e=>(sE σ e).map .ne
theorem sBE_ok {b b':BE} (hσ:SuOk ρ σ) (h:sBE σ b=some b'):b'.ev ρ=b.ev (σ.up ρ):=by
 have lin:∀{e:LE} {f:LE->BE} {b':BE},(sE σ e).map f=some b'->∃e',b'=f e'/\e'.ev ρ=e.ev (σ.up ρ):=fun {e f b'} h=>by
  cases he:sE σ e with
  | none=>rw [he] at h; cases h
  | some e'=>rw [he] at h; cases h; exact⟨e',rfl,sE_ok hσ he⟩
 cases b with
 | k b=>cases h; rfl
 | v k =>
   unfold sBE at h
   simp only at h
   split at h
   · rename_i y hg; cases h; simp only [BE.ev]; rw [Su.up_at hg]; rfl
   · rename_i b hg; cases h; simp only [BE.ev]; rw [Su.up_at hg]; rfl
   · cases h
 | nv k =>
   unfold sBE at h
   simp only at h
   split at h
   · rename_i y hg; cases h; simp only [BE.ev]; rw [Su.up_at hg]; rfl
   · rename_i b hg; cases h; rw [BE.ev_not]; simp only [BE.ev]; rw [Su.up_at hg]; rfl
   · cases h
 | ge e=>obtain⟨e',rfl,he⟩:=lin h; simp only [BE.ev,he]
 | eq e=>obtain⟨e',rfl,he⟩:=lin h; simp only [BE.ev,he]
 | ne e=>obtain⟨e',rfl,he⟩:=lin h; simp only [BE.ev,he]
def sY (σ:Su) (k:Nat):Option Nat:=match σ.get k with | some (.vr y)=>some y | _=>none
theorem sY_ok {k y:Nat} (h:sY σ k=some y):σ.up ρ k=ρ y:=by
 unfold sY at h
 split at h
 · rename_i y' hg; cases h; exact Su.up_at hg
 · cases h
def sR (σ:Su) (k:Nat):Option Nat:=match σ.get k with | some (.vr y)=>some y | some (.v (.ref y))=>some y | _=>none
theorem sR_ok {k y:Nat} (h:sR σ k=some y):(σ.up ρ k).vv=(ρ y).vv/\(σ.up ρ k).ns=(ρ y).ns:=by
 unfold sR at h
 split at h
 · rename_i y' hg; cases h; rw [Su.up_at hg]; exact⟨rfl,rfl⟩
 · rename_i y' hg; cases h; rw [Su.up_at hg,ns_v]; exact⟨U.vv_of (U.vv_ref _),rfl⟩
 · cases h
def sC (σ:Su):SC->Option SC
 | .int k e=>(sE σ e).map (.int k)
 | .bool b=>(sBE σ b).map .bool
 | .str x=>(match σ.get x with | some (.vr y)=>some (.str y) | some (.s x)=>some x | _=>none)
 | .strc l m=>some (.strc l m)
 | .flt k x=>(sY σ x).map (.flt k)
 | .fltc k b=>some (.fltc k b)
 | .ref x=>(match σ.get x with | some (.vr y)=>some (.ref y) | some (.v x)=>some x | _=>none)
 | .nils=>some .nils | .nilp=>some .nilp | .nilmap=>some .nilmap | .nilfunc=>some .nilfunc
 | .rpt b o=>(sY σ b).map fun y=>.rpt y o
 | .elp x e sz o=>(match sR σ x,sE σ e with | some y,some e'=>some (.elp y e' sz o) | _,_=>none)
 | .ptp x o=>(sR σ x).map fun y=>.ptp y o
 | .rmp b=>(sY σ b).map .rmp
 | .fn f=>some (.fn f)
 | .osl b n=>(sY σ b).map fun y=>.osl y n
theorem sC_ok {x x':SC} (hσ:SuOk ρ σ) (h:sC σ x=some x'):x'.den ρ=x.den (σ.up ρ):=by
 have mp:∀{α β:Type} {o:Option α} {f:α->β} {b:β},o.map f=some b->∃a,o=some a/\b=f a:=fun {α β o f b} h=>by
  cases o with
  | none=>cases h
  | some a=>cases h; exact⟨a,rfl,rfl⟩
 cases x with
 | int k e=>obtain⟨e',h1,rfl⟩:=mp h; simp only [SC.den,sE_ok hσ h1]
 | bool b=>obtain⟨e',h1,rfl⟩:=mp h; simp only [SC.den,sBE_ok hσ h1]
 | str x =>
   unfold sC at h
   simp only at h
   split at h
   · rename_i y hg; cases h; simp only [SC.den]; rw [Su.up_at hg]; rfl
   · rename_i x1 hg
     cases h
     have hf:(strOf x').isSome=true:=Su.fit hσ hg
     obtain⟨q,hq⟩:=Option.isSome_iff_exists.1 hf
     obtain⟨l,m,e1,_⟩:=strOf_den hq ρ
     show x'.den ρ=AV.str (σ.up ρ x).sl (σ.up ρ x).sm
     rw [Su.up_at hg,e1]
     show _=AV.str (Sb.u ρ (.s x')).sl (Sb.u ρ (.s x')).sm
     unfold Sb.u
     simp only [e1]
     rw [U.sl_of (strOf_lim hf e1)]; rfl
   · cases h
 | strc l m=>cases h; rfl
 | flt k x=>obtain⟨y,h1,rfl⟩:=mp h; simp only [SC.den]; rw [sY_ok h1]
 | fltc k b=>cases h; rfl
 | ref x =>
   unfold sC at h
   simp only at h
   split at h
   · rename_i y hg; cases h; simp only [SC.den]; rw [Su.up_at hg]; rfl
   · rename_i x1 hg
     cases h
     have hf:isRS x'=true:=Su.fit hσ hg
     show x'.den ρ=(σ.up ρ x).vv
     rw [Su.up_at hg]
     exact (U.vv_of (isRS_ref hf ρ)).symm
   · cases h
 | nils=>cases h; rfl
 | nilp=>cases h; rfl
 | nilmap=>cases h; rfl
 | nilfunc=>cases h; rfl
 | rpt b o=>obtain⟨y,h1,rfl⟩:=mp h; simp only [SC.den]; rw [sY_ok h1]
 | elp x e sz o =>
   unfold sC at h
   simp only at h
   split at h
   · rename_i y e' h1 h2
     cases h
     simp only [SC.den]; rw [(sR_ok h1).1,sE_ok hσ h2]
   · cases h
 | ptp x o=>obtain⟨y,h1,rfl⟩:=mp h; simp only [SC.den]; rw [(sR_ok h1).1]
 | rmp b=>obtain⟨y,h1,rfl⟩:=mp h; simp only [SC.den]; rw [sY_ok h1]
 | fn f=>cases h; rfl
 | osl b n=>obtain⟨y,h1,rfl⟩:=mp h; simp only [SC.den]; rw [sY_ok h1]
def sCs (σ:Su):List SC->Option (List SC)
 | []=>some []
 | x::l=>(match sC σ x,sCs σ l with | some y,some r=>some (y::r) | _,_=>none)
theorem sCs_ok (hσ:SuOk ρ σ):∀{l l':List SC},sCs σ l=some l'->denL ρ l'=denL (σ.up ρ) l
 | [],_,h=>by cases h; rfl
 | x::l,l',h=>by
   unfold sCs at h
   split at h
   · rename_i y r h1 h2
     cases h
     show y.den ρ::denL ρ r=_
     rw [sC_ok hσ h1,sCs_ok hσ h2]; rfl
   · cases h
def sPs (σ:Su):List (Bool × List SC)->Option (List (Bool × List SC))
 | []=>some []
 | p::l=>(match sCs σ p.2,sPs σ l with | some y,some r=>some ((p.1,y)::r) | _,_=>none)
theorem sPs_ok (hσ:SuOk ρ σ):∀{l l':List (Bool × List SC)},sPs σ l=some l'->l'.map (den1 ρ)=l.map (den1 (σ.up ρ))
 | [],_,h=>by cases h; rfl
 | p::l,l',h=>by
   unfold sPs at h
   split at h
   · rename_i y r h1 h2
     cases h
     rw [List.map_cons,List.map_cons,sPs_ok hσ h2]
     congr 1
     unfold den1
     rw [sCs_ok hσ h1]
   · cases h
def sV (σ:Su):SV->Option SV
 | .v ag cs=>(sCs σ cs).map (.v ag)
 | .tup l=>(sPs σ l).map .tup
 | .undef=>some .undef
 | .clo f cs=>(sCs σ cs).map (.clo f)
theorem sV_ok {v v':SV} (hσ:SuOk ρ σ) (h:sV σ v=some v'):v'.den ρ=v.den (σ.up ρ):=by
 cases v with
 | v ag cs =>
   obtain⟨r,hc,rfl⟩:=map_some (o:=sCs σ cs) h
   simp only [SV.den,den1]; rw [sCs_ok hσ hc]
 | tup l =>
   obtain⟨r,hc,rfl⟩:=map_some (o:=sPs σ l) h
   simp only [SV.den]; rw [sPs_ok hσ hc]
 | undef=>cases h; rfl
 | clo f cs =>
   obtain⟨r,hc,rfl⟩:=map_some (o:=sCs σ cs) h
   simp only [SV.den]; rw [sCs_ok hσ hc]
def sI (σ:Su):Nat->Option Nat
 | 0=>some 0
 | k+1=>(sY σ k).map (·+1)
theorem sI_ok {g g':Nat} (h:sI σ g=some g'):ig ρ g'=ig (σ.up ρ) g:=by
 cases g with
 | zero=>cases h; rfl
 | succ k =>
   obtain⟨y,hc,rfl⟩:=map_some (o:=sY σ k) h
   show (ρ y).nn=_; rw [<-sY_ok (ρ:=ρ) hc]; rfl
def sTF (σ:Su):STF->Option STF
 | .sl x c g=>(match sR σ x,sI σ g with | some y,some g'=>some (.sl y c g') | _,_=>none)
 | .pt x c g=>(match sR σ x,sI σ g with | some y,some g'=>some (.pt y c g') | _,_=>none)
 | .mp x c g=>(match sR σ x,sI σ g with | some y,some g'=>some (.mp y c g') | _,_=>none)
 | .el x c e off v=>(match sR σ x,sE σ e,sC σ v with | some y,some e',some v'=>some (.el y c e' off v') | _,_,_=>none)
theorem sTF_ok {f f':STF} (hσ:SuOk ρ σ) (h:sTF σ f=some f'):f'.den ρ=f.den (σ.up ρ):=by
 cases f with
 | el x c e off v =>
   unfold sTF at h
   simp only at h
   split at h
   · rename_i y e' v' h1 h2 h3
     cases h
     simp only [STF.den,(sR_ok (ρ:=ρ) h1).1,sE_ok hσ h2,sC_ok hσ h3]
   · cases h
 | _ =>
   unfold sTF at h
   simp only at h
   split at h
   · rename_i y g' h1 h2
     cases h
     obtain⟨e1,e2⟩:=sR_ok (ρ:=ρ) h1
     simp only [STF.den,e1,e2,sI_ok (ρ:=ρ) h2]
   · cases h
def sSO (σ:Su):SO->Option SO
 | .loc b el cs=>(match sY σ b,sCs σ cs with | some y,some r=>some (.loc y el r) | _,_=>none)
 | .lst x c=>(sR σ x).map fun y=>.lst y c
 | .em b pk=>(sY σ b).map fun y=>.em y pk
 | .ul x c g=>(match sR σ x,sI σ g with | some y,some g'=>some (.ul y c g') | _,_=>none)
 | .am b g k=>(match sY σ b,sI σ g with | some y,some g'=>some (.am y g' k) | _,_=>none)
 | .im b e=>(match sY σ b,sE σ e with | some y,some e'=>some (.im y e') | _,_=>none)
 | .bl x m el=>(match sR σ x,sR σ m with | some y,some m'=>some (.bl y m' el) | _,_=>none)
theorem sSO_ok {o o':SO} (hσ:SuOk ρ σ) (h:sSO σ o=some o'):o'.den ρ=o.den (σ.up ρ):=by
 cases o with
 | loc b el cs =>
   unfold sSO at h
   simp only at h
   split at h
   · rename_i y r h1 h2; cases h; simp only [SO.den]; rw [<-sY_ok (ρ:=ρ) h1,sCs_ok hσ h2]
   · cases h
 | lst x c =>
   obtain⟨y,hc,rfl⟩:=map_some (o:=sR σ x) h
   obtain⟨e1,e2⟩:=sR_ok (ρ:=ρ) hc; simp only [SO.den,e1,e2]
 | em b pk =>
   obtain⟨y,hc,rfl⟩:=map_some (o:=sY σ b) h
   simp only [SO.den]; rw [<-sY_ok (ρ:=ρ) hc]
 | ul x c g =>
   unfold sSO at h
   simp only at h
   split at h
   · rename_i y g' h1 h2; cases h; obtain⟨e1,e2⟩:=sR_ok (ρ:=ρ) h1; simp only [SO.den,e1,e2,sI_ok (ρ:=ρ) h2]
   · cases h
 | am b g k =>
   unfold sSO at h
   simp only at h
   split at h
   · rename_i y g' h1 h2; cases h; simp only [SO.den,sI_ok (ρ:=ρ) h2]; rw [<-sY_ok (ρ:=ρ) h1]
   · cases h
 | im b e =>
   unfold sSO at h
   simp only at h
   split at h
   · rename_i y e' h1 h2; cases h; simp only [SO.den,sE_ok hσ h2]; rw [<-sY_ok (ρ:=ρ) h1]
   · cases h
 | bl x m el =>
   unfold sSO at h
   simp only at h
   split at h
   · rename_i y m' h1 h2; cases h; obtain⟨e1,_⟩:=sR_ok (ρ:=ρ) h1; obtain⟨_,e2⟩:=sR_ok (ρ:=ρ) h2; simp only [SO.den,e1,e2]
   · cases h
end
end Go.Rd
namespace Go.Rd
open Go.Rex Go.RowKit Go.Rt
def upO (s:SS):SO->SO->Bool
 | .im b e,.im b' e'=>Nat.beq b b'&&ent s (e.sub e')
 | _,_=>false
def takeU (s:SS) (o:SO):List SO->Option (List SO)
 | []=>none
 | x::l=>bif o.same x||upO s o x then some l else (takeU s o l).map (x::·)
theorem takeU_ok {ρ:Rho} {s:SS} {o:SO} (hs:Sat ρ s):∀{l l':List SO},takeU s o l=some l'->∃x,(o.den ρ).blk=(x.den ρ).blk/\(∀P Φ G Γ,OwnOk P Φ G Γ (x.den ρ)->OwnOk P Φ G Γ (o.den ρ))/\l.Perm (l'++[x])
 | [],_,h=>by cases h
 | x::l,l',h=>by
   have h:(bif o.same x||upO s o x then some l else (takeU s o l).map (x::·))=some l':=h
   cases hb:(o.same x||upO s o x) with
   | true =>
     rw [hb] at h; cases h
     rw [Bool.or_eq_true] at hb
     rcases hb with hb | hb
     · have e:=SO.same_ok hb ρ
       exact⟨x,by rw [e],fun P Φ G Γ h=>by rw [e]; exact h,(List.perm_append_singleton _ _).symm⟩
     · refine⟨x,?_,?_,(List.perm_append_singleton _ _).symm⟩
       all_goals cases o<;>first | (cases hb; done) | skip
       all_goals cases x<;>first | (cases hb; done) | skip
       all_goals rename_i b e b' e'
       all_goals have hb:(Nat.beq b b'&&ent s (e.sub e'))=true:=hb
       all_goals rw [Bool.and_eq_true] at hb
       all_goals have h1:=Nat.eq_of_beq_eq_true hb.1
       all_goals subst h1
       · rfl
       · intro P Φ G Γ ⟨h0,es,h1,h2⟩
         have h3:=ent_ok hb.2 hs
         rw [LE.ev_sub] at h3
         refine⟨h0,es,h1,fun p hp=>?_⟩
         obtain⟨a1,n,a2,a3⟩:=h2 p hp
         exact⟨a1,n,a2,by omega⟩
   | false =>
     rw [hb] at h
     obtain⟨r,h1,rfl⟩:=map_some h
     obtain⟨y,h2,h3,h4⟩:=takeU_ok hs h1
     exact⟨y,h2,h3,h4.cons _⟩
def nilO (Φ:Forms) (s:SS) (σ:Su):SO->Bool
 | .lst x c=>(match σ.get x with | some (.v .nils)=>!Φ.uni c | _=>false)
 | .ul x c g=>(match σ.get x,sI σ g with | some (.v .nils),some g'=>gIn s g' | _,_=>false)
 | _=>false
def subO (Φ:Forms) (s:SS) (σ:Su):List SO->List SO->Bool
 | [],_=>true
 | o::os,rest=>bif nilO Φ s σ o then subO Φ s σ os rest else (match sSO σ o with
   | some o'=>(match takeU s o' rest with | some r=>subO Φ s σ os r | none=>false)
   | none=>false)
def isNilG (σ:Su) (x:Nat):Bool:=match σ.get x with | some (.v .nils)=>true | _=>false
def hasEl (s:SS):STF->Bool
 | .el x c e o v=>(match fEl s.ty x c e o with | some w=>v.same w | none=>false)
 | _=>false
def subT (s:SS) (σ:Su) (f:STF):Bool:=(match f with | .sl x _ _=>isNilG σ x | _=>false)||(match sTF σ f with | some f'=>hasTy s f'||hasEl s f' | none=>false)
def subG (s:SS) (σ:Su) (p:Nat × Nat × Bool):Bool:=match sI σ p.1,sY σ p.2.1 with
 | some g',some d'=>s.gs.any fun q=>Nat.beq q.1 g'&&(Nat.beq q.2.1 d'&&(!p.2.2||q.2.2))
 | _,_=>false
def subF (s:SS) (σ:Su) (e:LE):Bool:=match sE σ e with | some e'=>ent s e' | none=>false
def subB (s:SS) (σ:Su) (p:Nat × Bool):Bool:=match σ.get p.1 with
 | some (.vr y)=>(match lkB s.bs y with | some b=>b==p.2 | none=>false)
 | some (.b be)=>(match kb s be with | some b=>b==p.2 | none=>false)
 | _=>false
def eqE (s:SS) (a b:LE):Bool:=a.same b||(ent s (a.sub b)&&ent s (b.sub a))
def subP (s:SS) (σ:Su) (p:Nat × LE × LE):Bool:=match sE σ p.2.1,sE σ p.2.2 with
 | some j,some w=>ent s j&&(bif isNilG σ p.1 then eqE s w j else (match sR σ p.1 with
   | some y=>(match pwOf s y j with | some w2=>eqE s w2 w | none=>false)
   | none=>false))
 | _,_=>false
def subA (s:SS) (σ:Su) (p:Nat × SC × LE):Bool:=match sY σ p.1,sC σ p.2.1,sE σ p.2.2 with
 | some d,some x,some e=>s.ats.any fun q=>Nat.beq q.1 d&&(q.2.1.same x&&eqE s q.2.2 e)
 | _,_,_=>false
def subFl (s:SS) (σ:Su) (p:Nat × LE × LE):Bool:=match sY σ p.1,sE σ p.2.1,sE σ p.2.2 with
 | some d,some j,some e=>(match lkFl s.fls d j with | some e2=>eqE s e2 e | none=>false)
 | _,_,_=>false
def subN (s:SS) (σ:Su) (e:LE):Bool:=match sE σ e with | some e'=>neS s e'||(ent s (e'.addc (-1))||ent s ((LE.k (-1)).sub e')) | none=>false
def subZ (s:SS) (σ:Su) (d:Nat):Bool:=match sY σ d with | some y=>s.fz.contains y | none=>false
def subS (s:SS) (σ:Su) (p:Nat × Nat):Bool:=match sY σ p.1,sI σ p.2 with
 | some d,some g=>(match lkSb s.sb d with | some g2=>Nat.beq g2 g | none=>false)
 | _,_=>false
def subL (s:SS) (σ:Su) (p:Nat × SV):Bool:=match sV σ p.2,lkS s.L p.1 with
 | some v,some w=>v.same w
 | _,_=>false
def subSat (s0 s:SS) (σ:Su):Bool :=
 σ.l.all (fun p=>p.2.fitB s)&&(s0.fs.all (subF s σ)&&(s0.bs.all (subB s σ)&&(s0.pw.all (subP s σ)&&(s0.ats.all (subA s σ)&&(s0.fls.all (subFl s σ)&&(s0.ne.all (subN s σ)&&(s0.fz.all (subZ s σ)&&s0.sb.all (subS s σ))))))))
def sub (Φ:Forms) (s0 s:SS) (σ:Su):Bool:=subSat s0 s σ&&(s0.L.all (subL s σ)&&(subO Φ s σ s0.os s.os&&(s0.ty.all (subT s σ)&&s0.gs.all (subG s σ))))
section
variable {c:Cx} {T:Tm} {G G':GH} {Γ Γ':Gam} {ρ ρ':Rho} {s0 s s':SS} {σ:Su}
theorem hasEl_ok {f:STF} (h:hasEl s f=true) (hk:Ok c T G Γ ρ s):TOk c.P c.Φ G Γ (f.den ρ):=by
 cases f with
 | el x cc e o v =>
   unfold hasEl at h
   simp only at h
   split at h
   · rename_i w hw
     obtain⟨e',m1,m2⟩:=fEl_mem hw
     have:=hk.ty m1
     simp only [STF.den] at this ⊢
     rw [m2 ρ,<-SC.same_ok h ρ] at this
     exact this
   · cases h
 | sl x cc g=>cases h
 | pt x cc g=>cases h
 | mp x cc g=>cases h
theorem eqE_ok {a b:LE} (h:eqE s a b=true) (hs:Sat ρ s):a.ev ρ=b.ev ρ:=by
 unfold eqE at h
 rw [Bool.or_eq_true,Bool.and_eq_true] at h
 rcases h with h | ⟨h1,h2⟩
 · exact LE.same_ok h ρ
 · have a1:=ent_ok h1 hs
   have a2:=ent_ok h2 hs
   rw [LE.ev_sub] at a1 a2
   omega
theorem isNilG_ok {x:Nat} (h:isNilG σ x=true):(σ.up ρ x).vv=.nils/\(σ.up ρ x).ns=[]:=by
 unfold isNilG at h
 split at h
 · rename_i hg; rw [Su.up_at hg,ns_v]; exact⟨rfl,rfl⟩
 · cases h
theorem subSat_ok (h:subSat s0 s σ=true) (hs:Sat ρ s):SuOk ρ σ/\Sat (σ.up ρ) s0:=by
 unfold subSat at h
 simp only [Bool.and_eq_true,List.all_eq_true] at h
 obtain⟨h0,h1,h2,h3,h4,h5,h6,h7,h8⟩:=h
 have hσ:SuOk ρ σ:=fun p hp=>Sb.fitB_ok (h0 p hp) hs
 refine⟨hσ,fun f hf=>?_,fun p hp=>?_,fun p hp=>?_,fun p hp=>?_,fun p hp=>?_,fun e he=>?_,fun d hd=>?_,fun p hp=>?_⟩
 · have:=h1 f hf
   unfold subF at this
   split at this
   · rename_i e' he; rw [<-sE_ok hσ he]; exact ent_ok this hs
   · cases this
 · have:=h2 p hp
   unfold subB at this
   split at this
   · rename_i y hg
     split at this
     · rename_i b hb
       rw [beq_iff_eq] at this
       rw [Su.up_at hg]; show (ρ y).bb=_; rw [hs.bs _ (lkB_ok hb)]; exact this
     · cases this
   · rename_i be hg
     split at this
     · rename_i b hb
       rw [beq_iff_eq] at this
       rw [Su.up_at hg]; show be.ev ρ=_; rw [kb_ok hb hs]; exact this
     · cases this
   · cases this
 · have:=h3 p hp
   unfold subP at this
   split at this
   · rename_i j w hj hw
     rw [Bool.and_eq_true] at this
     obtain⟨t1,t2⟩:=this
     have hpos:=ent_ok t1 hs
     rw [<-sE_ok hσ hj,<-sE_ok hσ hw]
     refine⟨hpos,?_⟩
     cases hn:isNilG σ p.1 with
     | true =>
       rw [hn] at t2
       rw [(isNilG_ok (ρ:=ρ) hn).2,eqE_ok t2 hs]; simp
     | false =>
       rw [hn] at t2
       simp only [cond_false] at t2
       split at t2
       · rename_i y hy
         split at t2
         · rename_i w2 hw2
           rw [(sR_ok (ρ:=ρ) hy).2,pwOf_ok hw2 hs]
           exact eqE_ok t2 hs
         · cases t2
       · cases t2
   · cases this
 · have:=h4 p hp
   unfold subA at this
   split at this
   · rename_i d x e hd hx he
     obtain⟨q,m1,m2⟩:=List.any_eq_true.1 this
     simp only [Bool.and_eq_true] at m2
     have hA:=hs.ats _ m1
     unfold AtF at hA ⊢
     have e3:q.2.2.ev ρ=p.2.2.ev (σ.up ρ):=by rw [eqE_ok m2.2.2 hs,sE_ok hσ he]
     have e4:q.2.1.den ρ=p.2.1.den (σ.up ρ):=by rw [SC.same_ok m2.2.1 ρ,sC_ok hσ hx]
     rw [sY_ok (ρ:=ρ) hd,<-beq_ok m2.1,<-e3,<-e4]; exact hA
   · cases this
 · have:=h5 p hp
   unfold subFl at this
   split at this
   · rename_i d j e hd hj he
     split at this
     · rename_i e2 hl
       obtain⟨j',m1,m2⟩:=lkFl_ok hl
       obtain⟨a1,a2,a3⟩:=hs.fls _ m1
       have a1:0<=j'.ev ρ:=a1
       have a2:(ρ d).gg.fz=true:=a2
       have a3:(((ρ d).gg.fl (j'.ev ρ).toNat:Nat):Int)=e2.ev ρ:=a3
       have e3:e2.ev ρ=p.2.2.ev (σ.up ρ):=by rw [eqE_ok this hs,sE_ok hσ he]
       have e4:j'.ev ρ=p.2.1.ev (σ.up ρ):=by rw [m2 ρ,sE_ok hσ hj]
       rw [sY_ok (ρ:=ρ) hd,<-e3,<-e4]; exact⟨a1,a2,a3⟩
     · cases this
   · cases this
 · have:=h6 e he
   unfold subN at this
   split at this
   · rename_i e' hh
     rw [<-sE_ok hσ hh]
     rw [Bool.or_eq_true,Bool.or_eq_true] at this
     rcases this with h | h | h
     · exact neS_ok h hs
     · have:=ent_ok h hs; rw [LE.ev_addc] at this; omega
     · have:=ent_ok h hs; rw [LE.ev_sub,LE.ev_k] at this; omega
   · cases this
 · have:=h7 d hd
   unfold subZ at this
   split at this
   · rename_i y hy; rw [sY_ok (ρ:=ρ) hy]; exact hs.fz y (List.contains_iff_mem.1 this)
   · cases this
 · have:=h8 p hp
   unfold subS at this
   split at this
   · rename_i d g hd hg
     split at this
     · rename_i g2 hl
       have e:=beq_ok this
       subst e
       have:=hs.sb _ (lkSb_ok hl)
       rw [sY_ok (ρ:=ρ) hd,<-sI_ok (ρ:=ρ) hg]; exact this
     · cases this
   · cases this
theorem Q.addNil {st:St} {o:Own} {O:List Own} (hq:Q c T G Γ ⟨st.L,O,st.tys,st.gs⟩) (hb:o.blk=none) (ho:OwnOk c.P c.Φ G Γ o):Q c T G Γ ⟨st.L,O++[o],st.tys,st.gs⟩:=by
 refine⟨hq.ml,hq.at_,hq.ht0,hq.rl,hq.grow,fun x hx=>?_,fun x hx b hbx=>?_,?_,hq.ht,hq.ty,hq.gs⟩
 · rcases List.mem_append.1 hx with hx | hx
   · exact hq.own x hx
   · rw [List.mem_singleton.1 hx]; exact ho
 · rcases List.mem_append.1 hx with hx | hx
   · exact hq.new x hx b hbx
   · rw [List.mem_singleton.1 hx,hb] at hbx; cases hbx
 · show (blks (O++[o])).Nodup
   rw [blks_append]
   have:blks [o]=[]:=by show List.filterMap Own.blk [o]=[]; simp [hb]
   rw [this,List.append_nil]; exact hq.nd
theorem nilO_ok {o:SO} (h:nilO c.Φ s σ o=true) (hσ:SuOk ρ σ) (hk:Ok c T G Γ ρ s):(o.den (σ.up ρ)).blk=none/\OwnOk c.P c.Φ G Γ (o.den (σ.up ρ)):=by
 cases o<;>first | (cases h; done) | skip
 · rename_i x cc
   unfold nilO at h
   simp only at h
   split at h
   · rename_i hg
     rw [Bool.not_eq_true'] at h
     have hn:isNilG σ x=true:=by unfold isNilG; rw [hg]
     obtain⟨e1,e2⟩:=isNilG_ok (ρ:=ρ) hn
     simp only [SO.den,e1,e2]
     exact⟨rfl,h,Nat.zero_le _,.inl ⟨rfl,rfl⟩⟩
   · cases h
 · rename_i x cc g
   unfold nilO at h
   simp only at h
   split at h
   · rename_i g' hg hg'
     have hn:isNilG σ x=true:=by unfold isNilG; rw [hg]
     obtain⟨e1,e2⟩:=isNilG_ok (ρ:=ρ) hn
     simp only [SO.den,e1,e2]
     refine⟨rfl,?_,Nat.zero_le _,.inl ⟨rfl,rfl⟩⟩
     rw [<-sI_ok (ρ:=ρ) hg']; exact gIn_ok h hk
   · cases h
theorem Q.swap {L:List (Nat × AV)} {O1 O2:List Own} {a b:Own} {tys:List TF} {gs:List (Nat × Gd × Bool)} (hb:b.blk=a.blk) (ho:OwnOk c.P c.Φ G Γ a->OwnOk c.P c.Φ G Γ b) (hq:Q c T G Γ ⟨L,O1++a::O2,tys,gs⟩):Q c T G Γ ⟨L,O1++b::O2,tys,gs⟩:=by
 refine⟨hq.ml,hq.at_,hq.ht0,hq.rl,hq.grow,fun x hx=>?_,fun x hx b' hbx=>?_,?_,hq.ht,hq.ty,hq.gs⟩
 · rcases List.mem_append.1 hx with hx | hx
   · exact hq.own x (List.mem_append.2 (.inl hx))
   · rcases List.mem_cons.1 hx with rfl | hx
     · exact ho (hq.own a (List.mem_append.2 (.inr (List.mem_cons_self ..))))
     · exact hq.own x (List.mem_append.2 (.inr (List.mem_cons_of_mem _ hx)))
 · rcases List.mem_append.1 hx with hx | hx
   · exact hq.new x (List.mem_append.2 (.inl hx)) b' hbx
   · rcases List.mem_cons.1 hx with rfl | hx
     · exact hq.new a (List.mem_append.2 (.inr (List.mem_cons_self ..))) b' (by rw [<-hb]; exact hbx)
     · exact hq.new x (List.mem_append.2 (.inr (List.mem_cons_of_mem _ hx))) b' hbx
 · have:=hq.nd
   show (blks (O1++b::O2)).Nodup
   have e:blks (O1++b::O2)=blks (O1++a::O2):=by
    unfold blks
    rw [List.filterMap_append,List.filterMap_append,List.filterMap_cons,List.filterMap_cons,hb]
   rw [e]; exact this
theorem subO_ok {st:St} (hσ:SuOk ρ σ) (hk:Ok c T G Γ ρ s):∀{os rest:List SO} {dn:List Own},subO c.Φ s σ os rest=true->Q c T G Γ ⟨st.L,rest.map (SO.den ρ)++dn,st.tys,st.gs⟩->Q c T G Γ ⟨st.L,os.map (SO.den (σ.up ρ))++dn,st.tys,st.gs⟩
 | [],rest,dn,_,hq=>hq.weak (fun _ _ h=>h) ⟨rest.map (SO.den ρ),List.perm_append_comm⟩ (fun f h=>h) (fun p h=>h)
 | o::os,rest,dn,h,hq=>by
   have h:(bif nilO c.Φ s σ o then subO c.Φ s σ os rest else (match sSO σ o with
    | some o'=>(match takeU s o' rest with | some r=>subO c.Φ s σ os r | none=>false)
    | none=>false))=true:=h
   cases hn:nilO c.Φ s σ o with
   | true =>
     rw [hn] at h
     obtain⟨n1,n2⟩:=nilO_ok hn hσ hk
     have:=subO_ok hσ hk (st:=st) (dn:=dn++[o.den (σ.up ρ)]) h (by rw [<-List.append_assoc]; exact Q.addNil hq n1 n2)
     refine this.weak (fun _ _ h=>h) ⟨[],?_⟩ (fun f h=>h) (fun p h=>h)
     rw [List.append_nil,<-List.append_assoc]
     exact List.perm_append_singleton _ _
   | false =>
     rw [hn] at h
     simp only [cond_false] at h
     split at h
     · rename_i o' ho'
       split at h
       · rename_i r hr
         obtain⟨x,h1,h1',h2⟩:=takeU_ok hk.sat hr
         have e:o'.den ρ=o.den (σ.up ρ):=sSO_ok hσ ho'
         have hp:=perm_den h2 ρ
         rw [List.map_append,List.map_singleton] at hp
         have:=subO_ok hσ hk (st:=st) (dn:=o'.den ρ::dn) h (Q.swap h1 (h1' _ _ _ _) (hq.weak (fun _ _ h=>h) ⟨[],by
          rw [List.append_nil]
          have:=hp.append_right dn
          rwa [List.append_assoc] at this⟩ (fun f h=>h) (fun p h=>h)))
         refine this.weak (fun _ _ h=>h) ⟨[],?_⟩ (fun f h=>h) (fun p h=>h)
         rw [List.append_nil,e]
         exact List.perm_middle
       · cases h
     · cases h
theorem lk_mem:∀{l:List (Nat × AV)} {k:Nat} {v:AV},lk l k=some v->(k,v)∈l
 | [],k,v,h=>by cases h
 | p::l,k,v,h=>by
   have h:(bif Nat.beq p.1 k then some p.2 else lk l k)=some v:=h
   cases hb:Nat.beq p.1 k with
   | true=>rw [hb] at h; cases h; have:=beq_ok hb; subst this; exact List.mem_cons_self ..
   | false=>rw [hb] at h; exact List.mem_cons_of_mem _ (lk_mem h)
theorem sub_ok (h:sub c.Φ s0 s σ=true) (hk:Ok c T G Γ ρ s):Ok c T G Γ (σ.up ρ) s0:=by
 unfold sub at h
 simp only [Bool.and_eq_true] at h
 obtain⟨h1,h2,h3,h4,h5⟩:=h
 obtain⟨hσ,hsat⟩:=subSat_ok h1 hk.sat
 refine⟨hsat,?_⟩
 have hq:=subO_ok hσ hk (st:=s.den ρ) (dn:=[]) h3 (by rw [List.append_nil]; exact hk.q)
 rw [List.append_nil] at hq
 refine⟨hq.ml,fun k v hv=>?_,hq.ht0,hq.rl,hq.grow,hq.own,hq.new,hq.nd,hq.ht,fun f hf=>?_,fun p hp=>?_⟩
 · obtain⟨p,m1,m2⟩:=List.mem_map.1 (lk_mem hv)
   cases m2
   have:=List.all_eq_true.1 h2 p m1
   unfold subL at this
   split at this
   · rename_i v' w hv' hw
     rw [hk.q.at_ _ _ (lkS_den hw),<-SV.same_ok this ρ,sV_ok hσ hv']
   · cases this
 · obtain⟨f0,m1,rfl⟩:=List.mem_map.1 hf
   have:=List.all_eq_true.1 h4 f0 m1
   unfold subT at this
   rw [Bool.or_eq_true] at this
   rcases this with h | h
   · cases f0 with
     | sl x cc g =>
       obtain⟨e1,e2⟩:=isNilG_ok (ρ:=ρ) (show isNilG σ x=true from h)
       simp only [STF.den,e1,e2]
       exact⟨Nat.zero_le _,.inl ⟨rfl,rfl⟩⟩
     | pt x cc g=>cases h
     | mp x cc g=>cases h
     | el _ _ _ _ _=>cases h
   · split at h
     · rename_i f' hf'
       rw [<-sTF_ok (ρ:=ρ) hσ hf']
       rw [Bool.or_eq_true] at h
       rcases h with h | h
       · exact hk.ty (hasTy_ok h)
       · exact hasEl_ok h hk
     · cases h
 · obtain⟨p0,m1,rfl⟩:=List.mem_map.1 hp
   have:=List.all_eq_true.1 h5 p0 m1
   unfold subG at this
   split at this
   · rename_i g' d' hg hd
     obtain⟨q,q1,q2⟩:=List.any_eq_true.1 this
     simp only [Bool.and_eq_true,Bool.or_eq_true,Bool.not_eq_true'] at q2
     obtain⟨k1,k2,k3⟩:=q2
     have k1:=beq_ok k1
     have k2:=beq_ok k2
     obtain⟨t1,t2,t3⟩:=hk.q.gs (ig ρ q.1,(ρ q.2.1).gg,q.2.2) (List.mem_map.2 ⟨q,q1,rfl⟩)
     rw [k1,k2] at t1 t2 t3
     have e1:=sI_ok (ρ:=ρ) hg
     have e2:=sY_ok (ρ:=ρ) hd
     refine⟨by rw [<-e1]; exact t1,by rw [<-e1,e2]; exact t2,fun hw=>?_⟩
     have hw:p0.2.2=true:=hw
     rcases k3 with k3 | k3
     · rw [hw] at k3; cases k3
     · have:=t3 k3
       rw [<-e1,e2]; exact this
   · cases this
end
end Go.Rd
namespace Go.Rd
open Go.Rex Go.RowKit Go.Rt
structure Sp where
 f:Nat
 pre:SS
 ar:List SV
 posts:List (SV × SS)
 str:Nat
 ms:LE
def wIns (ρ:Rho) (gs:List (Nat × Nat × Bool)):List Nat:=(gs.filter fun p=>p.2.2).map fun p=>ig ρ p.1
structure In (P:Program) (Φ:Forms) (G:GH) (Γ:Gam) (ρ:Rho) (s:SS):Prop where
 sat:Sat ρ s
 ht:HT P Φ G Γ
 own:∀o∈s.os,OwnOk P Φ G Γ (o.den ρ)
 nd:(blks (s.os.map (SO.den ρ))).Nodup
 ty:∀f∈s.ty,TOk P Φ G Γ (f.den ρ)
 gs:∀p∈s.gs,ig ρ p.1<Γ.ng/\Γ.gd (ig ρ p.1)=(ρ p.2.1).gg/\(p.2.2=true->(ρ p.2.1).gg.fz=false/\0<ig ρ p.1)
structure Out (P:Program) (Φ:Forms) (S Sg:List Nat) (G:GH) (Γ:Gam) (G':GH) (Γ':Gam) (ρ:Rho) (s:SS):Prop where
 sat:Sat ρ s
 rl:Rl Φ S Sg G Γ G' Γ'
 ht:HT P Φ G' Γ'
 own:∀o∈s.os,OwnOk P Φ G' Γ' (o.den ρ)
 nd:(blks (s.os.map (SO.den ρ))).Nodup
 new:∀o∈s.os,∀b,(o.den ρ).blk=some b->b∈S∨G b=none
 ty:∀f∈s.ty,TOk P Φ G' Γ' (f.den ρ)
 gs:∀p∈s.gs,ig ρ p.1<Γ'.ng/\Γ'.gd (ig ρ p.1)=(ρ p.2.1).gg/\(p.2.2=true->(ig ρ p.1∈Sg∨Γ.ng<=ig ρ p.1)/\(ρ p.2.1).gg.fz=false/\0<ig ρ p.1)
def Holds (P:Program) (Φ:Forms) (sp:Sp) (m:Nat):Prop :=
 ∀(ρ:Rho) (G:GH) (Γ:Gam),In P Φ G Γ ρ sp.pre->(sp.ms.ev ρ).toNat=m ->
  Rex.Spec P sp.f (sp.ar.map (SV.den ρ)) G fun v G'=>∃Γ' ρ',∃p∈sp.posts,v=p.1.den ρ'/\Agr sp.pre.nx ρ ρ'/\Out P Φ (blks (sp.pre.os.map (SO.den ρ))) (wIns ρ sp.pre.gs) G Γ G' Γ' ρ' p.2
def splitO (Φ:Forms) (s:SS) (σ:Su):List SO->List SO->Option (List SO)
 | [],rest=>some rest
 | o::os,rest=>bif nilO Φ s σ o then splitO Φ s σ os rest else (match sSO σ o with
   | some o'=>(match takeU s o' rest with | some r=>splitO Φ s σ os r | none=>none)
   | none=>none)
section
variable {c:Cx} {T:Tm} {G G':GH} {Γ Γ':Gam} {ρ ρ':Rho} {s0 s s':SS} {σ:Su}
theorem splitO_ok {st:St} (hσ:SuOk ρ σ) (hk:Ok c T G Γ ρ s):∀{os rest left:List SO} {dn:List Own},splitO c.Φ s σ os rest=some left->Q c T G Γ ⟨st.L,rest.map (SO.den ρ)++dn,st.tys,st.gs⟩->Q c T G Γ ⟨st.L,left.map (SO.den ρ)++(os.map (SO.den (σ.up ρ))++dn),st.tys,st.gs⟩
 | [],rest,left,dn,h,hq=>by cases h; exact hq
 | o::os,rest,left,dn,h,hq=>by
   have h:(bif nilO c.Φ s σ o then splitO c.Φ s σ os rest else (match sSO σ o with
    | some o'=>(match takeU s o' rest with | some r=>splitO c.Φ s σ os r | none=>none)
    | none=>none))=some left:=h
   cases hn:nilO c.Φ s σ o with
   | true =>
     rw [hn] at h
     obtain⟨n1,n2⟩:=nilO_ok hn hσ hk
     have:=splitO_ok hσ hk (st:=st) (dn:=dn++[o.den (σ.up ρ)]) h (by rw [<-List.append_assoc]; exact Q.addNil hq n1 n2)
     refine this.weak (fun _ _ h=>h) ⟨[],?_⟩ (fun f h=>h) (fun p h=>h)
     rw [List.append_nil]
     refine List.Perm.append_left _ ?_
     rw [<-List.append_assoc]
     exact List.perm_append_singleton _ _
   | false =>
     rw [hn] at h
     simp only [cond_false] at h
     split at h
     · rename_i o' ho'
       split at h
       · rename_i r hr
         obtain⟨x,h1,h1',h2⟩:=takeU_ok hk.sat hr
         have e:o'.den ρ=o.den (σ.up ρ):=sSO_ok hσ ho'
         have hp:=perm_den h2 ρ
         rw [List.map_append,List.map_singleton] at hp
         have:=splitO_ok hσ hk (st:=st) (dn:=o'.den ρ::dn) h (Q.swap h1 (h1' _ _ _ _) (hq.weak (fun _ _ h=>h) ⟨[],by
          rw [List.append_nil]
          have:=hp.append_right dn
          rwa [List.append_assoc] at this⟩ (fun f h=>h) (fun p h=>h)))
         refine this.weak (fun _ _ h=>h) ⟨[],?_⟩ (fun f h=>h) (fun p h=>h)
         rw [List.append_nil,e]
         exact List.Perm.append_left _ List.perm_middle
       · cases h
     · cases h
def cF (σ:Su) (l:List LE):List LE:=l.filterMap (sE σ)
def cB (σ:Su) (l:List (Nat × Bool)):List (Nat × Bool):=l.filterMap fun p=>(sY σ p.1).map fun y=>(y,p.2)
def cP (σ:Su) (l:List (Nat × LE × LE)):List (Nat × LE × LE):=l.filterMap fun p=>match sR σ p.1,sE σ p.2.1,sE σ p.2.2 with | some y,some j,some w=>some (y,j,w) | _,_,_=>none
def cA (σ:Su) (l:List (Nat × SC × LE)):List (Nat × SC × LE):=l.filterMap fun p=>match sY σ p.1,sC σ p.2.1,sE σ p.2.2 with | some y,some x,some e=>some (y,x,e) | _,_,_=>none
def cL (σ:Su) (l:List (Nat × LE × LE)):List (Nat × LE × LE):=l.filterMap fun p=>match sY σ p.1,sE σ p.2.1,sE σ p.2.2 with | some y,some j,some w=>some (y,j,w) | _,_,_=>none
def cZ (σ:Su) (l:List Nat):List Nat:=l.filterMap (sY σ)
def cS (σ:Su) (l:List (Nat × Nat)):List (Nat × Nat):=l.filterMap fun p=>match sY σ p.1,sI σ p.2 with | some y,some g=>some (y,g) | _,_=>none
def cT (σ:Su) (l:List STF):List STF:=l.filterMap (sTF σ)
def addFacts (σ:Su) (ps s:SS) (os:List SO) (gs:List (Nat × Nat × Bool)):SS:=⟨s.nx,s.L,os,cT σ ps.ty++s.ty,gs,cF σ ps.fs++s.fs,cB σ ps.bs++s.bs,cP σ ps.pw++s.pw,cA σ ps.ats++s.ats,cL σ ps.fls++s.fls,cF σ ps.ne++s.ne,cZ σ ps.fz++s.fz,cS σ ps.sb++s.sb⟩
theorem facts_ok {ps:SS} {os:List SO} {gs:List (Nat × Nat × Bool)} (hσ:SuOk ρ σ) (hp:Sat (σ.up ρ) ps) (hs:Sat ρ s):Sat ρ (addFacts σ ps s os gs):=by
 refine⟨fun f hf=>?_,fun p hf=>?_,fun p hf=>?_,fun p hf=>?_,fun p hf=>?_,fun e hf=>?_,fun d hf=>?_,fun p hf=>?_⟩
 · rcases List.mem_append.1 hf with hf | hf
   · obtain⟨e,h1,h2⟩:=List.mem_filterMap.1 hf; rw [sE_ok hσ h2]; exact hp.fs e h1
   · exact hs.fs f hf
 · rcases List.mem_append.1 hf with hf | hf
   · obtain⟨q,h1,h2⟩:=List.mem_filterMap.1 hf
     obtain⟨y,h3,rfl⟩:=map_some h2
     have:=hp.bs q h1
     rw [sY_ok (ρ:=ρ) h3] at this; exact this
   · exact hs.bs p hf
 · rcases List.mem_append.1 hf with hf | hf
   · obtain⟨q,h1,h2⟩:=List.mem_filterMap.1 hf
     split at h2
     · rename_i y j w a1 a2 a3
       cases h2
       have:=hp.pw q h1
       rw [(sR_ok (ρ:=ρ) a1).2,<-sE_ok hσ a2,<-sE_ok hσ a3] at this; exact this
     · cases h2
   · exact hs.pw p hf
 · rcases List.mem_append.1 hf with hf | hf
   · obtain⟨q,h1,h2⟩:=List.mem_filterMap.1 hf
     split at h2
     · rename_i y j w a1 a2 a3
       cases h2
       have:=hp.ats q h1
       unfold AtF at this ⊢
       rw [sY_ok (ρ:=ρ) a1,<-sC_ok hσ a2,<-sE_ok hσ a3] at this; exact this
     · cases h2
   · exact hs.ats p hf
 · rcases List.mem_append.1 hf with hf | hf
   · obtain⟨q,h1,h2⟩:=List.mem_filterMap.1 hf
     split at h2
     · rename_i y j w a1 a2 a3
       cases h2
       have:=hp.fls q h1
       rw [sY_ok (ρ:=ρ) a1,<-sE_ok hσ a2,<-sE_ok hσ a3] at this; exact this
     · cases h2
   · exact hs.fls p hf
 · rcases List.mem_append.1 hf with hf | hf
   · obtain⟨q,h1,h2⟩:=List.mem_filterMap.1 hf; rw [sE_ok hσ h2]; exact hp.ne q h1
   · exact hs.ne e hf
 · rcases List.mem_append.1 hf with hf | hf
   · obtain⟨q,h1,h2⟩:=List.mem_filterMap.1 hf
     have:=hp.fz q h1
     rw [sY_ok (ρ:=ρ) h2] at this; exact this
   · exact hs.fz d hf
 · rcases List.mem_append.1 hf with hf | hf
   · obtain⟨q,h1,h2⟩:=List.mem_filterMap.1 hf
     split at h2
     · rename_i y g a1 a2
       cases h2
       have:=hp.sb q h1
       rw [sY_ok (ρ:=ρ) a1,<-sI_ok (ρ:=ρ) a2] at this; exact this
     · cases h2
   · exact hs.sb p hf
def sSOs (σ:Su):List SO->Option (List SO)
 | []=>some []
 | o::l=>(match sSO σ o,sSOs σ l with | some o',some r=>some (o'::r) | _,_=>none)
theorem sSOs_ok (hσ:SuOk ρ σ):∀{l l':List SO},sSOs σ l=some l'->l'.map (SO.den ρ)=l.map (SO.den (σ.up ρ))
 | [],_,h=>by cases h; rfl
 | o::l,l',h=>by
   unfold sSOs at h
   split at h
   · rename_i o' r h1 h2
     cases h
     rw [List.map_cons,List.map_cons,sSO_ok hσ h1,sSOs_ok hσ h2]
   · cases h
def sGs (σ:Su):List (Nat × Nat × Bool)->Option (List (Nat × Nat × Bool))
 | []=>some []
 | p::l=>(match sI σ p.1,sY σ p.2.1,sGs σ l with | some g,some d,some r=>some ((g,d,p.2.2)::r) | _,_,_=>none)
theorem sGs_ok:∀{l l':List (Nat × Nat × Bool)},sGs σ l=some l'->(l'.map fun p=>(ig ρ p.1,(ρ p.2.1).gg,p.2.2))=l.map fun p=>(ig (σ.up ρ) p.1,(σ.up ρ p.2.1).gg,p.2.2)
 | [],_,h=>by cases h; rfl
 | p::l,l',h=>by
   unfold sGs at h
   split at h
   · rename_i g dd r h1 h2 h3
     cases h
     rw [List.map_cons,List.map_cons,sGs_ok h3]
     congr 1
     rw [<-sI_ok (ρ:=ρ) h1,sY_ok (ρ:=ρ) h2]
   · cases h
def vrs:Nat->Nat->Nat->List (Nat × Sb)
 | _,_,0=>[]
 | k,y,n+1=>(k,.vr y)::vrs (k+1) (y+1) n
theorem lkQ_app {a b:List (Nat × Sb)} {k:Nat}:lkQ (a++b) k=match lkQ a k with | some x=>some x | none=>lkQ b k:=by
 induction a with
 | nil=>rfl
 | cons p l ih =>
   show (bif Nat.beq p.1 k then some p.2 else lkQ (l++b) k)=match (bif Nat.beq p.1 k then some p.2 else lkQ l k) with | some x=>some x | none=>lkQ b k
   cases Nat.beq p.1 k with
   | true=>rfl
   | false=>exact ih
theorem lkQ_vrs:∀{n k y j:Nat},lkQ (vrs k y n) j=if k<=j/\j<k+n then some (.vr (y+(j-k))) else none
 | 0,k,y,j=>by
   rw [if_neg (by omega)]; rfl
 | n+1,k,y,j=>by
   show (bif Nat.beq k j then some (Sb.vr y) else lkQ (vrs (k+1) (y+1) n) j)=_
   cases hb:Nat.beq k j with
   | true=>have:=beq_ok hb; subst this; rw [if_pos (by omega)]; simp
   | false =>
     have hne:k≠j:=fun e=>by subst e; rw [Nat.beq_refl] at hb; cases hb
     rw [cond_false,lkQ_vrs]
     by_cases h:k<=j/\j<k+(n+1)
     · rw [if_pos h,if_pos (by omega)]; congr 2; omega
     · rw [if_neg h,if_neg (by omega)]
end
end Go.Rd
namespace Go.Rd
open Go.Rex Go.RowKit Go.Rt
def bumpN (s:SS) (n:Nat):SS:=⟨s.nx+n,s.L,s.os,s.ty,s.gs,s.fs,s.bs,s.pw,s.ats,s.fls,s.ne,s.fz,s.sb⟩
def Sb.lt (n:Nat):Sb->Bool
 | .vr y=>Nat.blt y n | .n e=>e.lt n | .z e=>e.lt n | .b be=>be.lt n | .s x=>x.lt n | .v x=>x.lt n
def preS (s:SS):SS:=⟨s.nx,[],[],s.ty,s.gs,s.fs,s.bs,s.pw,s.ats,s.fls,s.ne,s.fz,s.sb⟩
def vls (s:SS):List Operand->Option (List SV)
 | []=>some []
 | x::xs=>(match opv s x,vls s xs with | some v,some l=>some (v::l) | _,_=>none)
def sameVs (σ:Su):List SV->List SV->Bool
 | [],[]=>true
 | a::as,v::vs=>(match sV σ a with | some a'=>a'.same v | none=>false)&&sameVs σ as vs
 | _,_=>false
def anyW (gs:List (Nat × Nat × Bool)):Bool:=gs.any fun p=>p.2.2
def callOk (Φ:Forms) (sp:Sp) (σ:List (Nat × Sb)) (vs:List SV) (s:SS):Option (List SO) :=
 bif sub Φ (preS sp.pre) s ⟨0,σ⟩&&(sameVs ⟨0,σ⟩ sp.ar vs&&(σ.all (fun p=>Nat.blt p.1 sp.pre.nx&&p.2.lt s.nx)&&((List.range sp.pre.nx).all (fun k=>(lkQ σ k).isSome)&&s.ok))) then
  (match splitO Φ s ⟨0,σ⟩ sp.pre.os s.os with
   | some left=>bif (!anyW sp.pre.gs||left.all noAm)&&left.all (SO.lt s.nx) then some left else none
   | none=>none)
 else none
def gsLeft (sp:Sp) (s:SS):List (Nat × Nat × Bool):=bif anyW sp.pre.gs then gsKeep s else s.gs
def callP (sp:Sp) (σ:List (Nat × Sb)) (left:List SO) (d:Option Nat) (s:SS) (K:SS->R) (p:SV × SS):R :=
 let n:=p.2.nx-sp.pre.nx
 let τ:Su:=⟨0,σ++vrs sp.pre.nx s.nx n⟩
 bif p.2.ok&&(Nat.ble sp.pre.nx p.2.nx&&p.1.lt p.2.nx) then
  (match sV τ p.1,sSOs τ p.2.os,sGs τ p.2.gs with
   | some r,some osN,some gsN=>(match d with
     | some d=>K (sput (addFacts τ p.2 (bumpN s n) (left++osN) (gsN++gsLeft sp s)) d r)
     | none=>K (addFacts τ p.2 (bumpN s n) (left++osN) (gsN++gsLeft sp s)))
   | _,_,_=>.bad 300 s)
 else .bad 301 s
def orU (o:Option SV):SV:=match o with | some r=>r | none=>.undef
def allR:List R->R
 | []=>.ok
 | r::l=>r.and (allR l)
theorem allR_ok:∀{l:List R},(allR l).Ok->∀r∈l,r.Ok
 | [],_,r,h=>by cases h
 | x::l,h,r,hr=>by
   obtain⟨h1,h2⟩:=R.and_ok (show (x.and (allR l)).Ok from h)
   rcases List.mem_cons.1 hr with rfl | hr
   · exact h1
   · exact allR_ok h2 r hr
section
variable {c:Cx} {T:Tm} {G G':GH} {Γ Γ':Gam} {ρ ρ':Rho} {s0 s s':SS} {ops:Array Oper} {i d:Nat} {cf:Cf}
theorem Sb.agr {n:Nat} (h:Agr n ρ ρ') {b:Sb} (hb:b.lt n=true):b.u ρ'=b.u ρ:=by
 cases b with
 | vr y=>exact h y (blt_ok hb)
 | n e=>simp only [Sb.u]; rw [LE.agr h hb]
 | z e=>simp only [Sb.u]; rw [LE.agr h hb]
 | b be=>simp only [Sb.u]; rw [BE.agr h hb]
 | s x=>simp only [Sb.u]; rw [SC.agr h hb]
 | v x =>
   simp only [Sb.u]
   rw [SC.agr h hb]
   congr 1
   cases x<;>first | rfl | skip
   rename_i y
   show (ρ' y).ns=(ρ y).ns
   rw [h y (blt_ok hb)]
theorem Sb.fit_agr {n:Nat} (h:Agr n ρ ρ') {b:Sb} (hb:b.lt n=true) (hf:b.fit ρ):b.fit ρ':=by
 cases b with
 | n e=>show 0<=e.ev ρ'; rw [LE.agr h hb]; exact hf
 | s x=>exact hf
 | v x=>exact hf
 | _=>trivial
theorem vls_ok (hq:Q c T G Γ (s.den ρ)):∀{xs:List Operand} {vs:List SV},vls s xs=some vs->EvL c.nt T xs (vs.map (SV.den ρ))
 | [],vs,h=>by cases h; trivial
 | x::xs,vs,h=>by
   unfold vls at h
   split at h
   · rename_i v l h1 h2
     cases h
     exact⟨opv_ok h1 hq,vls_ok hq h2⟩
   · cases h
theorem sameVs_ok {σ:Su} (hσ:SuOk ρ σ):∀{as vs:List SV},sameVs σ as vs=true->vs.map (SV.den ρ)=as.map (SV.den (σ.up ρ))
 | [],[],_=>rfl
 | a::as,v::vs,h=>by
   have h:((match sV σ a with | some a'=>a'.same v | none=>false)&&sameVs σ as vs)=true:=h
   rw [Bool.and_eq_true] at h
   obtain⟨h1,h2⟩:=h
   split at h1
   · rename_i a' ha
     rw [List.map_cons,List.map_cons,sameVs_ok hσ h2,<-SV.same_ok h1 ρ,sV_ok hσ ha]
   · cases h1
 | [],_::_,h=>by cases h
 | _::_,[],h=>by cases h
theorem nfL_sv (vs:List SV) (ρ:Rho):nfL (vs.map (SV.den ρ)):=fun v hv=>by
 obtain⟨x,_,rfl⟩:=List.mem_map.1 hv
 exact sv_nf x ρ
theorem anyW_f {gs:List (Nat × Nat × Bool)} (h:anyW gs=false) (ρ:Rho):wIns ρ gs=[]:=by
 unfold wIns
 have:gs.filter (fun p=>p.2.2)=[]:=List.filter_eq_nil_iff.2 fun p hp hw=>by
  have:anyW gs=true:=List.any_eq_true.2 ⟨p,hp,hw⟩
  rw [h] at this; cases this
 rw [this]; rfl
theorem call_core {sp:Sp} {σ:List (Nat × Sb)} {vs:List SV} {left:List SO} {d:Option Nat} {K:SS->R} (hk:Ok c T G Γ ρ s) (hc:callOk c.Φ sp σ vs s=some left) (hp:(allR (sp.posts.map (callP sp σ left d s K))).Ok) :
  In c.P c.Φ G Γ ((⟨0,σ⟩:Su).up ρ) sp.pre/\vs.map (SV.den ρ)=sp.ar.map (SV.den ((⟨0,σ⟩:Su).up ρ)) /\
  ∀(G':GH) (Γ':Gam) (ρ':Rho) (p:SV × SS),p∈sp.posts->Agr sp.pre.nx ((⟨0,σ⟩:Su).up ρ) ρ'->Grow c.n0 G G'->Out c.P c.Φ (blks (sp.pre.os.map (SO.den ((⟨0,σ⟩:Su).up ρ)))) (wIns ((⟨0,σ⟩:Su).up ρ) sp.pre.gs) G Γ G' Γ' ρ' p.2 ->
   ∃ρ2 s2,(K (match d with | some d=>sput s2 d (orU (sV (⟨0,σ++vrs sp.pre.nx s.nx (p.2.nx-sp.pre.nx)⟩:Su) p.1)) | none=>s2)).Ok/\Agr s.nx ρ ρ2/\s.nx<=s2.nx/\Ok c T G' Γ' ρ2 s2/\(orU (sV (⟨0,σ++vrs sp.pre.nx s.nx (p.2.nx-sp.pre.nx)⟩:Su) p.1)).den ρ2=p.1.den ρ':=by
 unfold callOk at hc
 cases hb:(sub c.Φ (preS sp.pre) s ⟨0,σ⟩&&(sameVs ⟨0,σ⟩ sp.ar vs&&(σ.all (fun p=>Nat.blt p.1 sp.pre.nx&&p.2.lt s.nx)&&((List.range sp.pre.nx).all (fun k=>(lkQ σ k).isSome)&&s.ok)))) with
 | false=>rw [hb] at hc; cases hc
 | true =>
   rw [hb] at hc
   simp only [cond_true] at hc
   simp only [Bool.and_eq_true] at hb
   obtain⟨b1,b2,b3,b4,b5⟩:=hb
   have hpre:=sub_ok b1 hk
   have hσ:SuOk ρ ⟨0,σ⟩:=by
    unfold sub at b1
    rw [Bool.and_eq_true] at b1
    exact (subSat_ok b1.1 hk.sat).1
   cases hs:splitO c.Φ s ⟨0,σ⟩ sp.pre.os s.os with
   | none=>rw [hs] at hc; cases hc
   | some lf =>
     rw [hs] at hc
     simp only at hc
     cases hb2:((!anyW sp.pre.gs||lf.all noAm)&&lf.all (SO.lt s.nx)) with
     | false=>rw [hb2] at hc; cases hc
     | true =>
       rw [hb2] at hc
       cases hc
       rw [Bool.and_eq_true] at hb2
       have hsp:=splitO_ok hσ hk (st:=s.den ρ) (dn:=[]) hs (by rw [List.append_nil]; exact hk.q)
       rw [List.append_nil] at hsp
       generalize hρσ:(⟨0,σ⟩:Su).up ρ=ρσ at *
       have hnd:=hsp.nd
       have hnd:(blks (left.map (SO.den ρ)++sp.pre.os.map (SO.den ρσ))).Nodup:=hnd
       rw [blks_append,List.nodup_append] at hnd
       have hgsP:∀p∈sp.pre.gs,ig ρσ p.1<Γ.ng/\Γ.gd (ig ρσ p.1)=(ρσ p.2.1).gg/\(p.2.2=true->(ig ρσ p.1∈c.Sg∨c.Γ0.ng<=ig ρσ p.1)/\(ρσ p.2.1).gg.fz=false/\0<ig ρσ p.1):=fun p hp=>hpre.q.gs (ig ρσ p.1,(ρσ p.2.1).gg,p.2.2) (List.mem_map.2 ⟨p,hp,rfl⟩)
       refine⟨⟨⟨hpre.sat.fs,hpre.sat.bs,hpre.sat.pw,hpre.sat.ats,hpre.sat.fls,hpre.sat.ne,hpre.sat.fz,hpre.sat.sb⟩,hk.q.ht,fun o ho=>hsp.own _ (List.mem_append_right _ (List.mem_map.2 ⟨o,ho,rfl⟩)),hnd.2.1,fun f hf=>hpre.q.ty _ (List.mem_map.2 ⟨f,hf,rfl⟩),fun p hp=>?_⟩,by rw [<-hρσ]; exact sameVs_ok hσ b2,fun G' Γ' ρ' p hpp ha hgr ho=>?_⟩
       · obtain⟨q1,q2,q3⟩:=hgsP p hp
         exact⟨q1,q2,fun hw=>(q3 hw).2⟩
       · have hpc:=allR_ok hp _ (List.mem_map.2 ⟨p,hpp,rfl⟩)
         unfold callP at hpc
         simp only at hpc
         cases hb3:(p.2.ok&&(Nat.ble sp.pre.nx p.2.nx&&p.1.lt p.2.nx)) with
         | false=>rw [hb3] at hpc; cases hpc
         | true =>
           rw [hb3] at hpc
           simp only [cond_true] at hpc
           simp only [Bool.and_eq_true] at hb3
           obtain⟨d1,d2,d3⟩:=hb3
           have d2:=ble_ok d2
           generalize hτ:(⟨0,σ++vrs sp.pre.nx s.nx (p.2.nx-sp.pre.nx)⟩:Su)=τ at *
           -- the new values
           obtain⟨ρ2,hρ2⟩:∃ρ2:Rho,∀k,ρ2 k=if k<s.nx then ρ k else ρ' (sp.pre.nx+(k-s.nx)):=⟨_,fun _=>rfl⟩
           have A:Agr s.nx ρ ρ2:=fun k hk=>by rw [hρ2,if_pos hk]
           have hσlt:∀p∈σ,p.1<sp.pre.nx/\p.2.lt s.nx=true:=fun p hp=>by
            have:=List.all_eq_true.1 b3 p hp
            rw [Bool.and_eq_true] at this
            exact⟨blt_ok this.1,this.2⟩
           have hget:∀k,τ.get k=lkQ (σ++vrs sp.pre.nx s.nx (p.2.nx-sp.pre.nx)) k:=fun k=>by rw [<-hτ]; rfl
           have hτok:SuOk ρ2 τ:=fun q hq=>by
            rw [<-hτ] at hq
            rcases List.mem_append.1 hq with hq | hq
            · exact Sb.fit_agr A (hσlt q hq).2 (hσ q hq)
            · have:∀(n k y:Nat),∀q∈vrs k y n,q.2.fit ρ2:=fun n=>by
               induction n with
               | zero=>intro k y q h; cases h
               | succ n ih =>
                 intro k y q h
                 rcases List.mem_cons.1 h with rfl | h
                 · trivial
                 · exact ih _ _ q h
              exact this _ _ _ q hq
           have AU:Agr p.2.nx ρ' (τ.up ρ2):=fun k hkl=>by
            by_cases hkp:k<sp.pre.nx
            · have hs2:=List.all_eq_true.1 b4 k (List.mem_range.2 hkp)
              obtain⟨b,hbk⟩:=Option.isSome_iff_exists.1 hs2
              have hg:τ.get k=some b:=by rw [hget,lkQ_app,hbk]
              rw [Su.up_at hg,Sb.agr A (hσlt _ (lkQ_mem hbk)).2]
              have:ρσ k=b.u ρ:=by
               rw [<-hρσ]
               exact Su.up_at (show (⟨0,σ⟩:Su).get k=some b from hbk)
              rw [<-this]; exact (ha k hkp).symm
            · have hn:lkQ σ k=none:=by
               cases hc:lkQ σ k with
               | none=>rfl
               | some b=>have:=(hσlt _ (lkQ_mem hc)).1; exact absurd this (by show ¬k<_; omega)
              have hg:τ.get k=some (.vr (s.nx+(k-sp.pre.nx))):=by rw [hget,lkQ_app,hn,lkQ_vrs,if_pos (by omega)]
              rw [Su.up_at hg]
              show ρ2 _=_
              rw [hρ2,if_neg (by omega)]
              congr 1; omega
           obtain⟨eP,sP⟩:=SS.agr d1 AU
           obtain⟨eS,sS⟩:=SS.agr b5 A
           have hsatP:=sP ho.sat
           split at hpc
           · rename_i r osN gsN hr hos hgs
             have hgsN:=sGs_ok (ρ:=ρ2) hgs
             have hosN:=sSOs_ok hτok hos
             have hgA:∀q∈(gsLeft sp s).map (fun p=>(ig ρ p.1,(ρ p.2.1).gg,p.2.2)),q∈(s.den ρ).gs/\Γ'.gd q.1=Γ.gd q.1:=fun q hq=>by
              obtain⟨q0,m1,rfl⟩:=List.mem_map.1 hq
              unfold gsLeft at m1
              cases hw:anyW sp.pre.gs with
              | false =>
                rw [hw] at m1
                have hm:(ig ρ q0.1,(ρ q0.2.1).gg,q0.2.2)∈(s.den ρ).gs:=List.mem_map.2 ⟨q0,m1,rfl⟩
                refine⟨hm,ho.rl.gs _ (hk.q.gs _ hm).1 ?_⟩
                rw [anyW_f hw]; exact fun h=>by cases h
              | true =>
                rw [hw] at m1
                have m2:=(List.mem_filter.1 m1).1
                have hm:(ig ρ q0.1,(ρ q0.2.1).gg,q0.2.2)∈(s.den ρ).gs:=List.mem_map.2 ⟨q0,m2,rfl⟩
                refine⟨hm,ho.rl.gs _ (hk.q.gs _ hm).1 fun hin=>?_⟩
                obtain⟨p0,h1,h2⟩:=List.mem_map.1 hin
                obtain⟨h3,h4⟩:=List.mem_filter.1 h1
                obtain⟨_,g2,g3⟩:=hgsP p0 h3
                have:=(gsKeep_ne (g:=ig ρσ p0.1) hk m1 (by rw [g2]; exact (g3 h4).2.1)).2
                exact this h2.symm
             have hQ:=hsp.call (osA:=left.map (SO.den ρ)) (osB:=sp.pre.os.map (SO.den ρσ)) (os':=p.2.os.map (SO.den ρ')) (tys':=p.2.ty.map (STF.den ρ')) (gsA:=(gsLeft sp s).map fun p=>(ig ρ p.1,(ρ p.2.1).gg,p.2.2)) (gs':=p.2.gs.map fun p=>(ig ρ' p.1,(ρ' p.2.1).gg,p.2.2)) (Sg:=wIns ρσ sp.pre.gs) (List.Perm.refl _) ho.rl hgr ho.ht
              (fun o h=>by obtain⟨o0,m1,rfl⟩:=List.mem_map.1 h; exact ho.own o0 m1) ho.nd (fun o h b hb=>by obtain⟨o0,m1,rfl⟩:=List.mem_map.1 h; exact ho.new o0 m1 b hb) (fun f h=>by obtain⟨f0,m1,rfl⟩:=List.mem_map.1 h; exact ho.ty f0 m1)
              (fun g hg=>by
               obtain⟨p0,h1,rfl⟩:=List.mem_map.1 hg
               obtain⟨h3,h4⟩:=List.mem_filter.1 h1
               exact ((hgsP p0 h3).2.2 h4).1) hgA (fun q hq=>by
               obtain⟨q0,m1,rfl⟩:=List.mem_map.1 hq
               obtain⟨a1,a2,a3⟩:=ho.gs q0 m1
               refine⟨a1,a2,fun hw=>?_⟩
               obtain⟨a4,a5⟩:=a3 hw
               refine⟨?_,a5⟩
               rcases a4 with a4 | a4
               · obtain⟨p0,h1,h2⟩:=List.mem_map.1 a4
                 obtain⟨h3,h4⟩:=List.mem_filter.1 h1
                 have:=((hgsP p0 h3).2.2 h4).1
                 rw [h2] at this; exact this
               · exact .inr (Nat.le_trans hk.q.rl.le.ng a4)) (fun o h g hg=>by
               obtain⟨o0,m1,rfl⟩:=List.mem_map.1 h
               have hlt:g<Γ.ng:=by
                have hoo:=hsp.own _ (List.mem_append_left _ (List.mem_map.2 ⟨o0,m1,rfl⟩))
                cases o0<;>first | (cases hg; done) | skip
                cases hg; exact hoo.2.1
               refine ho.rl.gs g hlt fun hin=>?_
               cases hw:anyW sp.pre.gs with
               | false=>rw [anyW_f hw] at hin; cases hin
               | true =>
                 have:=hb2.1
                 rw [hw] at this
                 simp only [Bool.not_true,Bool.false_or] at this
                 have:=List.all_eq_true.1 this o0 m1
                 cases o0<;>first | (cases hg; done) | skip
                 cases this)
             have eL:left.map (SO.den ρ2)=left.map (SO.den ρ):=List.map_congr_left fun o ho'=>SO.agr A (List.all_eq_true.1 hb2.2 o ho')
             refine⟨ρ2,addFacts τ p.2 (bumpN s (p.2.nx-sp.pre.nx)) (left++osN) (gsN++gsLeft sp s),?_,A,by show s.nx<=s.nx+_; omega,⟨facts_ok hτok hsatP ⟨(sS hk.sat).fs,(sS hk.sat).bs,(sS hk.sat).pw,(sS hk.sat).ats,(sS hk.sat).fls,(sS hk.sat).ne,(sS hk.sat).fz,(sS hk.sat).sb⟩,?_⟩,?_⟩
             · rw [hr]
               cases d<;>exact hpc
             · have hss:=b5
               unfold SS.ok at hss
               simp only [Bool.and_eq_true,List.all_eq_true] at hss
               have eQ:(addFacts τ p.2 (bumpN s (p.2.nx-sp.pre.nx)) (left++osN) (gsN++gsLeft sp s)).den ρ2=⟨(s.den ρ).L,left.map (SO.den ρ)++p.2.os.map (SO.den ρ'),(cT τ p.2.ty).map (STF.den ρ2)++(s.den ρ).tys,(p.2.gs.map fun p=>(ig ρ' p.1,(ρ' p.2.1).gg,p.2.2))++(gsLeft sp s).map fun p=>(ig ρ p.1,(ρ p.2.1).gg,p.2.2)⟩:=by
                refine St.ext' (by have:=congrArg St.L eS; exact this) ?_ ?_ ?_
                · show (left++osN).map (SO.den ρ2)=_
                  rw [List.map_append,eL,hosN]
                  congr 1
                  have:=congrArg St.os eP; exact this
                · show (cT τ p.2.ty++s.ty).map (STF.den ρ2)=_
                  rw [List.map_append]
                  congr 1
                  have:=congrArg St.tys eS; exact this
                · show (gsN++gsLeft sp s).map (fun p=>(ig ρ2 p.1,(ρ2 p.2.1).gg,p.2.2))=_
                  rw [List.map_append,hgsN]
                  congr 1
                  · have:=congrArg St.gs eP; exact this
                  · refine List.map_congr_left fun q hq=>?_
                    have hqs:q∈s.gs:=by
                     unfold gsLeft at hq
                     cases hw:anyW sp.pre.gs with
                     | false=>rw [hw] at hq; exact hq
                     | true=>rw [hw] at hq; exact (List.mem_filter.1 hq).1
                    have:=hss.2.2.2.1 q hqs
                    rw [ig_agr A this.1,A _ (blt_ok this.2)]
               rw [eQ]
               refine hQ.weak (fun _ _ h=>h) ⟨[],by rw [List.append_nil]⟩ (fun f hf=>?_) (fun p h=>h)
               rcases List.mem_append.1 hf with hf | hf
               · obtain⟨f1,m1,rfl⟩:=List.mem_map.1 hf
                 obtain⟨f0,m2,m3⟩:=List.mem_filterMap.1 m1
                 refine List.mem_append_left _ (List.mem_map.2 ⟨f0,m2,?_⟩)
                 rw [sTF_ok (ρ:=ρ2) hτok m3]
                 have hps:=d1
                 unfold SS.ok at hps
                 simp only [Bool.and_eq_true,List.all_eq_true] at hps
                 exact (STF.agr AU (hps.2.2.1 f0 m2)).symm
               · exact List.mem_append_right _ hf
             · rw [hr]
               show r.den ρ2=_
               rw [sV_ok hτok hr]
               exact SV.agr AU d3
           · cases hpc
end
end Go.Rd
namespace Go.Rd
open Go.Rex Go.RowKit Go.Rt
 abbrev Bd:=List (Nat × Sb)
def bindV (base:Nat) (b:Bd) (k:Nat) (x:Sb):Bd:=bif Nat.blt k base then b else match lkQ b k with | some _=>b | none=>(k,x)::b
def mC (base:Nat) (b:Bd):SC->SC->Bd
 | .int _ ⟨.ofNat 0,[(.ofNat 1,.n k)]⟩,.int _ e=>bindV base b k (.n e)
 | .int _ ⟨.ofNat 0,[(.ofNat 1,.z k)]⟩,.int _ e=>bindV base b k (.z e)
 | .bool (.v k),.bool be=>bindV base b k (.b be)
 | .str k,x=>bindV base b k (.s x)
 | .flt _ k,.flt _ y=>bindV base b k (.vr y)
 | .ref k,.ref y=>bindV base b k (.vr y)
 | .ref k,x=>bindV base b k (.v x)
 | .rpt k _,.rpt y _=>bindV base b k (.vr y)
 | .rmp k,.rmp y=>bindV base b k (.vr y)
 | .osl k _,.osl y _=>bindV base b k (.vr y)
 | .elp k _ _ _,.elp y _ _ _=>bindV base b k (.vr y)
 | .ptp k _,.ptp y _=>bindV base b k (.vr y)
 | _,_=>b
def mCs (base:Nat) (b:Bd):List SC->List SC->Bd
 | x::xs,y::ys=>mCs base (mC base b x y) xs ys
 | _,_=>b
def mPs (base:Nat) (b:Bd):List (Bool × List SC)->List (Bool × List SC)->Bd
 | x::xs,y::ys=>mPs base (mCs base b x.2 y.2) xs ys
 | _,_=>b
def mV (base:Nat) (b:Bd):SV->SV->Bd
 | .v _ cs,.v _ ds=>mCs base b cs ds
 | .tup l,.tup m=>mPs base b l m
 | .clo _ cs,.clo _ ds=>mCs base b cs ds
 | _,_=>b
def mVs (base:Nat) (b:Bd):List SV->List SV->Bd
 | x::xs,y::ys=>mVs base (mV base b x y) xs ys
 | _,_=>b
def nowY (base:Nat) (b:Bd) (k:Nat):Option Nat:=sR ⟨base,b⟩ k
def mI (base:Nat) (b:Bd) (g g':Nat):Bd:=match g,g' with
 | k+1,y+1=>bindV base b k (.vr y)
 | _,_=>b
def fAm:List SO->Option (Nat × Nat)
 | []=>none
 | .am y g _::_=>some (y,g)
 | _::l=>fAm l
def mO (base:Nat) (s:SS) (b:Bd):SO->Bd
 | .loc k _ cs=>(match nowY base b k with | some y=>(match locAt s.os y with | some (_,ds)=>mCs base b cs ds | none=>b) | none=>b)
 | .ul x _ g=>(match nowY base b x with | some y=>(match fOw s.os y with | some (.ul _ g')=>mI base b g g' | _=>b) | none=>b)
 | .bl x m _=>(match nowY base b x with | some y=>(match fOw s.os y with | some (.bl m' _)=>bindV base b m (.vr m') | _=>b) | none=>b)
 | .am k g _=>(match nowY base b k with | some y=>(match fOm s.os y with | some (.am g' _)=>mI base b g g' | _=>b) | none=>(match fAm s.os with | some (y,g')=>mI base (bindV base b k (.vr y)) g g' | none=>b))
 | .im k e=>(match nowY base b k with | some y=>(match fOm s.os y with | some (.im e')=>mC base b (.int .i64 e) (.int .i64 e') | _=>b) | none=>b)
 | _=>b
def mT (base:Nat) (s:SS) (b:Bd):STF->Bd
 | .sl x _ g=>(match nowY base b x with | some y=>(match fSl s.ty y with | some (_,g')=>mI base b g g' | none=>b) | none=>b)
 | .pt x _ g=>(match nowY base b x with | some y=>(match fPt s.ty y with | some (_,g')=>mI base b g g' | none=>b) | none=>b)
 | .mp x _ g=>(match nowY base b x with | some y=>(match fMp s.ty y with | some (_,g')=>mI base b g g' | none=>b) | none=>b)
 | .el _ _ _ _ _=>b
def fG (w:Bool):List (Nat × Nat × Bool)->Option (Nat × Nat × Bool)
 | []=>none
 | p::l=>bif !w||p.2.2 then some p else fG w l
def mG (base:Nat) (s:SS) (b:Bd) (p:Nat × Nat × Bool):Bd:=match sI ⟨base,b⟩ p.1 with
 | some g=>(match fG p.2.2 (s.gs.filter fun q=>Nat.beq q.1 g) with | some q=>bindV base b p.2.1 (.vr q.2.1) | none=>b)
 | none=>(match fG p.2.2 s.gs with | some q=>bindV base (mI base b p.1 q.1) p.2.1 (.vr q.2.1) | none=>b)
def mS (base:Nat) (s:SS) (b:Bd) (p:Nat × Nat):Bd:=match sY ⟨base,b⟩ p.1 with
 | some d=>(match lkSb s.sb d with | some g=>mI base b p.2 g | none=>b)
 | none=>b
def mW (base:Nat) (s:SS) (b:Bd) (p:Nat × LE × LE):Bd:=match sR ⟨base,b⟩ p.1,sE ⟨base,b⟩ p.2.1 with
 | some y,some j=>(match pwOf s y j with | some w=>mC base b (.int .i64 p.2.2) (.int .i64 w) | none=>b)
 | none,some j=>mC base b (.int .i64 p.2.2) (.int .i64 j)
 | _,_=>b
def mA (base:Nat) (s:SS) (b:Bd) (p:Nat × SC × LE):Bd:=match sY ⟨base,b⟩ p.1,sC ⟨base,b⟩ p.2.1 with
 | some d,some x=>(match lkAt s.ats d x with | some e=>mC base b (.int .i64 p.2.2) (.int .i64 e) | none=>b)
 | _,_=>b
def mL (base:Nat) (s:SS) (b:Bd) (p:Nat × SV):Bd:=match lkS s.L p.1 with | some w=>mV base b p.2 w | none=>b
def mAll (base:Nat) (s0 s:SS) (b:Bd):Bd :=
 let b:=s0.L.foldl (mL base s) b
 let b:=s0.os.foldl (mO base s) b
 let b:=s0.ty.foldl (mT base s) b
 let b:=s0.gs.foldl (mG base s) b
 let b:=s0.sb.foldl (mS base s) b
 let b:=s0.gs.foldl (mG base s) b
 let b:=s0.os.foldl (mO base s) b
 let b:=s0.pw.foldl (mW base s) b
 s0.ats.foldl (mA base s) b
def fnOf:SV->Option Nat
 | .v false [.fn f]=>some f
 | _=>none
structure Rk where
 tbl:List Sp
 str:Nat
 ms:LE
def rkOk (rk:Rk) (sp:Sp) (σ:Su) (s:SS):Bool:=Nat.blt sp.str rk.str||(Nat.beq sp.str rk.str&&(match sE σ sp.ms with | some e=>ent s e&&ent s ((rk.ms.sub e).addc (-1)) | none=>false))
def hcS (Φ:Forms) (rk:Rk) (sp:Sp) (vs:List SV) (d:Option Nat) (s:SS) (K:SS->R):R :=
 let σ:=mAll 0 sp.pre s (mVs 0 [] sp.ar vs)
 match callOk Φ sp σ vs s with
  | some left=>bif rkOk rk sp ⟨0,σ⟩ s then allR (sp.posts.map (callP sp σ left d s K)) else .bad 310 s
  | none=>.bad 311 s
def pick1 (Φ:Forms) (f:Nat) (vs:List SV) (s:SS):List Sp->Option Sp
 | []=>none
 | sp::l=>bif Nat.beq sp.f f&&(callOk Φ sp (mAll 0 sp.pre s (mVs 0 [] sp.ar vs)) vs s).isSome then some sp else pick1 Φ f vs s l
theorem pick1_mem {Φ:Forms} {f:Nat} {vs:List SV} {s:SS}:∀{l:List Sp} {sp:Sp},pick1 Φ f vs s l=some sp->sp∈l/\sp.f=f
 | [],_,h=>by cases h
 | x::l,sp,h=>by
   have h:(bif Nat.beq x.f f&&(callOk Φ x (mAll 0 x.pre s (mVs 0 [] x.ar vs)) vs s).isSome then some x else pick1 Φ f vs s l)=some sp:=h
   cases hb:(Nat.beq x.f f&&(callOk Φ x (mAll 0 x.pre s (mVs 0 [] x.ar vs)) vs s).isSome) with
   | true=>rw [hb] at h; cases h; rw [Bool.and_eq_true] at hb; exact⟨List.mem_cons_self ..,beq_ok hb.1⟩
   | false=>rw [hb] at h; obtain⟨h1,h2⟩:=pick1_mem h; exact⟨List.mem_cons_of_mem _ h1,h2⟩
def hcl (cf:Cf) (rk:Rk) (fv:SV) (vs:List SV) (d:Option Nat) (s:SS) (K:SS->R):R:=match fnOf fv with
 | some f=>(match pick1 cf.Φ f vs s rk.tbl with | some sp=>hcS cf.Φ rk sp vs d s K | none=>.bad 312 s)
 | none=>.bad 313 s
section
variable {c:Cx} {T:Tm} {G G':GH} {Γ Γ':Gam} {ρ ρ':Rho} {s0 s s':SS} {ops:Array Oper} {i d:Nat} {cf:Cf}
def RkOk (c:Cx) (rk:Rk) (ρ:Rho):Prop:=∀sp∈rk.tbl,∀m:Nat,(sp.str<rk.str∨(sp.str=rk.str/\(m:Int)<rk.ms.ev ρ))->Holds c.P c.Φ sp m
theorem hcl_ok {rk:Rk} {fo:Operand} {xs:List Operand} {fv:SV} {vs:List SV} {dd:Option Nat} {K:SS->R} (hΦ:cf.Φ=c.Φ) (hR:RkOk c rk ρ) (hg:(opAt ops i).guard=none) (hd:(opAt ops i).dst=dd) (hlt:∀d,dd=some d->d<c.nt) (hc:callC (opAt ops i)=some (fo,xs)) (hf:EvA c.nt T fo (fv.den ρ)) (hv:vls s xs=some vs) (h:(hcl cf rk fv vs dd s K).Ok) (hk:Ok c T G Γ ρ s):Hv c T G Γ ops i s ρ K:=by
 unfold hcl at h
 rw [hΦ] at h
 cases hfn:fnOf fv with
 | none=>rw [hfn] at h; cases h
 | some f =>
   rw [hfn] at h
   simp only at h
   cases hp:pick1 c.Φ f vs s rk.tbl with
   | none=>rw [hp] at h; cases h
   | some sp =>
     rw [hp] at h
     obtain⟨hm,hsf⟩:=pick1_mem hp
     have hf:EvA c.nt T fo (.func (.func f) [] []):=by
      have:fv.den ρ=.func (.func f) [] []:=by
       unfold fnOf at hfn
       split at hfn
       · cases hfn; rfl
       · cases hfn
      rw [<-this]; exact hf
     have h:(hcS c.Φ rk sp vs dd s K).Ok:=h
     unfold hcS at h
     simp only at h
     generalize mAll 0 sp.pre s (mVs 0 [] sp.ar vs)=σ at h
     split at h
     · rename_i left hco
       cases hrk:rkOk rk sp ⟨0,σ⟩ s with
       | false=>rw [hrk] at h; cases h
       | true =>
         rw [hrk] at h
         simp only [cond_true] at h
         obtain⟨hin,hargs,hcore⟩:=call_core hk hco h
         have hσ:SuOk ρ ⟨0,σ⟩:=by
          unfold callOk at hco
          cases hb:(sub c.Φ (preS sp.pre) s ⟨0,σ⟩&&(sameVs ⟨0,σ⟩ sp.ar vs&&(σ.all (fun p=>Nat.blt p.1 sp.pre.nx&&p.2.lt s.nx)&&((List.range sp.pre.nx).all (fun k=>(lkQ σ k).isSome)&&s.ok)))) with
          | false=>rw [hb] at hco; cases hco
          | true =>
            rw [Bool.and_eq_true] at hb
            have b1:=hb.1
            unfold sub at b1
            rw [Bool.and_eq_true] at b1
            exact (subSat_ok b1.1 hk.sat).1
         have hH:Holds c.P c.Φ sp ((sp.ms.ev ((⟨0,σ⟩:Su).up ρ)).toNat):=by
          refine hR sp hm _ ?_
          unfold rkOk at hrk
          rw [Bool.or_eq_true,Bool.and_eq_true] at hrk
          rcases hrk with hrk | ⟨h1,h2⟩
          · exact .inl (blt_ok hrk)
          · refine .inr ⟨beq_ok h1,?_⟩
            split at h2
            · rename_i e he
              rw [Bool.and_eq_true] at h2
              have a1:=ent_ok h2.1 hk.sat
              have a2:=ent_ok h2.2 hk.sat
              rw [LE.ev_addc,LE.ev_sub] at a2
              rw [<-sE_ok hσ he]
              omega
            · cases h2
         have hspec:=hH _ G Γ hin rfl
         rw [hsf,<-hargs] at hspec
         have hev:=vls_ok hk.q hv
         cases hdd:dd with
         | some d =>
           rw [hdd] at hd hlt hcore
           refine StG.callE hg hd (hlt d rfl) hc hf hev (nfL_sv vs ρ) hspec fun v G' ⟨Γ',ρ',p,m1,m2,m3,m4⟩ hnf hgr=>⟨rfl,rfl,?_⟩
           obtain⟨ρ2,s2,k1,k2,k3,k4,k5⟩:=hcore G' Γ' ρ' p m1 m3 hgr m4
           refine⟨Γ',ρ2,_,k1,k2,k3,?_⟩
           have:=k4.put (v:=orU (sV (⟨0,σ++vrs sp.pre.nx s.nx (p.2.nx-sp.pre.nx)⟩:Su) p.1)) d
           rw [k5,<-m2] at this
           exact this
         | none =>
           rw [hdd] at hd hcore
           refine StG.callE0 hg hd hc hf hev (nfL_sv vs ρ) hspec fun v G' ⟨Γ',ρ',p,m1,m2,m3,m4⟩ hgr=>⟨rfl,rfl,?_⟩
           obtain⟨ρ2,s2,k1,k2,k3,k4,k5⟩:=hcore G' Γ' ρ' p m1 m3 hgr m4
           exact⟨Γ',ρ2,s2,k1,k2,k3,k4⟩
     · cases h
end
end Go.Rd
