/- Part Xdc of the proof of FragsEnds: no condition. -/
import Derived.Test.YtmabojcaklojhaaGreatXdb
import Derived.Test.YtmabojcaklojhaaGreatXad
set_option linter.unusedSimpArgs false
set_option linter.unusedVariables false
namespace Go.Rt
open Go.aQ Go.RowKit
def vp (G G':GH):Prop:=∀b,G' b=G b∨∃el size C,G b=some (.cells .loc el size C)/\G' b=some (.cells .data el size C)
theorem vp.refl (G:GH):vp G G:=fun b=>.inl rfl
theorem zh {n0:Nat} {B:Nat->Prop} {w0 w:World} {nt:Nat} {T:Tm} {hp:Tr AO} {nx:Pz} {G G':GH} {ι:En} {a:Act} (h:du n0 B w0 nt T hp nx G ι a w) (hr:vp G G'):du n0 B w0 nt T hp nx G' ι a w:=by
 refine⟨h.1,fun b g hg=>?_,fun id o h1 h2=>?_,h.2.2.2.1,fun b hb hn=>h.2.2.2.2 b hb ?_⟩
 · rcases hr b with e | ⟨el,size,C,e1,e2⟩
   · exact h.2.1 b g (by rw [<-e]; exact hg)
   · rw [e2] at hg; cases hg
     have:=h.2.1 b _ e1
     obtain⟨p1,A,fz,p2,p3,p4,p5,p6⟩:=this
     exact⟨p1,A,fz,p2,p3,p4,fun i hi _=>p5 i hi (fun h=>by cases h),fun _=>p6 (fun e=>by cases e)⟩
 · have:=h.2.2.1 id o h1 h2
   rcases hr (ι.aR id) with e | ⟨el,size,C,e1,e2⟩
   · rw [e]; exact this
   · rw [this] at e1; cases e1
 · rcases hr b with e | ⟨el,size,C,e1,e2⟩
   · rw [<-e]; exact hn
   · rw [e2] at hn; cases hn
def gI (Γ:c8) (g:Nat) (d:Gd) (k:Nat):c8:=⟨Γ.m,fun x=>if x=g then d else Γ.gd x,k⟩
theorem fh (Γ:c8) (g:Nat) (d:Gd) (k:Nat):(gI Γ g d k).gd g=d:=by simp [gI]
theorem gJ {Γ:c8} {g x:Nat} {d:Gd} {k:Nat} (h:x≠g):(gI Γ g d k).gd x=Γ.gd x:=by simp [gI,h]
section
variable {c:Cx} {ops:Array Oper} {i m d f:Nat} {T:Tm} {G G':GH} {Γ Γ':c8} {st st':St} {v u:AV} {P:Program} {Φ:Forms}
theorem m9 {g:Nat} {dn:Gd} {k:Nat} (h:g<Γ.ng->(Γ.gd g).Le dn) (hk:Γ.ng<=k):dm Γ (gI Γ g dn k):=⟨fun b x hb=>⟨x,hb,nj.refl x⟩,fun x hx=>by
 by_cases e:x=g
 · subst e; rw [fh]; exact h hx
 · rw [gJ e]; exact Gd.Le.refl _,hk⟩
theorem HT.Ix (ht:HT P Φ G Γ) {g:Nat} {dn:Gd} {k:Nat} (h0:0<g) (h:g<Γ.ng->(Γ.gd g).Le dn/\(Γ.gd g).fz=false) (hk:Γ.ng<=k):HT P Φ G (gI Γ g dn k):=by
 have hle:=m9 (k:=k) (fun e=>(h e).1) hk
 refine⟨⟨by rw [gJ (by omega)]; exact ht.z.1,Nat.lt_of_lt_of_le ht.z.2 hk⟩,fun b x hb=>?_⟩
 have hx:=ht.b b x hb
 cases x with
 | cells cc g' L =>
   obtain⟨h1,h2,size,C,h3,h4,h5⟩:=hx
   exact⟨⟨Nat.lt_of_lt_of_le h1.1 hk,h1.2⟩,h2,size,C,h3,h4,fun j m hj=>(h5 j m hj).le (dE.refl _) hle h1.1⟩
 | map cc g' =>
   obtain⟨h1,es,h3,h4,h5⟩:=hx
   refine⟨Nat.lt_of_lt_of_le h1 hk,es,h3,h4,?_⟩
   by_cases e:g'=g
   · subst e
     obtain⟨hd,hf⟩:=h h1
     obtain⟨k1,k2⟩:=h5
     refine⟨k1,?_⟩
     rw [fh]
     cases hm:Φ.mv cc with
     | kd kd=>rw [hm] at k2; exact fun p hp=>by obtain⟨fs,q1,q2⟩:=k2 p hp; exact⟨fs,q1.le hd,fun f hf=>(q2 f hf).le (dE.refl _) hle⟩
     | unit=>rw [hm] at k2; exact k2
     | JB b=>rw [hm] at k2; have:=k2.2.1; rw [hf] at this; cases this
     | HK=>rw [hm] at k2; have:=k2.2.1; rw [hf] at this; cases this
   · exact h5.le (dE.refl _) hle (gJ e)
theorem Q.Ix (hq:Q c T G Γ st) {g:Nat} {d0 dn:Gd} {w:Bool} {gs':List (Nat × Gd × Bool)} (hg:(g,d0,true)∈st.gs) (hle:d0.Le dn) (hw:w=true->dn.fz=false) (ham:∀b g' k,Own.am b g' k∈st.os->dn.at_=d0.at_) (hgs:∀p∈gs',p=(g,dn,w)∨(p∈st.gs/\p.1≠g)):Q c T G (gI Γ g dn Γ.ng) ⟨st.L,st.os,st.dL,gs'⟩:=by
 obtain⟨q1,q2,q3⟩:=hq.gs _ hg
 obtain⟨q3,q4,q5⟩:=q3 rfl
 have q1:g<Γ.ng:=q1
 have q2:Γ.gd g=d0:=q2
 have q4:d0.fz=false:=q4
 have hl:dm Γ (gI Γ g dn Γ.ng):=m9 (fun _=>by rw [q2]; exact hle) (Nat.le_refl _)
 have hr:Rl c.Φ c.S c.Sg c.G0 c.Γ0 G (gI Γ g dn Γ.ng):=by
  have r:=hq.rl
  refine⟨r.g,r.r,r.t,r.le.trans hl,fun x hx hn=>?_,r.QT⟩
  have:x≠g:=fun e=>by
   subst e
   rcases q3 with h | h
   · exact hn h
   · have h:c.Γ0.ng<=x:=h
     omega
  rw [gJ this]; exact r.gs x hx hn
 refine⟨hq.ml,hq.at_,hq.yT,hr,hq.grow,fun o ho=>?_,hq.new,hq.nd,hq.ht.Ix q5 (fun _=>by rw [q2]; exact⟨hle,q4⟩) (Nat.le_refl _),fun f hf=>(hq.ty f hf).le (dE.refl _) hl,fun p hp=>?_⟩
 · have:=hq.own o ho
   cases o with
   | loc b el C=>exact this
   | iE v cc ms=>exact this
   | map b pk es=>exact this
   | ul v cc g' n =>
     obtain⟨h1,h2,h3⟩:=this
     refine⟨h1,h2,?_⟩
     rcases h3 with h3 | ⟨b,cap,size,C,k1,k2,k3,k4,k5,k6,k7⟩
     · exact .inl h3
     · exact .inr ⟨b,cap,size,C,k1,k2,k3,k4,k5,k6,fun j hj=>(k7 j hj).le (dE.refl _) hl h1⟩
   | am b g' k =>
     obtain⟨h1,h2,h3,es,h4,h5,h6⟩:=this
     by_cases e:g'=g
     · subst e
       have ea:=ham b g' k ho
       rw [q2] at h3 h6
       refine⟨h1,h2,?_,es,h4,h5,?_⟩
       · rw [fh,ea]; exact fun l n j h=>Nat.lt_of_lt_of_le (h3 l n j h) (hle.n k)
       · rw [fh,ea]; exact h6
     · exact⟨h1,h2,by rw [gJ e]; exact h3,es,h4,h5,by rw [gJ e]; exact h6⟩
   | im b k=>exact this
   | bl v el ms=>exact this
   | km b cc g' n =>
     obtain⟨h1,h2,h3,es,h4,h5,h6,h7⟩:=this
     exact⟨h1,h2,h3,es,h4,h5,h6,h7.JI h3 (dE.refl _) hl h2⟩
   | it b m n r st ty=>exact this
 · rcases hgs p hp with rfl | ⟨h1,h2⟩
   · exact⟨q1,fh _ _ _ _,fun h=>⟨q3,hw h,q5⟩⟩
   · obtain⟨k1,k2,k3⟩:=hq.gs p h1
     exact⟨k1,by rw [gJ h2]; exact k2,k3⟩
theorem Q.Vt (hq:Q c T G Γ st) (dn:Gd) (w:Bool) (hw:w=true->dn.fz=false):Q c T G (gI Γ Γ.ng dn (Γ.ng+1)) ⟨st.L,st.os,st.dL,(Γ.ng,dn,w)::st.gs⟩:=by
 have hl:dm Γ (gI Γ Γ.ng dn (Γ.ng+1)):=m9 (fun h=>absurd h (by omega)) (Nat.le_succ _)
 have hr:Rl c.Φ c.S c.Sg c.G0 c.Γ0 G (gI Γ Γ.ng dn (Γ.ng+1)):=by
  have r:=hq.rl
  refine⟨r.g,r.r,r.t,r.le.trans hl,fun x hx hn=>?_,r.QT⟩
  have:=r.le.ng
  rw [gJ (by omega)]; exact r.gs x hx hn
 refine⟨hq.ml,hq.at_,hq.yT,hr,hq.grow,fun o ho=>?_,hq.new,hq.nd,hq.ht.Ix hq.ht.z.2 (fun h=>absurd h (by omega)) (Nat.le_succ _),fun f hf=>(hq.ty f hf).le (dE.refl _) hl,fun p hp=>?_⟩
 · refine (hq.own o ho).br (S:=[]) (Sg:=[]) ⟨fun b h _ h0=>⟨rfl,h0⟩,dE.refl _,fun b x h _ _=>h,hl,fun g hg _=>gJ (by omega),fun b h=>h⟩ (fun b _ h=>by cases h) (fun g hg=>?_) fun _ _ _ _ _=>rfl
   have:g<Γ.ng:=by
    have:=hq.own o ho
    cases o<;>first | (cases hg; done) | skip
    cases hg; exact this.2.1
   exact gJ (by omega)
 · rcases List.mem_cons.1 hp with rfl | hp
   · refine⟨by show Γ.ng<Γ.ng+1; omega,fh _ _ _ _,fun h=>⟨.inr hq.rl.le.ng,hw h,hq.ht.z.2⟩⟩
   · obtain⟨k1,k2,k3⟩:=hq.gs p hp
     exact⟨by show p.1<Γ.ng+1; omega,by rw [gJ (by omega)]; exact k2,k3⟩
theorem Q.conv (hq:Q c T G Γ st) {osA:List Own} {o o':Own} (ho:st.os.Perm (osA++[o])) (hb:o'.aR=o.aR) (h:cY c.P c.Φ G Γ o'):Q c T G Γ ⟨st.L,osA++[o'],st.dL,st.gs⟩:=by
 refine⟨hq.ml,hq.at_,hq.yT,hq.rl,hq.grow,fun x hx=>?_,fun x hx b AY=>?_,?_,hq.ht,hq.ty,hq.gs⟩
 · rcases List.mem_append.1 hx with hx | hx
   · exact hq.own x (ho.mem_iff.2 (by simp [hx]))
   · rw [List.mem_singleton.1 hx]; exact h
 · rcases List.mem_append.1 hx with hx | hx
   · exact hq.new x (ho.mem_iff.2 (by simp [hx])) b AY
   · rw [List.mem_singleton.1 hx,hb] at AY; exact hq.new o (ho.mem_iff.2 (by simp)) b AY
 · have:=(ho.filterMap Own.aR).nodup_iff.1 hq.nd
   show (eJ (osA++[o'])).Nodup
   have e:eJ (osA++[o'])=eJ (osA++[o]):=by
    rw [dZ,dZ]
    congr 1
    show List.filterMap Own.aR [o']=List.filterMap Own.aR [o]
    simp only [List.filterMap_cons,List.filterMap_nil,hb]
   rw [e]; exact this
theorem Q.Vu (hq:Q c T G Γ st) {osA:List Own} {o:Own} {b:Nat} {y:Ds} {g':Gh} {tys':List TF} (ho:st.os.Perm (osA++[o])) (hb:o.aR=some b) (hm:Γ.m b=none) (hraw:∀el size C,G b≠some (.cells .raw el size C)) (hdat:∀el size C,G b=some (.cells .data el size C)->∃C',g'=.cells .data el size C')
  (hds:dE G (eH G b g')->dm Γ (updΓ Γ b y)->sX c.P c.Φ (eH G b g') (updΓ Γ b y) b y) (h4:∀f∈tys',fx c.P c.Φ (eH G b g') (updΓ Γ b y) f):Q c T (eH G b g') (updΓ Γ b y) ⟨st.L,osA,tys'++st.dL,st.gs⟩:=by
 have htold:=(hq.own o (ho.mem_iff.2 (by simp))).told hb
 have:=hq.nD (osA:=osA) (osB:=[o]) (os':=[]) (tys':=tys') (b:=b) (G':=eH G b g') (Γ':=updΓ Γ b y) ho (dC (.inl htold)) (fun k h=>updΓ_ne h) (fun k h=>db h) (by rw [ay]; rfl) hraw
  (fun el size C h=>by obtain⟨C',h'⟩:=hdat el size C h; exact⟨C',by rw [ay,h']⟩) (fun x h=>by rw [hm] at h; cases h) rfl rfl (.inl (ir.2 ⟨o,by simp,hb⟩))
  (fun x hr hl h=>by rw [updΓ_same] at h; cases h; exact hds hr hl) (fun o' h=>by cases h) (by show ([]:List Nat).Nodup; simp) (fun o' h=>by cases h) (fun f h _ _=>h4 f h) (fun _ _ h=>by rw [hm] at h; cases h)
 exact this.iq (fun _ _ h=>h) ⟨[],by simp⟩ (fun f h=>h) (fun p h=>h)
theorem zi {b:Nat} {g:Gh} (h:G b=some g):eH G b g=G:=by
 funext k
 by_cases e:k=b
 · subst e; rw [ay,h]
 · rw [db e]
def Vv:K2->K2->Bool
 | .sl q,.yS q'=>Nat.beq q q'
 | .zG q _,.yS q'=>Nat.beq q q'
 | _,_=>false
theorem Pg {a b:K2} (h:Vv a b=true):∃q,(a=.sl q∨∃n,a=.zG q n)/\b=.yS q:=by
 cases a<;>cases b<;>first | (cases h; done) | skip
 · have:=ai h
   subst this
   exact⟨_,.inl rfl,rfl⟩
 · have:=ai h
   subst this
   exact⟨_,.inr ⟨_,rfl⟩,rfl⟩
def RO:List K2->List K2->Bool
 | [],[]=>true
 | k::ks,k'::ks'=>bif Rd.O9 k k' then RO ks ks' else (Vv k k'&&Rd.Q0 ks ks')
 | _,_=>false
theorem Iy {d0:Gd} {g j:Nat}:∀{ks ks':List K2} {cs:List AV} {fs:List TF},RO ks ks'=true->gP Φ d0 g j ks cs fs->∃n:Nat,∀dn:Gd,d0.Le dn->dn.fz=true->dn.fl j=n->gP Φ dn g j ks' cs fs
 | [],[],_,_,_,h=>⟨0,fun dn _ _ _=>h⟩
 | k::ks,k'::ks',_,_,ht,⟨v,cs',f,fs',h1,h2,h3,h4⟩=>by
   have ht:(bif Rd.O9 k k' then RO ks ks' else (Vv k k'&&Rd.Q0 ks ks'))=true:=ht
   cases hb:Rd.O9 k k' with
   | true =>
     rw [hb] at ht
     have:=Rd.Is hb
     subst this
     obtain⟨n,hn⟩:=Iy ht h4
     exact⟨n,fun dn a1 a2 a3=>⟨v,cs',f,fs',h1,h2,h3.le a1,hn dn a1 a2 a3⟩⟩
   | false =>
     rw [hb] at ht
     simp only [cond_false] at ht
     rw [Bool.and_eq_true] at ht
     obtain⟨q,e0,e1⟩:=Pg ht.1
     have e2:=Rd.AZ ht.2
     subst e1 e2
     obtain⟨ns,hf⟩:∃ns,f=[.sl v q (gi Φ d0 g q) ns]:=by
      rcases e0 with e0 | ⟨n,e0⟩
      · subst e0; exact h3
      · subst e0; obtain⟨ns,hf,_⟩:=h3; exact⟨ns,hf⟩
     exact⟨ns.length,fun dn a1 a2 a3=>⟨v,cs',f,fs',h1,h2,⟨ns,by rw [qQ a1]; exact hf,a2,a3.symm⟩,h4.le a1⟩⟩
 | [],_::_,_,_,h,_=>by cases h
 | _::_,[],_,_,h,_=>by cases h
end
end Go.Rt
namespace Go.Rd
open Go.aQ Go.RowKit Go.Rt
inductive An where
 | no | ty (c g:Nat) | ul (c g:Nat) | em (pk:KK) | im | bl | km (c g:Nat)
def Ci (n:Nat) (l:List SC):List SC:=match n with | 0=>[] | n+1=>l++Ci n l
theorem vq (ρ:bc) (l:List SC):∀n,aE ρ (Ci n l)=gv n (aE ρ l)
 | 0=>rfl
 | n+1=>by
   show aE ρ (l++Ci n l)=aE ρ l++gv n (aE ρ l)
   rw [<-vq ρ l n]; simp [aE]
section
variable {c:Cx} {T:Tm} {G:GH} {Γ:c8} {ρ ρ':bc} {s s':SS} {cf:Cf} {ops:Array Oper} {i d:Nat}
def Vw (cf:Cf) (t:TypeId) (len:Nat) (ps:List (Nat × Operand)) (d:Nat) (an:An) (s:SS) (K:SS->R):R:=match cf.P.underlying t with
 | some (.slice e)=>(match ((zeroOf cf.P e).bind vd).bind dx,th s ps with
   | some z,some l=>bif Nat.ble len 10000&&(Nat.ble (ae cf.P e) 1000&&(Nat.beq z.length (ae cf.P e)&&Nat.blt 0 (ae cf.P e))) then
     (match vj (fun i=>some (i*ae cf.P e,ae cf.P e)) (Ib l) (Ci len z) with
      | some cs=>bif Nat.beq cs.length (len*ae cf.P e)&&BV s.nx cs then
        (match an with
         | .no=>fresh s fun b s=>K (dX (gw s (.loc b e cs)) d (sc (.wJ b len)))
         | .ty cc g=>bif Nat.beq (cf.Φ.ty cc) e&&(ud s g&&(bR s.nx g&&!cf.Φ.raw cc)) then
           (match Ed cf s g cc (ae cf.P e) (.k 0) len cs with
            | some ls=>bif (!cf.Φ.fy cc||ls.all (fun e=>bq s ((LE.k WU).sub e)))&&(w7 ls).lt s.nx then
              fresh s fun x s=>K (dX (bif cf.Φ.fy cc then m8 (bu s (.sl x cc g)) (.a (.len x)) (.k len) else m8 (m8 (bu s (.sl x cc g)) (.a (.len x)) (.k len)) (.a (.wt x)) (w7 ls)) d (sc (.ref x)))
              else .bad 160 s
            | none=>.bad 161 s)
           else .bad 162 s
         | _=>.bad 163 s)
        else .bad 164 s
      | none=>.bad 165 s)
     else .bad 166 s
   | _,_=>.bad 167 s)
 | _=>.bad 168 s
theorem Pj {t:TypeId} {len:Nat} {ps:Array (Nat × Operand)} {an:An} {K:SS->R} (ho:(ab ops i).op=.buildSlice t len ps) (hg:(ab ops i).guard=none) (hd:(ab ops i).dst=some d) (hlt:d<c.nt) (hP:cf.P=c.P) (hΦ:cf.Φ=c.Φ) (h:(Vw cf t len ps.toList d an s K).Ok) (hk:Ok c T G Γ ρ s):Hv c T G Γ ops i s ρ K:=by
 unfold Vw at h
 rw [hP,hΦ] at h
 split at h
 · rename_i e hu
   split at h
   · rename_i z l hz hl
     cases hb:(Nat.ble len 10000&&(Nat.ble (ae c.P e) 1000&&(Nat.beq z.length (ae c.P e)&&Nat.blt 0 (ae c.P e)))) with
     | false=>rw [hb] at h; cases h
     | true =>
       rw [hb] at h
       simp only [cond_true] at h
       cases hzz:zeroOf c.P e with
       | none=>rw [hzz] at hz; cases hz
       | some zz =>
         rw [hzz] at hz
         simp only [Option.bind_some] at hz
         cases hv:vd zz with
         | none=>rw [hv] at hz; cases hz
         | some w =>
           rw [hv] at hz
           have hz:dx w=some z:=hz
           have e1:zz.cells=aE ρ z:=by rw [<-mn hv ρ]; exact fe hz ρ
           have e1l:zz.cells.length=z.length:=by rw [e1]; simp [aE]
           split at h
           · rename_i cs hf
             cases hb2:(Nat.beq cs.length (len*ae c.P e)&&BV s.nx cs) with
             | false=>rw [hb2] at h; cases h
             | true =>
               rw [hb2] at h
               simp only [cond_true] at h
               rw [Bool.and_eq_true] at hb2
               obtain⟨p1,p2⟩:=ql hk.q hl
               have hfill:=ti hf p2
               rw [vq,<-e1] at hfill
               have kX:(aE ρ cs).length=cs.length:=by simp [aE]
               have hcs:=ai hb2.1
               have hgz:(Nat.ble len 10000&&(Nat.ble (ae c.P e) 1000&&(Nat.beq zz.cells.length (ae c.P e)&&Nat.blt 0 (ae c.P e))))=true:=by rw [e1l]; exact hb
               split at h
               · refine eZ.qS .loc hg hd hlt ho hu hzz hgz p1 hfill (fO _ _) (by rw [kX]; exact hcs) fun b hb hb'=>⟨rfl,rfl,?_⟩
                 obtain⟨h1,h2,h3,h4⟩:=az h hk (.n b)
                 refine⟨Γ,_,_,h1,h2,Nat.le_succ _,?_⟩
                 have e1:(ρ.up s.nx (.n b) s.nx).nn=b:=by rw [h4]; rfl
                 have e2:aE (ρ.up s.nx (.n b)) cs=aE ρ cs:=mi h2 hb2.2
                 have q:=h3.q.AX hb hb' (.loc b e (aE ρ cs)) rfl ⟨ay _ _ _,h3.q.ht.none hb'⟩
                 have hq:Q c T (eH G b (.cells .loc e (aE ρ cs).length (aE ρ cs))) Γ ((gw (aC s) (.loc s.nx e cs)).den (ρ.up s.nx (.n b))):=by
                  have:(gw (aC s) (.loc s.nx e cs)).den (ρ.up s.nx (.n b))=⟨((aC s).den (ρ.up s.nx (.n b))).L,.loc b e (aE ρ cs)::((aC s).den (ρ.up s.nx (.n b))).os,((aC s).den (ρ.up s.nx (.n b))).dL,((aC s).den (ρ.up s.nx (.n b))).gs⟩:=by
                   unfold gw SS.den
                   simp only [List.map_cons,SO.den,e1,e2]
                  rw [this]; exact q
                 have ok1:Ok c T (eH G b (.cells .loc e (aE ρ cs).length (aE ρ cs))) Γ (ρ.up s.nx (.n b)) (gw (aC s) (.loc s.nx e cs)):=⟨⟨h3.sat.fs,h3.sat.bs,h3.sat.pw,h3.sat.ats,h3.sat.c9,h3.sat.ne,h3.sat.fz,h3.sat.sb⟩,hq⟩
                 have:=ok1.put (v:=sc (.wJ s.nx len)) d
                 rw [show (sc (.wJ s.nx len)).den (ρ.up s.nx (.n b))=.di b 0 len len by show AV.di (ρ.up s.nx (.n b) s.nx).nn 0 len len=_; rw [e1]] at this
                 exact this
               · rename_i cc g
                 cases hb3:(Nat.beq (c.Φ.ty cc) e&&(ud s g&&(bR s.nx g&&!c.Φ.raw cc))) with
                 | false=>rw [hb3] at h; cases h
                 | true =>
                   rw [hb3] at h
                   simp only [cond_true] at h
                   simp only [Bool.and_eq_true,Bool.not_eq_true'] at hb3
                   obtain⟨b1,b2,b3,hrw⟩:=hb3
                   have b1:=ai b1
                   subst b1
                   cases hel:Ed cf s g cc (ae c.P (c.Φ.ty cc)) (.k 0) len cs with
                   | none=>rw [hel] at h; cases h
                   | some ls =>
                     rw [hel] at h
                     simp only at h
                     cases hb4:((!c.Φ.fy cc||ls.all (fun e=>bq s ((LE.k WU).sub e)))&&(w7 ls).lt s.nx) with
                     | false=>rw [hb4] at h; cases h
                     | true =>
                       rw [hb4] at h
                       simp only [cond_true] at h
                       rw [Bool.and_eq_true] at hb4
                       obtain⟨ns,k1,k2,k3,k4⟩:=w8 hΦ hk hel (by rw [LE.bp]; exact Int.le_refl _) rfl
                       have hz0:((LE.k 0).ev ρ).toNat=0:=by rw [LE.bp]; rfl
                       rw [hz0] at k3
                       -- the labels
                       obtain⟨L,m1,m2,m3,m4⟩:∃L:List Nat,L.length=len/\(c.Φ.fy cc=true->∀m∈L,m=WU)/\(∀j m,L[j]?=some m->eI c.P c.Φ G Γ m cc (ig ρ g) j (((aE ρ cs).drop (j*ae c.P (c.Φ.ty cc))).take (ae c.P (c.Φ.ty cc))))/\(c.Φ.fy cc=false->L=ns):=by
                        cases hun:c.Φ.fy cc with
                        | false=>exact⟨ns,k1,fun h=>(by cases h),fun j m hj=>by have:=k3 j m hj; rwa [Nat.zero_add] at this,fun _=>rfl⟩
                        | true =>
                          refine⟨List.replicate len WU,by simp,fun _ m hm=>List.eq_of_mem_replicate hm,fun j m hj=>?_,fun h=>by cases h⟩
                          have hm:=List.eq_of_mem_replicate (List.mem_of_getElem? hj)
                          have hjl:=(List.getElem?_eq_some_iff.1 hj).1
                          rw [List.length_replicate,<-k1] at hjl
                          subst hm
                          have:=k3 j _ (List.getElem?_eq_getElem hjl)
                          rw [Nat.zero_add] at this
                          refine this.more ?_
                          obtain⟨e0,e01,e02⟩:=k4 _ (List.getElem_mem hjl)
                          rw [hun] at hb4
                          simp only [Bool.not_true,Bool.false_or] at hb4
                          have:=ax (List.all_eq_true.1 hb4.1 e0 e01) hk.sat
                          rw [LE.aw,LE.bp,e02] at this
                          omega
                       have hlim:L.length<=kT:=by
                        rw [m1]
                        simp only [Bool.and_eq_true] at hb
                        have:=aL hb.1
                        unfold kT; omega
                       refine eZ.qS .data hg hd hlt ho hu hzz hgz p1 hfill (fO _ _) (by rw [kX]; exact hcs) fun b hb hb'=>⟨rfl,rfl,?_⟩
                       have hq:=hk.q.OY (cc:=cc) (g:=ig ρ g) (L:=L) (size:=(aE ρ cs).length) (C:=aE ρ cs) (tys':=[.sl (.di b 0 len len) cc (ig ρ g) L]) hb hb' (kY b2 hk) hrw m2 (by rw [kX,hcs,m1]) m3 (fun f hf=>by
                        rw [List.mem_singleton.1 hf]
                        exact⟨hlim,.inr (.inr ⟨b,len,L,(aE ρ cs).length,aE ρ cs,by rw [m1],updΓ_same _ _ _,(List.take_length).symm,ay _ _ _,by rw [kX,hcs]; exact Nat.le_refl _,by rw [m1]; exact Nat.le_refl _⟩)⟩)
                       have fin:∀K2:Nat->SS->R,(fresh s K2).Ok->∃ρ',(K2 s.nx (aC s)).Ok/\de s.nx ρ ρ'/\Ok c T (eH G b (.cells .data (c.Φ.ty cc) (aE ρ cs).length (aE ρ cs))) (updΓ Γ b (.cells cc (ig ρ g) L)) ρ' (m8 (bu (aC s) (.sl s.nx cc g)) (.a (.len s.nx)) (.k len))/\(ρ' s.nx).vv=.di b 0 len len/\(ρ' s.nx).ns=L:=fun K2 h=>by
                        obtain⟨r1,r2,r3,r4⟩:=az h hk (.v (.di b 0 len len) L)
                        have hv':(ρ.up s.nx (.v (.di b 0 len len) L) s.nx).vv=.di b 0 len len:=by rw [r4]; rfl
                        have hn':(ρ.up s.nx (.v (.di b 0 len len) L) s.nx).ns=L:=by rw [r4]; exact U.j4 hlim
                        have eD:=(SS.bP (dh h) r2).1
                        refine⟨_,r1,r2,Ok.m8 ⟨⟨r3.sat.fs,r3.sat.bs,r3.sat.pw,r3.sat.ats,r3.sat.c9,r3.sat.ne,r3.sat.fz,r3.sat.sb⟩,?_⟩ ?_,hv',hn'⟩
                        · have:(bu (aC s) (.sl s.nx cc g)).den (ρ.up s.nx (.v (.di b 0 len len) L))=⟨(s.den ρ).L,(s.den ρ).os,.sl (.di b 0 len len) cc (ig ρ g) L::(s.den ρ).dL,(s.den ρ).gs⟩:=by
                           refine St.ext' (by have:=congrArg St.L eD; exact this) (by have:=congrArg St.os eD; exact this) ?_ (by have:=congrArg St.gs eD; exact this)
                           show dw.den _ (.sl s.nx cc g)::s.ty.map (dw.den _)=_
                           rw [show s.ty.map (dw.den (ρ.up s.nx (.v (.di b 0 len len) L)))=(s.den ρ).dL from congrArg St.dL eD]
                           simp only [dw.den]; rw [hv',hn',bV r2 b3]
                          rw [this]
                          exact hq
                        · rw [LE.a9,LE.bp]
                          show (((ρ.up s.nx (.v (.di b 0 len len) L) s.nx).ns.length:Nat):Int)=_
                          rw [hn',m1]
                       obtain⟨ρ',r1,r2,r3,r4,r5⟩:=fin _ h
                       refine⟨updΓ Γ b (.cells cc (ig ρ g) L),ρ',_,r1,r2,by cases c.Φ.fy cc<;>exact Nat.le_succ _,?_⟩
                       cases hun:c.Φ.fy cc with
                       | true =>
                         have:=r3.put (v:=sc (.ref s.nx)) d
                         rw [show (sc (.ref s.nx)).den ρ'=.di b 0 len len from r4] at this
                         exact this
                       | false =>
                         have:=(r3.m8 (a:=.a (.wt s.nx)) (b:=w7 ls) (by
                          rw [LE.a9,LE.bP r2 hb4.2,<-k2]
                          show (((ρ' s.nx).ns.sum+(ρ' s.nx).ns.length:Nat):Int)=_
                          rw [r5,m4 hun])).put (v:=sc (.ref s.nx)) d
                         rw [show (sc (.ref s.nx)).den ρ'=.di b 0 len len from r4] at this
                         exact this
               · cases h
           · cases h
   · cases h
 · cases h
def x5 (cf:Cf) (d:Nat) (an:An) (s:SS) (K:SS->R):R:=match an with
 | .em pk=>fresh s fun b s=>K (dX (gw s (.em b pk)) d (sc (.dG b)))
 | .im=>fresh s fun b s=>K (dX (gw s (.im b (.k 0))) d (sc (.dG b)))
 | .ty cc g=>(match cf.Φ.mv cc with
   | .kd _=>bif ud s g&&bR s.nx g then fresh s fun x s=>K (dX (bu s (.mp x cc g)) d (sc (.ref x))) else .bad 170 s
   | .unit=>bif ud s g&&bR s.nx g then fresh s fun x s=>K (dX (bu s (.mp x cc g)) d (sc (.ref x))) else .bad 170 s
   | _=>.bad 171 s)
 | .km cc g=>bif Rw (cf.Φ.mv cc)&&(ud s g&&bR s.nx g) then fresh s fun b s=>K (dX (gw s (.km b cc g (.k 0))) d (sc (.dG b))) else .bad 173 s
 | _=>.bad 172 s
theorem Pm {t:TypeId} {an:An} {K:SS->R} (ho:(ab ops i).op=.makeMap t none) (hg:(ab ops i).guard=none) (hd:(ab ops i).dst=some d) (hlt:d<c.nt) (hP:cf.P=c.P) (hΦ:cf.Φ=c.Φ) (h:(x5 cf d an s K).Ok) (hk:Ok c T G Γ ρ s):Hv c T G Γ ops i s ρ K:=by
 unfold x5 at h
 rw [hΦ] at h
 split at h
 · rename_i pk
   refine eZ.BQ hg hd hlt ho fun b hb hb'=>⟨rfl,rfl,?_⟩
   obtain⟨h1,h2,h3,h4⟩:=az h hk (.n b)
   have e1:(ρ.up s.nx (.n b) s.nx).nn=b:=by rw [h4]; rfl
   have q:=h3.q.AX (g:=.map []) hb hb' (.map b pk []) rfl ⟨ay _ _ _,h3.q.ht.none hb',fun p hp=>by cases hp⟩
   refine⟨Γ,_,_,h1,h2,Nat.le_succ _,?_⟩
   have ok1:Ok c T (eH G b (.map [])) Γ (ρ.up s.nx (.n b)) (gw (aC s) (.em s.nx pk)):=⟨⟨h3.sat.fs,h3.sat.bs,h3.sat.pw,h3.sat.ats,h3.sat.c9,h3.sat.ne,h3.sat.fz,h3.sat.sb⟩,by
    have:(gw (aC s) (.em s.nx pk)).den (ρ.up s.nx (.n b))=⟨((aC s).den (ρ.up s.nx (.n b))).L,.map b pk []::((aC s).den (ρ.up s.nx (.n b))).os,((aC s).den (ρ.up s.nx (.n b))).dL,((aC s).den (ρ.up s.nx (.n b))).gs⟩:=by
     unfold gw SS.den
     simp only [List.map_cons,SO.den,e1]
    rw [this]; exact q⟩
   have:=ok1.put (v:=sc (.dG s.nx)) d
   rw [show (sc (.dG s.nx)).den (ρ.up s.nx (.n b))=.dG b by show AV.dG (ρ.up s.nx (.n b) s.nx).nn=_; rw [e1]] at this
   exact this
 · refine eZ.BQ hg hd hlt ho fun b hb hb'=>⟨rfl,rfl,?_⟩
   obtain⟨h1,h2,h3,h4⟩:=az h hk (.n b)
   have e1:(ρ.up s.nx (.n b) s.nx).nn=b:=by rw [h4]; rfl
   have q:=h3.q.AX (g:=.map []) hb hb' (.im b 0) rfl ⟨h3.q.ht.none hb',[],ay _ _ _,fun p hp=>by cases hp⟩
   refine⟨Γ,_,_,h1,h2,Nat.le_succ _,?_⟩
   have ok1:Ok c T (eH G b (.map [])) Γ (ρ.up s.nx (.n b)) (gw (aC s) (.im s.nx (.k 0))):=⟨⟨h3.sat.fs,h3.sat.bs,h3.sat.pw,h3.sat.ats,h3.sat.c9,h3.sat.ne,h3.sat.fz,h3.sat.sb⟩,by
    have:(gw (aC s) (.im s.nx (.k 0))).den (ρ.up s.nx (.n b))=⟨((aC s).den (ρ.up s.nx (.n b))).L,.im b 0::((aC s).den (ρ.up s.nx (.n b))).os,((aC s).den (ρ.up s.nx (.n b))).dL,((aC s).den (ρ.up s.nx (.n b))).gs⟩:=by
     unfold gw SS.den
     simp only [List.map_cons,SO.den,e1,LE.bp]
     rfl
    rw [this]; exact q⟩
   have:=ok1.put (v:=sc (.dG s.nx)) d
   rw [show (sc (.dG s.nx)).den (ρ.up s.nx (.n b))=.dG b by show AV.dG (ρ.up s.nx (.n b) s.nx).nn=_; rw [e1]] at this
   exact this
 · rename_i cc g
   have key:eE c.P c.Φ G Γ cc (ig ρ g) []->((bif ud s g&&bR s.nx g then fresh s fun x s=>K (dX (bu s (.mp x cc g)) d (sc (.ref x))) else .bad 170 s)).Ok->Hv c T G Γ ops i s ρ K:=fun hm h=>by
    cases hb:(ud s g&&bR s.nx g) with
    | false=>rw [hb] at h; cases h
    | true =>
      rw [hb] at h
      simp only [cond_true] at h
      rw [Bool.and_eq_true] at hb
      refine eZ.BQ hg hd hlt ho fun b hb1 hb'=>⟨rfl,rfl,?_⟩
      have q:=hk.q.Vm (cc:=cc) (g:=ig ρ g) (tys':=[.mp (.dG b) cc (ig ρ g)]) hb1 hb' (kY hb.1 hk) hm (fun f hf=>by rw [List.mem_singleton.1 hf]; exact⟨b,rfl,updΓ_same _ _ _⟩)
      obtain⟨r1,r2,r3,r4⟩:=az h hk (.v (.dG b) [])
      have hv':(ρ.up s.nx (.v (.dG b) []) s.nx).vv=.dG b:=by rw [r4]; rfl
      have eD:=(SS.bP (dh h) r2).1
      refine⟨updΓ Γ b (.map cc (ig ρ g)),ρ.up s.nx (.v (.dG b) []),dX (bu (aC s) (.mp s.nx cc g)) d (sc (.ref s.nx)),r1,r2,Nat.le_succ _,?_⟩
      have ok1:Ok c T (eH G b (.map [])) (updΓ Γ b (.map cc (ig ρ g))) (ρ.up s.nx (.v (.dG b) [])) (bu (aC s) (.mp s.nx cc g)):=⟨⟨r3.sat.fs,r3.sat.bs,r3.sat.pw,r3.sat.ats,r3.sat.c9,r3.sat.ne,r3.sat.fz,r3.sat.sb⟩,by
       have:(bu (aC s) (.mp s.nx cc g)).den (ρ.up s.nx (.v (.dG b) []))=⟨(s.den ρ).L,(s.den ρ).os,.mp (.dG b) cc (ig ρ g)::(s.den ρ).dL,(s.den ρ).gs⟩:=by
        refine St.ext' (by have:=congrArg St.L eD; exact this) (by have:=congrArg St.os eD; exact this) ?_ (by have:=congrArg St.gs eD; exact this)
        show dw.den _ (.mp s.nx cc g)::s.ty.map (dw.den _)=_
        rw [show s.ty.map (dw.den (ρ.up s.nx (.v (.dG b) [])))=(s.den ρ).dL from congrArg St.dL eD]
        simp only [dw.den]; rw [hv',bV r2 hb.2]
       rw [this]; exact q⟩
      have:=ok1.put (v:=sc (.ref s.nx)) d
      rw [show (sc (.ref s.nx)).den (ρ.up s.nx (.v (.dG b) []))=.dG b from hv'] at this
      exact this
   split at h
   · rename_i kd hm
     exact key (by unfold eE; rw [hm]; exact⟨fun p hp=>(by cases hp),fun p hp=>(by cases hp)⟩) h
   · rename_i hm
     exact key (by unfold eE; rw [hm]; exact⟨fun p hp=>(by cases hp),fun p hp=>(by cases hp)⟩) h
   · cases h
 · rename_i cc g
   cases hb:(Rw (c.Φ.mv cc)&&(ud s g&&bR s.nx g)) with
   | false=>rw [hb] at h; cases h
   | true =>
     rw [hb] at h
     simp only [cond_true] at h
     simp only [Bool.and_eq_true] at hb
     refine eZ.BQ hg hd hlt ho fun b hb1 hb'=>⟨rfl,rfl,?_⟩
     obtain⟨h1,h2,h3,h4⟩:=az h hk (.n b)
     have e1:(ρ.up s.nx (.n b) s.nx).nn=b:=by rw [h4]; rfl
     have eg:ig (ρ.up s.nx (.n b)) g=ig ρ g:=bV h2 hb.2.2
     have hm:eE c.P c.Φ (eH G b (.map [])) Γ cc (ig ρ g) []:=by
      unfold eE
      refine⟨fun p hp=>(by cases hp),?_⟩
      have:=hb.1
      cases hmv:c.Φ.mv cc with
      | kd k=>exact fun p hp=>by cases hp
      | unit=>exact fun p hp=>by cases hp
      | JB b=>rw [hmv] at this; cases this
      | HK=>rw [hmv] at this; cases this
     have q:=h3.q.AX (g:=.map []) hb1 hb' (.km b cc (ig ρ g) 0) rfl ⟨h3.q.ht.none hb',kY hb.2.1 hk,hb.1,[],ay _ _ _,rfl,(fun p hp=>by cases hp),hm⟩
     refine⟨Γ,_,_,h1,h2,Nat.le_succ _,?_⟩
     have ok1:Ok c T (eH G b (.map [])) Γ (ρ.up s.nx (.n b)) (gw (aC s) (.km s.nx cc g (.k 0))):=⟨⟨h3.sat.fs,h3.sat.bs,h3.sat.pw,h3.sat.ats,h3.sat.c9,h3.sat.ne,h3.sat.fz,h3.sat.sb⟩,by
      have:(gw (aC s) (.km s.nx cc g (.k 0))).den (ρ.up s.nx (.n b))=⟨((aC s).den (ρ.up s.nx (.n b))).L,.km b cc (ig ρ g) 0::((aC s).den (ρ.up s.nx (.n b))).os,((aC s).den (ρ.up s.nx (.n b))).dL,((aC s).den (ρ.up s.nx (.n b))).gs⟩:=by
       unfold gw SS.den
       simp only [List.map_cons,SO.den,e1,eg,LE.bp]
       rfl
      rw [this]; exact q⟩
     have:=ok1.put (v:=sc (.dG s.nx)) d
     rw [show (sc (.dG s.nx)).den (ρ.up s.nx (.n b))=.dG b by show AV.dG (ρ.up s.nx (.n b) s.nx).nn=_; rw [e1]] at this
     exact this
 · cases h
end
end Go.Rd
namespace Go.Rd
open Go.aQ Go.RowKit Go.Rt
def pD (f:SO->Bool):List SO->Option (SO × List SO)
 | []=>none
 | o::l=>bif f o then some (o,l) else (pD f l).map fun p=>(p.1,o::p.2)
theorem fQ {f:SO->Bool}:∀{l l':List SO} {o:SO},pD f l=some (o,l')->f o=true/\l.Perm (l'++[o])
 | [],_,_,h=>by cases h
 | x::l,l',o,h=>by
   have h:(bif f x then some (x,l) else (pD f l).map fun p=>(p.1,x::p.2))=some (o,l'):=h
   cases hb:f x with
   | true=>rw [hb] at h; cases h; exact⟨hb,(List.perm_append_singleton _ _).symm⟩
   | false =>
     rw [hb] at h
     cases hr:pD f l with
     | none=>rw [hr] at h; cases h
     | some p =>
       rw [hr] at h; cases h
       obtain⟨h1,h2⟩:=fQ (o:=p.1) (l':=p.2) hr
       exact⟨h1,h2.cons _⟩
def Eg (x:Nat):SO->Bool | .ul y _ _=>Nat.beq y x | _=>false
def Pn (x:Nat):SO->Bool | .bl y _ _=>Nat.beq y x | _=>false
theorem KZ {x:Nat} {o:SO} (h:Eg x o=true):∃c g,o=.ul x c g:=by
 cases o<;>first | (cases h; done) | skip
 have:=ai h; subst this; exact⟨_,_,rfl⟩
def Ef (cf:Cf) (e:TypeId) (d cc g:Nat) (osA:List SO) (len:LE) (u:SV) (s:SS) (K:SS->R):R:=bif Nat.beq (cf.Φ.ty cc) e&&cf.Φ.fy cc then
    (match zf cf s cc g len u with
     | some (n,_)=>bif bq s ((LE.k (A0 cf.P e)).sub (len.add n))&&((len.add n).lt s.nx&&(bR s.nx g&&osA.all (SO.lt s.nx))) then
       fresh s fun x s=>K (dX (m8 (dV s (osA++[.ul x cc g])) (.a (.len x)) (len.add n)) d (sc (.ref x)))
       else .bad 180 s
     | none=>.bad 181 s)
 else .bad 182 s
def Po (cf:Cf) (ts tx:TypeId) (d:Nat) (v u:SV) (an:An) (s:SS) (K:SS->R):R:=match A1 cf.P ts tx,v,an with
 | some e,.v false [.aB],.ul cc g=>bif ud s g then Ef cf e d cc g s.os (.k 0) u s K else .bad 183 s
 | some e,.v false [.ref x],an=>(match pD (Eg x) s.os with
   | some (.ul _ cc g,osA)=>Ef cf e d cc g osA (.a (.len x)) u s K
   | _=>n9 cf ts tx d v u (match an with | .ty cc g=>some (cc,g) | _=>none) s K)
 | _,_,.ty cc g=>n9 cf ts tx d v u (some (cc,g)) s K
 | _,_,_=>n9 cf ts tx d v u none s K
def Ml (cf:Cf) (t:TypeId) (d:Nat) (v u:SV) (an:An) (s:SS) (K:SS->R):R:=match v,u,cf.P.underlying t with
 | .v false [.int k e],.v false [.int k' e'],some (.slice el)=>bif eW k&&(eW k'&&(e.same e'&&(bq s e&&(bq s ((LE.k 16777216).sub e)&&e.lt s.nx)))) then
   (match ((zeroOf cf.P el).bind vd).bind dx with
    | some z=>bif Nat.beq z.length (ae cf.P el)&&(Nat.ble (ae cf.P el) 1000&&(Nat.blt 0 (ae cf.P el)&&Nat.ble (cf.P.bytesOf el) 1000000)) then
      (match an with
       | .ty cc g=>bif Nat.beq (cf.Φ.ty cc) el&&(cf.Φ.fy cc&&(ud s g&&(bR s.nx g&&((cf.Φ.ks cc).all RN&&!cf.Φ.raw cc)))) then
         (match qn cf s g (ghost s.gs g) (.k 0) (cf.Φ.ks cc) z with
          | some os=>bif bq s ((LE.k WU).sub (iB os)) then fresh s fun x s=>K (dX (m8 (bu s (.sl x cc g)) (.a (.len x)) e) d (sc (.ref x))) else .bad 184 s
          | none=>.bad 185 s)
         else .bad 186 s
       | .bl=>(match z with
         | [.bool (.k false)]=>fresh s fun x s=>K (dX (m8 (m8 (dV s (.bl x x el::s.os)) (.a (.len x)) e) (.a (.wt x)) (e.ji 2)) d (sc (.ref x)))
         | _=>.bad 187 s)
       | _=>.bad 188 s)
      else .bad 189 s
    | none=>.bad 190 s)
   else .bad 191 s
 | _,_,_=>.bad 192 s
section
variable {c:Cx} {T:Tm} {G:GH} {Γ:c8} {ρ ρ':bc} {s s':SS} {cf:Cf} {ops:Array Oper} {i d:Nat}
theorem dW {l l':List SO} (h:l.Perm l') (ρ:bc):(l.map (SO.den ρ)).Perm (l'.map (SO.den ρ)):=h.map _
theorem Cj {cl:Call} {ts tx e:TypeId} {ys yx:Operand} {cc g n:Nat} {osA:List SO} {len:LE} {v u:SV} {K:SS->R} (hg:(ab ops i).guard=none) (hd:(ab ops i).dst=some d) (hlt:d<c.nt) (ho:(ab ops i).op=.call cl) (hc:cl.callee=.builtin .append) (ht:cl.argTypes.toList=[ts,tx]) (hx:cl.args.toList=[ys,yx])
  (hP:cf.P=c.P) (hΦ:cf.Φ=c.Φ) (n9:A1 c.P ts tx=some e) (h:(Ef cf e d cc g osA len u s K).Ok) (hk:Ok c T G Γ ρ s) (hv:ba c.nt T ys (v.den ρ)) (hu:ba c.nt T yx (u.den ρ)) (hq:Q c T G Γ ⟨(s.den ρ).L,osA.map (SO.den ρ)++[.ul (v.den ρ) cc (ig ρ g) n],(s.den ρ).dL,(s.den ρ).gs⟩) (hl:len.ev ρ=(n:Int)):Hv c T G Γ ops i s ρ K:=by
 unfold Ef at h
 rw [hP,hΦ] at h
 cases hb:(Nat.beq (c.Φ.ty cc) e&&c.Φ.fy cc) with
 | false=>rw [hb] at h; cases h
 | true =>
   rw [hb] at h
   rw [Bool.and_eq_true] at hb
   obtain⟨hb,hun⟩:=hb
   have hb:=ai hb
   subst hb
   simp only [cond_true] at h
   cases hsr:zf cf s cc g len u with
   | none=>rw [hsr] at h; cases h
   | some p =>
     obtain⟨k,w⟩:=p
     rw [hsr] at h
     simp only at h
     cases hf:(bq s ((LE.k (A0 c.P (c.Φ.ty cc))).sub (len.add k))&&((len.add k).lt s.nx&&(bR s.nx g&&osA.all (SO.lt s.nx)))) with
     | false=>rw [hf] at h; cases h
     | true =>
       rw [hf] at h
       simp only [cond_true] at h
       simp only [Bool.and_eq_true] at hf
       obtain⟨f1,f2,f3,f4⟩:=hf
       obtain⟨h1,⟨e',h2⟩,zz,h3,h4⟩:=xb n9
       have h5:=h4
       simp only [Bool.and_eq_true] at h5
       have hsz:=au h5.2.2
       have hJ:n=(len.ev ρ).toNat:=by rw [hl]; rfl
       obtain⟨ns,E,k1,k2,k3,k4,k5,k6,k7⟩:=w9 hP hΦ hsr hk hJ hsz
       have hcap:=ax f1 hk.sat
       rw [LE.aw,LE.bp,LE.gF,hl,k3] at hcap
       obtain⟨c1,c2⟩:=xa (P:=c.P) (e:=c.Φ.ty cc) (n:=n+ns.length) (by omega) (aL h5.1)
       obtain⟨E1,x1,x2,x3⟩:=hq.Ef (k:=ns.length) (E2:=E) (osA:=osA.map (SO.den ρ)) (v:=v.den ρ) (cc:=cc) (List.Perm.refl _) k5 k2 (fun j hj=>(k6 j _ (List.getElem?_eq_getElem hj)).more (k7 hun _ (List.getElem_mem hj))) c2
       refine eZ.wX hg hd hlt ho hc ht hx h1 h2 (fun k h=>by cases h) h3 h4 hv hu x1 x2 k1 c1 (Nat.le_trans c2 (by unfold kT; omega)) fun v' G' ha hnf=>?_
       obtain⟨Γ',hq'⟩:=x3 G' v' ha
       have hown:cY c.P c.Φ G' Γ' (.ul v' cc (ig ρ g) (n+ns.length)):=hq'.own _ (by simp)
       have href:bZ v'=true:=by
        rcases hown.2.2 with ⟨h,_⟩ | ⟨b,cap,size,C,h,_⟩<;>rw [h]<;>rfl
       have hlim:(List.replicate (n+ns.length) 0).length<=kT:=by rw [List.length_replicate]; exact c2
       obtain⟨r1,r2,r3,r4⟩:=az h hk (.v v' (List.replicate (n+ns.length) 0))
       have hv':(ρ.up s.nx (.v v' (List.replicate (n+ns.length) 0)) s.nx).vv=v':=by rw [r4]; exact U.jy href
       have hn':(ρ.up s.nx (.v v' (List.replicate (n+ns.length) 0)) s.nx).ns.length=n+ns.length:=by rw [r4,U.j4 hlim,List.length_replicate]
       have eD:=(SS.bP (dh h) r2).1
       have eO:osA.map (SO.den (ρ.up s.nx (.v v' (List.replicate (n+ns.length) 0))))=osA.map (SO.den ρ):=List.map_congr_left fun o ho=>SO.bP r2 (List.all_eq_true.1 f4 o ho)
       refine⟨rfl,rfl,Γ',_,_,r1,r2,Nat.le_succ _,?_⟩
       have hbase:Ok c T G' Γ' (ρ.up s.nx (.v v' (List.replicate (n+ns.length) 0))) (dV (aC s) (osA++[.ul s.nx cc g])):=by
        refine⟨⟨r3.sat.fs,r3.sat.bs,r3.sat.pw,r3.sat.ats,r3.sat.c9,r3.sat.ne,r3.sat.fz,r3.sat.sb⟩,?_⟩
        have:(dV (aC s) (osA++[.ul s.nx cc g])).den (ρ.up s.nx (.v v' (List.replicate (n+ns.length) 0)))=⟨(s.den ρ).L,osA.map (SO.den ρ)++[.ul v' cc (ig ρ g) (n+ns.length)],(s.den ρ).dL,(s.den ρ).gs⟩:=by
         refine St.ext' (by have:=congrArg St.L eD; exact this) ?_ (by have:=congrArg St.dL eD; exact this) (by have:=congrArg St.gs eD; exact this)
         show (osA++[SO.ul s.nx cc g]).map (SO.den _)=_
         rw [List.map_append,eO,List.map_singleton]
         simp only [SO.den]; rw [hv',hn',bV r2 f3]
        rw [this]
        exact hq'
       have a1:(LE.a (.len s.nx)).ev (ρ.up s.nx (.v v' (List.replicate (n+ns.length) 0)))=(len.add k).ev (ρ.up s.nx (.v v' (List.replicate (n+ns.length) 0))):=by
        rw [LE.bP r2 f2,LE.gF,hl,k3,LE.a9]
        show (((ρ.up s.nx (.v v' (List.replicate (n+ns.length) 0)) s.nx).ns.length:Nat):Int)=_
        rw [hn']; omega
       have:=(hbase.m8 a1).put (v:=sc (.ref s.nx)) d
       rw [show (sc (.ref s.nx)).den (ρ.up s.nx (.v v' (List.replicate (n+ns.length) 0)))=v' from hv'] at this
       exact this
theorem K0 {cl:Call} {ts tx:TypeId} {ys yx:Operand} {v u:SV} {an:An} {K:SS->R} (hg:(ab ops i).guard=none) (hd:(ab ops i).dst=some d) (hlt:d<c.nt) (ho:(ab ops i).op=.call cl) (hc:cl.callee=.builtin .append) (ht:cl.argTypes.toList=[ts,tx]) (hx:cl.args.toList=[ys,yx])
  (hP:cf.P=c.P) (hΦ:cf.Φ=c.Φ) (h:(Po cf ts tx d v u an s K).Ok) (hk:Ok c T G Γ ρ s) (hv:ba c.nt T ys (v.den ρ)) (hu:ba c.nt T yx (u.den ρ)):Hv c T G Γ ops i s ρ K:=by
 unfold Po at h
 split at h
 · rename_i e cc g n9
   rw [hP] at n9
   cases hgi:ud s g with
   | false=>rw [hgi] at h; cases h
   | true =>
     rw [hgi] at h
     refine Cj (v:=.v false [.aB]) (n:=0) hg hd hlt ho hc ht hx hP hΦ n9 h hk hv hu ?_ (by rw [LE.bp]; rfl)
     have q:=hk.q
     refine⟨q.ml,q.at_,q.yT,q.rl,q.grow,fun o ho=>?_,fun o ho b hb=>?_,?_,q.ht,q.ty,q.gs⟩
     · rcases List.mem_append.1 ho with ho | ho
       · exact q.own o ho
       · rw [List.mem_singleton.1 ho]; exact⟨kY hgi hk,Nat.zero_le _,.inl ⟨rfl,rfl⟩⟩
     · rcases List.mem_append.1 ho with ho | ho
       · exact q.new o ho b hb
       · rw [List.mem_singleton.1 ho] at hb; cases hb
     · show (eJ (_++[Own.ul .aB cc (ig ρ g) 0])).Nodup
       rw [dZ]
       have:eJ [Own.ul .aB cc (ig ρ g) 0]=[]:=rfl
       rw [this,List.append_nil]
       exact q.nd
 · rename_i an' e x n9
   rw [hP] at n9
   split at h
   · rename_i y cc g osA hr
     obtain⟨r1,r2⟩:=fQ hr
     obtain⟨c',g',e0⟩:=KZ r1
     cases e0
     refine Cj (v:=.v false [.ref x]) (n:=(ρ x).ns.length) hg hd hlt ho hc ht hx hP hΦ n9 h hk hv hu ?_ (by rw [LE.a9]; rfl)
     refine hk.q.iq (fun _ _ h=>h) ⟨[],?_⟩ (fun f h=>h) (fun p h=>h)
     have:=dW r2 ρ
     rw [List.map_append,List.map_singleton] at this
     rw [List.append_nil]
     exact this
   · exact A2 hg hd hlt ho hc ht hx hP hΦ h hk hv hu
 · exact A2 hg hd hlt ho hc ht hx hP hΦ h hk hv hu
 · exact A2 hg hd hlt ho hc ht hx hP hΦ h hk hv hu
theorem Iz {l:List AV} {n j sz:Nat} (hl:l.length=sz) (hj:j<n):((gv n l).drop (j*sz)).take sz=l:=by
 induction n generalizing j with
 | zero=>omega
 | succ n ih =>
   have e:gv (n+1) l=l++gv n l:=rfl
   rw [e]
   cases j with
   | zero=>rw [Nat.zero_mul,List.drop_zero,<-hl,List.take_left]
   | succ j=>rw [Nat.succ_mul,Nat.add_comm,<-List.drop_drop,<-hl,List.drop_left,hl]; exact ih (by omega)
theorem Pp {t:TypeId} {yl yc:Operand} {v u:SV} {an:An} {K:SS->R} (ho:(ab ops i).op=.makeSlice t yl yc) (hg:(ab ops i).guard=none) (hd:(ab ops i).dst=some d) (hlt:d<c.nt) (hP:cf.P=c.P) (hΦ:cf.Φ=c.Φ) (h:(Ml cf t d v u an s K).Ok) (hk:Ok c T G Γ ρ s) (hv:ba c.nt T yl (v.den ρ)) (hu:ba c.nt T yc (u.den ρ)):Hv c T G Γ ops i s ρ K:=by
 unfold Ml at h
 rw [hP,hΦ] at h
 split at h
 · rename_i k e k' e' el hun
   cases hb:(eW k&&(eW k'&&(e.same e'&&(bq s e&&(bq s ((LE.k 16777216).sub e)&&e.lt s.nx))))) with
   | false=>rw [hb] at h; cases h
   | true =>
     rw [hb] at h
     simp only [cond_true] at h
     simp only [Bool.and_eq_true] at hb
     obtain⟨b1,b2,b3,b4,b5,b6⟩:=hb
     have b1:=dU b1
     have b2:=dU b2
     subst b1 b2
     have e1:=ax b4 hk.sat
     have e2:=ax b5 hk.sat
     rw [LE.aw,LE.bp] at e2
     have e3:=LE.bj b3 ρ
     have hv:ba c.nt T yl (.int .i64 (.ofNat (e.ev ρ).toNat)):=by
      have:(SV.v false [.int .i64 e]).den ρ=.int .i64 (.ofNat (e.ev ρ).toNat):=by show AV.int .i64 (e.ev ρ)=_; congr 1; exact (Int.toNat_of_nonneg e1).symm
      rw [<-this]; exact hv
     have hu:ba c.nt T yc (.int .i64 (.ofNat (e.ev ρ).toNat)):=by
      have:(SV.v false [.int .i64 e']).den ρ=.int .i64 (.ofNat (e.ev ρ).toNat):=by show AV.int .i64 (e'.ev ρ)=_; rw [<-e3]; congr 1; exact (Int.toNat_of_nonneg e1).symm
      rw [<-this]; exact hu
     split at h
     · rename_i z hz
       cases hzz:zeroOf c.P el with
       | none=>rw [hzz] at hz; cases hz
       | some zz =>
         rw [hzz] at hz
         simp only [Option.bind_some] at hz
         cases hv0:vd zz with
         | none=>rw [hv0] at hz; cases hz
         | some w =>
           rw [hv0] at hz
           have hz:dx w=some z:=hz
           have z1:zz.cells=aE ρ z:=by rw [<-mn hv0 ρ]; exact fe hz ρ
           have z1l:zz.cells.length=z.length:=by rw [z1]; simp [aE]
           cases hb7:(Nat.beq z.length (ae c.P el)&&(Nat.ble (ae c.P el) 1000&&(Nat.blt 0 (ae c.P el)&&Nat.ble (c.P.bytesOf el) 1000000))) with
           | false=>rw [hb7] at h; cases h
           | true =>
             rw [hb7] at h
             simp only [cond_true] at h
             have hgz:(Nat.beq zz.cells.length (ae c.P el)&&(Nat.ble (ae c.P el) 1000&&(Nat.blt 0 (ae c.P el)&&Nat.ble (c.P.bytesOf el) 1000000)))=true:=by rw [z1l]; exact hb7
             have hzl:zz.cells.length=ae c.P el:=by rw [z1l]; simp only [Bool.and_eq_true] at hb7; exact ai hb7.1
             have hlim:(e.ev ρ).toNat<=kT:=by unfold kT; omega
             have hrl:(gv (e.ev ρ).toNat zz.cells).length=(e.ev ρ).toNat*ae c.P el:=by rw [gm,hzl]
             split at h
             · rename_i cc g
               cases hb8:(Nat.beq (c.Φ.ty cc) el&&(c.Φ.fy cc&&(ud s g&&(bR s.nx g&&((c.Φ.ks cc).all RN&&!c.Φ.raw cc))))) with
               | false=>rw [hb8] at h; cases h
               | true =>
                 rw [hb8] at h
                 simp only [cond_true] at h
                 simp only [Bool.and_eq_true,Bool.not_eq_true'] at hb8
                 obtain⟨d1,d2,d3,d4,d5,hrw⟩:=hb8
                 have d1:=ai d1
                 subst d1
                 cases hch:qn cf s g (ghost s.gs g) (.k 0) (c.Φ.ks cc) z with
                 | none=>rw [hch] at h; cases h
                 | some os =>
                   rw [hch] at h
                   simp only at h
                   cases hw:bq s ((LE.k WU).sub (iB os)) with
                   | false=>rw [hw] at h; cases h
                   | true =>
                     rw [hw] at h
                     simp only [cond_true] at h
                     obtain⟨fs,w1,w2,w3⟩:=m6 hΦ hk (fun dv h=>cE h hk) (J:=0) (by rw [LE.bp]; exact⟨Int.le_refl _,rfl⟩) hch
                     have hwu:=ax hw hk.sat
                     rw [LE.aw,LE.bp,w2] at hwu
                     rw [<-z1] at w1
                     refine eZ.Iw hg hd hlt ho hun hzz hgz hv hu (by omega) (by rw [z1]; exact fO _ _) fun b hb hb'=>⟨rfl,rfl,?_⟩
                     have hq:=hk.q.OY (cc:=cc) (g:=ig ρ g) (L:=List.replicate (e.ev ρ).toNat WU) (size:=(e.ev ρ).toNat*ae c.P (c.Φ.ty cc)) (C:=gv (e.ev ρ).toNat zz.cells) (tys':=[.sl (.di b 0 (e.ev ρ).toNat (e.ev ρ).toNat) cc (ig ρ g) (List.replicate (e.ev ρ).toNat WU)]) hb hb' (kY d3 hk) hrw (fun _ m hm=>List.eq_of_mem_replicate hm) (by rw [hrl,List.length_replicate]) (fun j m hj=>by
                       have hm:=List.eq_of_mem_replicate (List.mem_of_getElem? hj)
                       have hjl:=(List.getElem?_eq_some_iff.1 hj).1
                       rw [List.length_replicate] at hjl
                       rw [Iz hzl hjl,hm]
                       exact⟨fs,qo d5 w1,by omega,w3⟩) (fun f hf=>by
                       rw [List.mem_singleton.1 hf]
                       exact⟨by rw [List.length_replicate]; exact hlim,.inr (.inr ⟨b,(e.ev ρ).toNat,_,_,_,by rw [List.length_replicate],updΓ_same _ _ _,(List.take_length).symm,ay _ _ _,Nat.le_refl _,by rw [List.length_replicate]; exact Nat.le_refl _⟩)⟩)
                     obtain⟨r1,r2,r3,r4⟩:=az h hk (.v (.di b 0 (e.ev ρ).toNat (e.ev ρ).toNat) (List.replicate (e.ev ρ).toNat WU))
                     generalize hU:U.v (.di b 0 (e.ev ρ).toNat (e.ev ρ).toNat) (List.replicate (e.ev ρ).toNat WU)=uu at r1 r2 r3 r4
                     have hv':(ρ.up s.nx uu s.nx).vv=.di b 0 (e.ev ρ).toNat (e.ev ρ).toNat:=by rw [r4,<-hU]; rfl
                     have hn':(ρ.up s.nx uu s.nx).ns=List.replicate (e.ev ρ).toNat WU:=by rw [r4,<-hU]; exact U.j4 (by rw [List.length_replicate]; exact hlim)
                     have eD:=(SS.bP (dh h) r2).1
                     refine⟨updΓ Γ b (.cells cc (ig ρ g) (List.replicate (e.ev ρ).toNat WU)),ρ.up s.nx uu,_,r1,r2,Nat.le_succ _,?_⟩
                     have ok1:Ok c T (eH G b (.cells .data (c.Φ.ty cc) ((e.ev ρ).toNat*ae c.P (c.Φ.ty cc)) (gv (e.ev ρ).toNat zz.cells))) (updΓ Γ b (.cells cc (ig ρ g) (List.replicate (e.ev ρ).toNat WU))) (ρ.up s.nx uu) (bu (aC s) (.sl s.nx cc g)):=⟨⟨r3.sat.fs,r3.sat.bs,r3.sat.pw,r3.sat.ats,r3.sat.c9,r3.sat.ne,r3.sat.fz,r3.sat.sb⟩,by
                      have:(bu (aC s) (.sl s.nx cc g)).den (ρ.up s.nx uu)=⟨(s.den ρ).L,(s.den ρ).os,.sl (.di b 0 (e.ev ρ).toNat (e.ev ρ).toNat) cc (ig ρ g) (List.replicate (e.ev ρ).toNat WU)::(s.den ρ).dL,(s.den ρ).gs⟩:=by
                       refine St.ext' (by have:=congrArg St.L eD; exact this) (by have:=congrArg St.os eD; exact this) ?_ (by have:=congrArg St.gs eD; exact this)
                       show dw.den _ (.sl s.nx cc g)::s.ty.map (dw.den _)=_
                       rw [show s.ty.map (dw.den (ρ.up s.nx uu))=(s.den ρ).dL from congrArg St.dL eD]
                       simp only [dw.den]; rw [hv',hn',bV r2 d4]
                      rw [this]; exact hq⟩
                     have:=(ok1.m8 (a:=.a (.len s.nx)) (b:=e) (by
                      rw [LE.a9,LE.bP r2 b6]
                      show (((ρ.up s.nx uu s.nx).ns.length:Nat):Int)=_
                      rw [hn',List.length_replicate]; omega)).put (v:=sc (.ref s.nx)) d
                     rw [show (sc (.ref s.nx)).den (ρ.up s.nx uu)=.di b 0 (e.ev ρ).toNat (e.ev ρ).toNat from hv'] at this
                     exact this
             · split at h
               · have z2:zz.cells=[.bool false]:=z1
                 rw [z2] at hzl hrl
                 have hzl:1=ae c.P el:=hzl
                 refine eZ.Iw hg hd hlt ho hun hzz hgz hv hu (by omega) (by rw [z1]; exact fO _ _) fun b hb hb'=>⟨rfl,rfl,?_⟩
                 rw [z2]
                 have hC:gv (e.ev ρ).toNat [AV.bool false]=(List.replicate (e.ev ρ).toNat 1).map (fun m=>AV.bool (Nat.beq m 0)):=by
                  generalize (e.ev ρ).toNat=n
                  induction n with
                  | zero=>rfl
                  | succ n ih=>show AV.bool false::gv n [AV.bool false]=_; rw [ih]; rfl
                 have hq:=hk.q.AX (g:=.cells .data el ((e.ev ρ).toNat*ae c.P el) (gv (e.ev ρ).toNat [AV.bool false])) hb hb' (.bl (.di b 0 (e.ev ρ).toNat (e.ev ρ).toNat) el (List.replicate (e.ev ρ).toNat 1)) rfl ⟨by rw [List.length_replicate]; exact hlim,fun m hm=>by rw [List.eq_of_mem_replicate hm]; exact Nat.le_refl _,b,(e.ev ρ).toNat*ae c.P el,by rw [List.length_replicate],hk.q.ht.none hb',by rw [ay,hC]⟩
                 obtain⟨r1,r2,r3,r4⟩:=az h hk (.v (.di b 0 (e.ev ρ).toNat (e.ev ρ).toNat) (List.replicate (e.ev ρ).toNat 1))
                 generalize hU:U.v (.di b 0 (e.ev ρ).toNat (e.ev ρ).toNat) (List.replicate (e.ev ρ).toNat 1)=uu at r1 r2 r3 r4
                 have hv':(ρ.up s.nx uu s.nx).vv=.di b 0 (e.ev ρ).toNat (e.ev ρ).toNat:=by rw [r4,<-hU]; rfl
                 have hn':(ρ.up s.nx uu s.nx).ns=List.replicate (e.ev ρ).toNat 1:=by rw [r4,<-hU]; exact U.j4 (by rw [List.length_replicate]; exact hlim)
                 have eD:=(SS.bP (dh h) r2).1
                 refine⟨Γ,ρ.up s.nx uu,_,r1,r2,Nat.le_succ _,?_⟩
                 have ok1:Ok c T (eH G b (.cells .data el ((e.ev ρ).toNat*ae c.P el) (gv (e.ev ρ).toNat [AV.bool false]))) Γ (ρ.up s.nx uu) (dV (aC s) (.bl s.nx s.nx el::s.os)):=⟨⟨r3.sat.fs,r3.sat.bs,r3.sat.pw,r3.sat.ats,r3.sat.c9,r3.sat.ne,r3.sat.fz,r3.sat.sb⟩,by
                  have:(dV (aC s) (.bl s.nx s.nx el::s.os)).den (ρ.up s.nx uu)=⟨(s.den ρ).L,.bl (.di b 0 (e.ev ρ).toNat (e.ev ρ).toNat) el (List.replicate (e.ev ρ).toNat 1)::(s.den ρ).os,(s.den ρ).dL,(s.den ρ).gs⟩:=by
                   refine St.ext' (by have:=congrArg St.L eD; exact this) ?_ (by have:=congrArg St.dL eD; exact this) (by have:=congrArg St.gs eD; exact this)
                   show SO.den _ (.bl s.nx s.nx el)::s.os.map (SO.den _)=_
                   rw [show s.os.map (SO.den (ρ.up s.nx uu))=(s.den ρ).os from congrArg St.os eD]
                   simp only [SO.den]; rw [hv',hn']
                  rw [this]; exact hq⟩
                 have:=((ok1.m8 (a:=.a (.len s.nx)) (b:=e) (by
                  rw [LE.a9,LE.bP r2 b6]
                  show (((ρ.up s.nx uu s.nx).ns.length:Nat):Int)=_
                  rw [hn',List.length_replicate]; omega)).m8 (a:=.a (.wt s.nx)) (b:=e.ji 2) (by
                  rw [LE.a9,LE.e9,LE.bP r2 b6]
                  show (((ρ.up s.nx uu s.nx).ns.sum+(ρ.up s.nx uu s.nx).ns.length:Nat):Int)=_
                  rw [hn',List.length_replicate,List.sum_replicate_nat]; omega)).put (v:=sc (.ref s.nx)) d
                 rw [show (sc (.ref s.nx)).den (ρ.up s.nx uu)=.di b 0 (e.ev ρ).toNat (e.ev ρ).toNat from hv'] at this
                 exact this
               · cases h
             · cases h
     · cases h
 · cases h
end
end Go.Rd
namespace Go.Rd
open Go.aQ Go.RowKit Go.Rt
def XJ (cf:Cf) (t:TypeId) (cc g:Nat) (e:LE) (o:Nat) (v:SV) (s:SS) (K:SS->R):R:=match dx v with
 | some l=>bif cf.Φ.fy cc&&((cf.P.info? t).isSome&&(Nat.beq (ae cf.P t) l.length&&Nat.ble (o+l.length) (cf.Φ.ks cc).length)) then
   (match qn cf s g (ghost s.gs g) e (((cf.Φ.ks cc).drop o).take l.length) l with
    | some os=>bif Ea s os o l.length (cf.Φ.ks cc).length then K s else .bad 200 s
    | none=>.bad 201 s)
   else .bad 202 s
 | none=>.bad 203 s
def Vx (s:SS) (m:Nat) (e:LE):Nat:=match y6 s.pw m e,y6 s.pw m (e.aW 1) with
 | some p,some q=>bif q.same (p.aW 2) then 1 else 0
 | _,_=>0
def XK (cf:Cf) (t:TypeId) (y m:Nat) (el:TypeId) (osA:List SO) (e:LE) (v:SV) (s:SS) (K:SS->R):R:=match v with
 | .v false [.bool (.k true)]=>bif (cf.P.info? t).isSome&&(Nat.beq (ae cf.P t) 1&&(osA.all (SO.lt s.nx)&&(Nat.blt y s.nx&&Nat.blt m s.nx))) then
   fresh s fun x s'=>K (aP (m8 (dV s' (osA++[.bl y x el])) (.a (.len x)) (.a (.len m))) (((LE.a (.wt m)).sub (.a (.wt x))).aW (-(Vx s m e:Nat))))
   else .bad 204 s
 | _=>.bad 205 s
def Pq (cf:Cf) (t:TypeId) (x v:SV) (s:SS) (K:SS->R):R:=match x with
 | .v false [.og y e sz o]=>(match pD (fun w=>Eg y w||Pn y w) s.os with
   | some (.ul _ cc g,osA)=>bif xt s (.ul cc g) y e&&Nat.beq sz (ae cf.P (cf.Φ.ty cc)) then XJ cf t cc g e o v s K else .bad 206 s
   | some (.bl _ m el,osA)=>bif xt s (.bl m el) y e&&(Nat.beq sz 1&&Nat.beq o 0) then XK cf t y m el osA e v s K else .bad 207 s
   | _=>Uz cf t x v s K)
 | _=>Uz cf t x v s K
section
variable {c:Cx} {T:Tm} {G:GH} {Γ:c8} {ρ ρ':bc} {s s':SS} {cf:Cf} {ops:Array Oper} {i d:Nat}
theorem Ck {w:Iu} {y:Nat} {e:LE} (hw:w.so y∈s.os) (h:xt s w y e=true) (hk:Ok c T G Γ ρ s):0<=e.ev ρ/\(e.ev ρ).toNat<(ρ (w.ln y)).ns.length:=by
 unfold xt at h
 rw [Bool.and_eq_true] at h
 have e1:=ax h.1 hk.sat
 have e2:=ax h.2 hk.sat
 rw [LE.aJ,LE.aw,LE.a9] at e2
 have e2:0<=((ρ (w.ln y)).ns.length:Int)-e.ev ρ+-1:=e2
 exact⟨e1,by omega⟩
theorem Cl:∀{l:List Nat} {k:Nat} (h:k<l.length),(l.set k 0).sum+l[k]=l.sum
 | a::l,0,_=>by simp; omega
 | a::l,k+1,h=>by
   have:=Cl (l:=l) (k:=k) (by simpa using h)
   simp only [List.set_cons_succ,List.sum_cons,List.getElem_cons_succ]
   omega
theorem Pr {m:Nat} {e:LE} (hs:Sat ρ s) (he:0<=e.ev ρ) (hlt:(e.ev ρ).toNat<(ρ m).ns.length):Vx s m e<=(ρ m).ns[(e.ev ρ).toNat]:=by
 unfold Vx
 split
 · rename_i p q h1 h2
   cases hb:q.same (p.aW 2) with
   | false=>exact Nat.zero_le _
   | true =>
     show 1<=_
     obtain⟨e1,m1,m2⟩:=rr h1
     obtain⟨e2,m3,m4⟩:=rr h2
     have a1:=(hs.pw _ m1).2
     have a2:=(hs.pw _ m3).2
     have a1:((((ρ m).ns.take (e1.ev ρ).toNat).sum:Nat):Int)+e1.ev ρ=p.ev ρ:=a1
     have a2:((((ρ m).ns.take (e2.ev ρ).toNat).sum:Nat):Int)+e2.ev ρ=q.ev ρ:=a2
     rw [m2 ρ] at a1
     rw [m4 ρ,LE.aJ,LE.bj hb ρ,LE.aJ,show (e.ev ρ+1).toNat=(e.ev ρ).toNat+1 by omega] at a2
     have hsum:((ρ m).ns.take ((e.ev ρ).toNat+1)).sum=((ρ m).ns.take (e.ev ρ).toNat).sum+(ρ m).ns[(e.ev ρ).toNat]:=by
      rw [List.take_add_one,List.getElem?_eq_getElem hlt,List.sum_append]; simp
     omega
 · exact Nat.zero_le _
theorem K1 {t:TypeId} {x:Nat} {y:Operand} {u v:SV} {K:SS->R} (ho:(ab ops i).op=.store t (.tmp x) y) (hg:(ab ops i).guard=none) (hd:(ab ops i).dst=none) (hP:cf.P=c.P) (hΦ:cf.Φ=c.Φ) (h:(Pq cf t u v s K).Ok) (hk:Ok c T G Γ ρ s) (hx:T.at x=u.den ρ) (hy:ba c.nt T y (v.den ρ)):Hv c T G Γ ops i s ρ K:=by
 unfold Pq at h
 split at h
 · rename_i q e sz o
   split at h
   · rename_i q' cc g osA hr
     obtain⟨r1,r2⟩:=fQ hr
     have hq':q'=q:=by
      have r1:(Eg q (.ul q' cc g)||false)=true:=r1
      rw [Bool.or_false] at r1
      exact ai r1
     subst hq'
     rw [hP,hΦ] at h
     cases hb:(xt s (.ul cc g) q' e&&Nat.beq sz (ae c.P (c.Φ.ty cc))) with
     | false=>rw [hb] at h; cases h
     | true =>
       rw [hb] at h
       simp only [cond_true] at h
       rw [Bool.and_eq_true] at hb
       have hmem:SO.ul q' cc g∈s.os:=r2.mem_iff.2 (by simp)
       obtain⟨a1,a2⟩:=Ck (w:=.ul cc g) hmem hb.1 hk
       have a2:(e.ev ρ).toNat<(ρ q').ns.length:=a2
       have hsz:=ai hb.2
       subst hsz
       unfold XJ at h
       rw [hP,hΦ] at h
       cases hc:dx v with
       | none=>rw [hc] at h; cases h
       | some l =>
         rw [hc] at h
         simp only at h
         cases hb1:(c.Φ.fy cc&&((c.P.info? t).isSome&&(Nat.beq (ae c.P t) l.length&&Nat.ble (o+l.length) (c.Φ.ks cc).length))) with
         | false=>rw [hb1] at h; cases h
         | true =>
           rw [hb1] at h
           simp only [cond_true] at h
           simp only [Bool.and_eq_true] at hb1
           obtain⟨b1,b2,b3,b4⟩:=hb1
           have b3:=ai b3
           have b4:=aL b4
           cases kX:qn cf s g (ghost s.gs g) e (((c.Φ.ks cc).drop o).take l.length) l with
           | none=>rw [kX] at h; cases h
           | some os =>
             rw [kX] at h
             simp only at h
             cases hos:Ea s os o l.length (c.Φ.ks cc).length with
             | false=>rw [hos] at h; cases h
             | true =>
               rw [hos] at h
               have h:(K s).Ok:=h
               have hos:=Ca hos hk.sat
               have hown:=hk.own hmem
               obtain⟨o1,o2,o3⟩:_/\_/\_:=hown
               rcases o3 with ⟨_,h0⟩ | ⟨b,cap,size,C,k1,k2,k3,k4,k5,k6,k7⟩
               · have h0:(ρ q').ns.length=0:=h0
                 omega
               · have k4:C.length=(ρ q').ns.length*ae c.P (c.Φ.ty cc):=k4
                 have k7:∀j,j<(ρ q').ns.length->eI c.P c.Φ G Γ WU cc (ig ρ g) j ((C.drop (j*ae c.P (c.Φ.ty cc))).take (ae c.P (c.Φ.ty cc))):=k7
                 have e2:=fe hc ρ
                 have hll:(aE ρ l).length=l.length:=by simp [aE]
                 obtain⟨fl,c1,c2,c3⟩:=m6 hΦ hk (fun dv h=>cE h hk) ⟨a1,rfl⟩ kX
                 have h1:((e.ev ρ).toNat+1)*ae c.P (c.Φ.ty cc)<=(ρ q').ns.length*ae c.P (c.Φ.ty cc):=Nat.mul_le_mul_right _ a2
                 rw [Nat.succ_mul] at h1
                 obtain⟨fs0,w1,w2,w3⟩:=k7 _ a2
                 have hks:(c.Φ.ks cc).length=ae c.P (c.Φ.ty cc):=by
                  rw [<-w1.len,List.length_take,List.length_drop]; omega
                 have hx':T.at x=.bW b ((e.ev ρ).toNat*ae c.P (c.Φ.ty cc)+o):=hx.trans (jA k1)
                 have hfit:(e.ev ρ).toNat*ae c.P (c.Φ.ty cc)+o+l.length<=C.length:=by omega
                 refine eZ.wE (fun e=>by cases e) hg hd ho hx' hy b2 rfl (by rw [e2,hll,b3]) (by rw [e2]; exact qk _ _) (by rw [e2]; exact fO _ _) k3 (by rw [b3]; exact hfit) ⟨rfl,rfl,Γ,ρ,s,h,de.refl _ _,Nat.le_refl _,hk.sat,?_⟩
                 rw [e2,zc]
                 have hpd:=dW r2 ρ
                 rw [List.map_append,List.map_singleton] at hpd
                 have hQ:=hk.q.wY (b:=b) (G':=eH G b (.cells .data (c.Φ.ty cc) size (qe ((e.ev ρ).toNat*ae c.P (c.Φ.ty cc)+o) (aE ρ l) C))) (Γ':=Γ) (osA:=osA.map (SO.den ρ)) (o:=SO.den ρ (.ul q' cc g)) (o':=SO.den ρ (.ul q' cc g)) (tys':=[]) hpd (dC (.inl (by rw [k3]; rfl))) (fun _ _=>rfl) (fun k h=>db h) (by rw [ay]; rfl)
                  (fun _ _ _ h=>by rw [k3] at h; cases h) (fun _ _ _ h=>by rw [k3] at h; cases h; exact⟨_,ay _ _ _⟩) (fun x h=>by rw [k2] at h; cases h) rfl rfl (.inl (by show qR (ρ q').vv=_; rw [k1]; rfl)) (by show qR (ρ q').vv=_; rw [k1]; rfl) (fun x _ _ h=>by rw [k2] at h; cases h)
                  (fun hr' hl'=>⟨o1,o2,.inr ⟨b,cap,size,_,k1,k2,ay _ _ _,by rw [rn (by rw [hll]; exact hfit)]; exact k4,k5,k6,fun j hj=>by
                   rw [Ip k4 a2 (by rw [hll]; omega)]
                   by_cases ek:j=(e.ev ρ).toNat
                   · subst ek
                     rw [if_pos rfl]
                     obtain⟨fs',p1,p2,p3,p4⟩:=B9 (o:=o) w1 (l:=aE ρ l) (by rw [hll]; exact c1) (by rw [hll]; exact b4)
                     refine eI.le ⟨fs',p1,?_,fun f hf=>(p3 f hf).elim (w3 f) (c3 f)⟩ hr' hl' o1
                     rcases hos with rfl | ⟨ho0,hlk,hW⟩
                     · rw [iB,LE.bp] at c2
                       have:iH c.Φ fl=0:=by omega
                       omega
                     · have:=p4 ⟨ho0,by rw [hll]; exact hlk⟩
                       rw [this]
                       omega
                   · rw [if_neg ek]
                     exact (k7 j hj).le hr' hl' o1⟩⟩) (fun f h=>by cases h)
                 exact hQ.iq (fun _ _ h=>h) ⟨[],by rw [List.append_nil]; exact hpd.symm⟩ (fun f h=>h) (fun p h=>h)
   · rename_i q' m el osA hr
     obtain⟨r1,r2⟩:=fQ hr
     have hq':q'=q:=by
      have r1:(false||Pn q (.bl q' m el))=true:=r1
      rw [Bool.false_or] at r1
      exact ai r1
     subst hq'
     cases hb:(xt s (.bl m el) q' e&&(Nat.beq sz 1&&Nat.beq o 0)) with
     | false=>rw [hb] at h; cases h
     | true =>
       rw [hb] at h
       simp only [cond_true] at h
       simp only [Bool.and_eq_true] at hb
       have hmem:SO.bl q' m el∈s.os:=r2.mem_iff.2 (by simp)
       obtain⟨a1,a2⟩:=Ck (w:=.bl m el) hmem hb.1 hk
       have a2:(e.ev ρ).toNat<(ρ m).ns.length:=a2
       have h1:=ai hb.2.1
       have h2:=ai hb.2.2
       subst h1 h2
       unfold XK at h
       rw [hP] at h
       split at h
       · cases hb1:((c.P.info? t).isSome&&(Nat.beq (ae c.P t) 1&&(osA.all (SO.lt s.nx)&&(Nat.blt q' s.nx&&Nat.blt m s.nx)))) with
         | false=>rw [hb1] at h; cases h
         | true =>
           rw [hb1] at h
           simp only [cond_true] at h
           simp only [Bool.and_eq_true] at hb1
           obtain⟨b1,b2,b3,b4,b5⟩:=hb1
           have b2:=ai b2
           have hown:=hk.own hmem
           obtain⟨o1,o2,b,size,k1,k2,k3⟩:=hown
           have hx':T.at x=.bW b (e.ev ρ).toNat:=(hx.trans (jA k1)).trans (by rw [Nat.mul_one,Nat.add_zero])
           have hone:((SV.v false [SC.bool (.k true)]).den ρ).cells=[.bool true]:=rfl
           refine eZ.wE (fun e=>by cases e) hg hd ho hx' hy b1 rfl (by rw [hone,b2]; rfl) rfl (by rw [hone]; exact dS (iL _) hY) k3 (by rw [b2,List.length_map]; omega) ⟨rfl,rfl,Γ,?_⟩
           rw [hone]
           have hput:ub ((ρ m).ns.map (fun m=>AV.bool (Nat.beq m 0))) (e.ev ρ).toNat [.bool true]=((ρ m).ns.set (e.ev ρ).toNat 0).map (fun m=>AV.bool (Nat.beq m 0)):=by
            rw [List.map_set]
            have hl:(e.ev ρ).toNat<((ρ m).ns.map (fun m=>AV.bool (Nat.beq m 0))).length:=by rw [List.length_map]; exact a2
            rw [List.set_eq_take_append_cons_drop,if_pos hl]
            show _++[_]++_=_
            rw [List.append_assoc]; rfl
           rw [hput]
           have hlim:((ρ m).ns.set (e.ev ρ).toNat 0).length<=kT:=by rw [List.length_set]; exact o1
           obtain⟨p1,p2,p3,p4⟩:=az h hk (.v .aB ((ρ m).ns.set (e.ev ρ).toNat 0))
           generalize hU:U.v .aB ((ρ m).ns.set (e.ev ρ).toNat 0)=uu at p1 p2 p3 p4
           have hn':(ρ.up s.nx uu s.nx).ns=(ρ m).ns.set (e.ev ρ).toNat 0:=by rw [p4,<-hU]; exact U.j4 hlim
           have eD:=(SS.bP (dh h) p2).1
           have hpd:=dW r2 ρ
           rw [List.map_append,List.map_singleton] at hpd
           have hQ:=hk.q.wY (b:=b) (G':=eH G b (.cells .data el size (((ρ m).ns.set (e.ev ρ).toNat 0).map (fun m=>AV.bool (Nat.beq m 0))))) (Γ':=Γ) (osA:=osA.map (SO.den ρ)) (o:=SO.den ρ (.bl q' m el)) (o':=.bl (ρ q').vv el ((ρ m).ns.set (e.ev ρ).toNat 0)) (tys':=[]) hpd (dC (.inl (by rw [k3]; rfl))) (fun _ _=>rfl) (fun k h=>db h) (by rw [ay]; rfl)
            (fun _ _ _ h=>by rw [k3] at h; cases h) (fun _ _ _ h=>by rw [k3] at h; cases h; exact⟨_,ay _ _ _⟩) (fun x h=>by rw [k2] at h; cases h) rfl rfl (.inl (by show qR (ρ q').vv=_; rw [k1]; rfl)) (by show qR (ρ q').vv=_; rw [k1]; rfl) (fun x _ _ h=>by rw [k2] at h; cases h)
            (fun hr' hl'=>⟨hlim,fun z hz=>by
             rcases List.mem_or_eq_of_mem_set hz with hz | rfl
             · exact o2 z hz
             · exact Nat.zero_le _,b,size,by rw [List.length_set]; exact k1,k2,ay _ _ _⟩) (fun f h=>by cases h)
           refine⟨ρ.up s.nx uu,_,p1,p2,Nat.le_succ _,?_⟩
           have eO:osA.map (SO.den (ρ.up s.nx uu))=osA.map (SO.den ρ):=List.map_congr_left fun o ho=>SO.bP p2 (List.all_eq_true.1 b3 o ho)
           have hbase:Ok c T (eH G b (.cells .data el size (((ρ m).ns.set (e.ev ρ).toNat 0).map (fun m=>AV.bool (Nat.beq m 0))))) Γ (ρ.up s.nx uu) (dV (aC s) (osA++[.bl q' s.nx el])):=by
            refine⟨⟨p3.sat.fs,p3.sat.bs,p3.sat.pw,p3.sat.ats,p3.sat.c9,p3.sat.ne,p3.sat.fz,p3.sat.sb⟩,?_⟩
            have:(dV (aC s) (osA++[.bl q' s.nx el])).den (ρ.up s.nx uu)=⟨(s.den ρ).L,osA.map (SO.den ρ)++[.bl (ρ q').vv el ((ρ m).ns.set (e.ev ρ).toNat 0)],(s.den ρ).dL,(s.den ρ).gs⟩:=by
             refine St.ext' (by have:=congrArg St.L eD; exact this) ?_ (by have:=congrArg St.dL eD; exact this) (by have:=congrArg St.gs eD; exact this)
             show (osA++[SO.bl q' s.nx el]).map (SO.den _)=_
             rw [List.map_append,eO,List.map_singleton]
             simp only [SO.den]; rw [hn',p2 q' (au b4)]
            rw [this]
            exact hQ.iq (fun _ _ h=>h) ⟨[],by rw [List.append_nil]⟩ (fun f h=>h) (fun p h=>h)
           have hm2:=p2 m (au b5)
           refine (hbase.m8 ?_).aP ?_
           · rw [LE.a9,LE.a9]
             show (((ρ.up s.nx uu s.nx).ns.length:Nat):Int)=(((ρ.up s.nx uu m).ns.length:Nat):Int)
             rw [hn',hm2,List.length_set]
           · rw [LE.aJ,LE.aw,LE.a9,LE.a9]
             show 0<=(((ρ.up s.nx uu m).ns.sum+(ρ.up s.nx uu m).ns.length:Nat):Int)-(((ρ.up s.nx uu s.nx).ns.sum+(ρ.up s.nx uu s.nx).ns.length:Nat):Int)+_
             rw [hn',hm2,List.length_set]
             have h5:=Cl a2
             have h6:=Pr (s:=s) (m:=m) (e:=e) hk.sat a1 a2
             omega
       · cases h
   · exact Ir ho hg hd hP hΦ h hk hx hy
 · exact Ir ho hg hd hP hΦ h hk hx hy
end
end Go.Rd
namespace Go.Rd
open Go.aQ Go.RowKit Go.Rt
theorem vt {k v:AV}:∀{es:List (AV × AV)} {p:AV × AV},p∈c7 k v es->p∈es∨(p.2=v/\(p.1=k∨aY k p.1=true))
 | [],p,h=>by rw [List.mem_singleton.1 h]; exact .inr ⟨rfl,.inl rfl⟩
 | q::es,p,h=>by
   have h:p∈(bif aY k q.1 then (q.1,v)::es else q::c7 k v es):=h
   cases hb:aY k q.1 with
   | true =>
     rw [hb] at h
     rcases List.mem_cons.1 h with rfl | h
     · exact .inr ⟨rfl,.inr hb⟩
     · exact .inl (List.mem_cons_of_mem _ h)
   | false =>
     rw [hb] at h
     rcases List.mem_cons.1 h with rfl | h
     · exact .inl (List.mem_cons_self ..)
     · exact (vt h).imp_left (List.mem_cons_of_mem _)
theorem tq {pk:KK} {x k:AV} (hx:dK pk x) (hk:dK pk k) (h:aY x k=true):∀{es:List (AV × AV)},(∀p∈es,dK pk p.1)->cq x es=cq k es
 | [],_=>rfl
 | p::es,h0=>by
   show (bif aY x p.1 then some p.2 else cq x es)=(bif aY k p.1 then some p.2 else cq k es)
   rw [jx hx hk (h0 p (List.mem_cons_self ..)) h,tq hx hk h fun q hq=>h0 q (List.mem_cons_of_mem _ hq)]
def Vy (b:Nat):SO->Bool | .im y _=>Nat.beq y b | .am y _ _=>Nat.beq y b | _=>false
def K3:SO->Bool | .am _ _ _=>false | _=>true
def kZ:List (Nat × Nat × Bool)->Nat->Option Nat
 | [],_=>none
 | p::l,g=>bif Nat.beq p.1 g&&p.2.2 then some p.2.1 else kZ l g
theorem fX:∀{l:List (Nat × Nat × Bool)} {g d:Nat},kZ l g=some d->(g,d,true)∈l
 | [],g,d,h=>by cases h
 | p::l,g,d,h=>by
   have h:(bif Nat.beq p.1 g&&p.2.2 then some p.2.1 else kZ l g)=some d:=h
   cases hb:(Nat.beq p.1 g&&p.2.2) with
   | true =>
     rw [hb] at h; cases h
     rw [Bool.and_eq_true] at hb
     have:=ai hb.1
     subst this
     have e:p=(p.1,p.2.1,true):=by rw [<-hb.2]
     rw [<-e]; exact List.mem_cons_self ..
   | false=>rw [hb] at h; exact List.mem_cons_of_mem _ (fX h)
def la (s:SS):List (Nat × Nat × Bool):=s.gs.filter fun p=>s.fz.contains p.2.1
def Eh (s:SS) (d d':Nat):List Nat->SS
 | []=>s
 | k::ks=>m8 (Eh s d d' ks) (.a (.gn d' k)) (.a (.gn d k))
def np:List (Nat × Nat)->Nat->Nat->List (Nat × Nat)
 | [],_,_=>[]
 | p::l,d,d'=>bif Nat.beq p.1 d then (d',p.2)::np l d d' else np l d d'
def tr (s:SS) (g d':Nat) (w:Bool) (os:List SO) (ats:List (Nat × SC × LE)) (c9:List (Nat × LE × LE)) (fz:List Nat) (sb:List (Nat × Nat)):SS:=⟨s.nx,s.L,os,s.ty,(g,d',w)::la s,s.fs,s.bs,s.pw,ats++s.ats,c9++s.c9,s.ne,fz++s.fz,sb++s.sb⟩
def MF (s:SS) (d d':Nat):List (Nat × SC × LE):=(s.ats.filter fun p=>Nat.beq p.1 d&&bq s p.2.2).map fun p=>(d',p.2.1,p.2.2)
def XL (cf:Cf) (b g q:Nat) (osA:List SO) (k v:SV) (s:SS) (K:SS->R):R:=match kZ s.gs g,k,v with
 | some d,.v false [x],.v false [.int kd e]=>(match wW s.ats d x with
   | some ea=>bif bq s ((LE.k (-1)).sub ea)&&(eW kd&&(bq s e&&(bq s (((LE.a (.gn d q)).sub e).aW (-1))&&(x.lt s.nx&&(e.lt s.nx&&(Nat.blt d s.nx&&(bR s.nx g&&(Nat.blt b s.nx&&(osA.all K3&&osA.all (SO.lt s.nx)))))))))) then
     fresh s fun d' s'=>K (Eh (tr s' g d' true (osA++[.am b g q]) ((d',x,e)::MF s d d') [] [] (np s.sb d d')) d d' [0,1,2,3,4,5])
     else .bad 210 s
   | none=>.bad 211 s)
 | _,_,_=>.bad 212 s
def UB (cf:Cf) (t:TypeId) (m k v:SV) (s:SS) (K:SS->R):R:=match cf.P.underlying t with
 | some (.map kt et)=>(match m with
   | .v false [.ref y]=>(match wP s.ty y with
     | some (cc,g)=>bif s.os.all SO.QW&&(gK cf kt (cf.Φ.pk cc)&&fq (cf.Φ.pk cc) k) then
       (match cf.Φ.mv cc,v,k with
        | .kd kd,.v false [x],_=>(match pC cf s g (ghost s.gs g) (.k 0) kd x with | some _=>K s | none=>.bad 213 s)
        | .unit,.v true [],_=>K s
        | .HK,.v false [.int kd e],.v true [x,_]=>(match ghost s.gs g with
          | some d=>(match wW s.ats d x with
            | some j=>(match wN s.c9 d j with
              | some f=>bif eW kd&&(bq s j&&(bq s e&&(bq s ((f.sub e).aW (-1))&&s.fz.contains d))) then K s else .bad 214 s
              | none=>.bad 215 s)
            | none=>.bad 216 s)
          | none=>.bad 217 s)
        | _,_,_=>.bad 218 s)
       else .bad 219 s
     | none=>.bad 220 s)
   | .v false [.dG b]=>bif gK cf kt .str&&fq .str k then (match pD (Vy b) s.os with
     | some (.im _ e0,osA)=>(match v with
       | .v false [.int kd e]=>bif eW kd&&bq s e then
         (bif bq s ((e0.sub e).aW (-1)) then K (dV s (osA++[.im b e0])) else bif bq s ((e.aW 1).sub e0) then K (dV s (osA++[.im b (e.aW 1)])) else .bad 221 s)
         else .bad 222 s
       | _=>.bad 223 s)
     | some (.am _ g q,osA)=>XL cf b g q osA k v s K
     | _=>.bad 224 s) else .bad 225 s
   | _=>.bad 226 s)
 | _=>.bad 227 s
section
variable {c:Cx} {T:Tm} {G:GH} {Γ:c8} {ρ ρ':bc} {s s':SS} {cf:Cf} {ops:Array Oper} {i d:Nat}
theorem xc {dd dn:Nat}:∀{ks:List Nat},Ok c T G Γ ρ s->(∀k,(ρ dn).gg.n k=(ρ dd).gg.n k)->Ok c T G Γ ρ (Eh s dd dn ks)
 | [],h,_=>h
 | k::ks,h,hn=>(xc (ks:=ks) h hn).m8 (by rw [LE.a9,LE.a9]; show (((ρ dn).gg.n k:Nat):Int)=(((ρ dd).gg.n k:Nat):Int); rw [hn])
theorem rv {dd dn:Nat} (hs:(ρ dn).gg.sub=(ρ dd).gg.sub):∀{l:List (Nat × Nat)},(∀p∈l,(ρ p.1).gg.sub=ig ρ p.2)->∀p∈np l dd dn,(ρ p.1).gg.sub=ig ρ p.2
 | [],_,_,h=>by cases h
 | q::l,h0,p,h=>by
   have h:p∈(bif Nat.beq q.1 dd then (dn,q.2)::np l dd dn else np l dd dn):=h
   cases hb:Nat.beq q.1 dd with
   | true =>
     rw [hb] at h
     have e:=ai hb
     rcases List.mem_cons.1 h with rfl | h
     · have:=h0 q (List.mem_cons_self ..)
       rw [e] at this
       show (ρ dn).gg.sub=_
       rw [hs]; exact this
     · exact rv hs (fun p hp=>h0 p (List.mem_cons_of_mem _ hp)) p h
   | false=>rw [hb] at h; exact rv hs (fun p hp=>h0 p (List.mem_cons_of_mem _ hp)) p h
theorem qp {g:Nat} (hk:Ok c T G Γ ρ s) {p:Nat × Nat × Bool} (hp:p∈la s) (hg:(Γ.gd g).fz=false):p∈s.gs/\ig ρ p.1≠g:=by
 obtain⟨h1,h2⟩:=List.mem_filter.1 hp
 refine⟨h1,fun e=>?_⟩
 have h3:=hk.sat.fz p.2.1 (List.contains_iff_mem.1 h2)
 have:=(hk.q.gs (ig ρ p.1,(ρ p.2.1).gg,p.2.2) (List.mem_map.2 ⟨p,h1,rfl⟩)).2.1
 have this:Γ.gd (ig ρ p.1)=(ρ p.2.1).gg:=this
 rw [e] at this
 rw [<-this,hg] at h3
 cases h3
theorem xd {t kt et:TypeId} {ym yk yv:Operand} {y cc g:Nat} {k v:SV} {pk:KK} {K:SS->R} (ho:(ab ops i).op=.mapUpdate t ym yk yv) (hg:(ab ops i).guard=none) (hd:(ab ops i).dst=none) (hu:c.P.underlying t=some (.map kt et)) (hM:lC c.P kt (c.Φ.pk cc)) (hk:Ok c T G Γ ρ s) (hm:ba c.nt T ym (ρ y).vv) (hkk:ba c.nt T yk (k.den ρ)) (hv:ba c.nt T yv (v.den ρ)) (hf:wP s.ty y=some (cc,g)) (hks:dK (c.Φ.pk cc) (k.den ρ)) (hz:s.os.all SO.QW=true) (hK:(K s).Ok)
  (hok:∀es,eE c.P c.Φ G Γ cc (ig ρ g) es->eE c.P c.Φ G Γ cc (ig ρ g) (c7 (k.den ρ) (v.den ρ) es)):Hv c T G Γ ops i s ρ K:=by
 obtain⟨b,q1,q2⟩:=hk.ty (iN hf)
 obtain⟨g0,es,r1,r2,r3⟩:=hk.q.ht.b _ _ q2
 have q1:(ρ y).vv=.dG b:=q1
 rw [q1] at hm
 have hnf:nf (v.den ρ):=y8 v ρ
 refine eZ.wD hg hd ho hu hM hm hkk hv hks hnf r1 r3.1 ⟨rfl,rfl,updΓ Γ b (.map cc (ig ρ g)),ρ,s,hK,de.refl _ _,Nat.le_refl _,hk.sat,?_⟩
 have hQ:=hk.q.OZ (x:=.map cc (ig ρ g)) (y:=.map cc (ig ρ g)) (tys':=[]) (g':=.map (c7 (k.den ρ) (v.den ρ) es)) q2 rfl (nj.refl _) (fun el size C h=>by rw [r1] at h; cases h)
  (fun hr hl=>⟨g0,_,ay _ _ _,fun p hp=>by
   rcases fH hp with h | h
   · rw [h]; exact hnf
   · exact r2 p h,(hok es r3).le hr hl rfl⟩) (fun f h=>by cases h) (fun _ _ _ o ho2=>by obtain⟨o1,h1,rfl⟩:=List.mem_map.1 ho2; exact SO.HQ (List.all_eq_true.1 hz o1 h1) ρ)
 exact hQ.iq (fun _ _ h=>h) ⟨[],by simp⟩ (fun f h=>h) (fun p h=>h)
theorem IA {t:TypeId} {ym yk yv:Operand} {m k v:SV} {K:SS->R} (ho:(ab ops i).op=.mapUpdate t ym yk yv) (hg:(ab ops i).guard=none) (hd:(ab ops i).dst=none) (hP:cf.P=c.P) (hΦ:cf.Φ=c.Φ) (hK:eo cf) (h:(UB cf t m k v s K).Ok) (hk:Ok c T G Γ ρ s) (hm:ba c.nt T ym (m.den ρ)) (hkk:ba c.nt T yk (k.den ρ)) (hv:ba c.nt T yv (v.den ρ)):Hv c T G Γ ops i s ρ K:=by
 unfold UB at h
 split at h
 · rename_i kt et hu
   rw [hP] at hu
   split at h
   · rename_i y
     split at h
     · rename_i cc g hf
       rw [hΦ] at h
       cases hb:(s.os.all SO.QW&&(gK cf kt (c.Φ.pk cc)&&fq (c.Φ.pk cc) k)) with
       | false=>rw [hb] at h; cases h
       | true =>
         rw [hb] at h
         simp only [cond_true] at h
         rw [Bool.and_eq_true,Bool.and_eq_true] at hb
         obtain⟨hz,hb⟩:=hb
         have hMt:=ib hb.1 hK
         rw [hP] at hMt
         have hkf:=fg hb.2 ρ
         split at h
         · rename_i kd x _ hmv
           split at h
           · rename_i o hc
             obtain⟨fs,c1,c2,c3⟩:=w5 hc hΦ hk (fun dv h=>cE h hk) (J:=0) (by rw [LE.bp]; exact⟨Int.le_refl _,rfl⟩)
             refine xd (pk:=c.Φ.pk cc) ho hg hd hu hMt hk hm hkk hv hf hkf hz h fun es hes=>?_
             obtain⟨h1,h2⟩:=hes
             refine⟨eV hkf h1,?_⟩
             rw [hmv] at h2 ⊢
             intro p hp
             rcases fH hp with h | h
             · rw [h]; exact⟨fs,c1,c3⟩
             · exact h2 p h
           · cases h
         · rename_i _ hmv
           refine xd (pk:=c.Φ.pk cc) ho hg hd hu hMt hk hm hkk hv hf hkf hz h fun es hes=>?_
           obtain⟨h1,h2⟩:=hes
           refine⟨eV hkf h1,?_⟩
           rw [hmv] at h2 ⊢
           intro p hp
           rcases fH hp with h | h
           · rw [h]; rfl
           · exact h2 p h
         · rename_i kd e x z hmv
           split at h
           · rename_i dd hgd
             split at h
             · rename_i j hj
               split at h
               · rename_i f hff
                 cases hb2:(eW kd&&(bq s j&&(bq s e&&(bq s ((f.sub e).aW (-1))&&s.fz.contains dd)))) with
                 | false=>rw [hb2] at h; cases h
                 | true =>
                   rw [hb2] at h
                   simp only [cond_true] at h
                   simp only [Bool.and_eq_true] at hb2
                   obtain⟨b1,b2,b3,b4,b5⟩:=hb2
                   have b1:=dU b1
                   subst b1
                   have e1:=ax b2 hk.sat
                   have e2:=ax b3 hk.sat
                   have e3:=ax b4 hk.sat
                   rw [LE.aJ,LE.aw] at e3
                   have hdd:=cE hgd hk
                   have hfz:=hk.sat.fz dd (List.contains_iff_mem.1 b5)
                   obtain⟨x',m1,m2⟩:=pz hj
                   obtain⟨j',m3,m4⟩:=py hff
                   obtain⟨_,_,f3⟩:=hk.sat.c9 _ m3
                   have f3:(((ρ dd).gg.fl (j'.ev ρ).toNat:Nat):Int)=f.ev ρ:=f3
                   rw [m4 ρ] at f3
                   obtain⟨a1,a2⟩:=(hk.sat.ats _ m1).resolve_right fun hr=>by
                    have hr:j.ev ρ<0:=hr.1
                    omega
                   have a2:zH (ρ dd).gg (x'.den ρ)=some (j.ev ρ).toNat:=a2
                   rw [m2 ρ] at a2
                   refine xd (pk:=c.Φ.pk cc) ho hg hd hu hMt hk hm hkk hv hf hkf hz h fun es hes=>?_
                   obtain⟨h1,h2⟩:=hes
                   refine⟨eV hkf h1,?_⟩
                   rw [hmv] at h2 ⊢
                   obtain⟨hpk,hz,hrs,hfi⟩:=h2
                   refine⟨hpk,hz,hrs,fun p hp=>?_⟩
                   rcases vt hp with hp' | ⟨hp1,hp2⟩
                   · exact hfi p hp'
                   · have hpkey:=eV hkf h1 p hp
                     rw [hpk] at hkf hpkey
                     obtain⟨l,n,l',n',ek⟩:=hkf
                     obtain⟨pl,pn,pl',pn',ep⟩:=hpkey
                     have ek0:AV.agg [x.den ρ,z.den ρ]=.agg [.str l n,.str l' n']:=ek
                     have ex:x.den ρ=.str l n:=by injection ek0 with e; exact (List.cons.inj e).1
                     rw [ex] at a2
                     have a2:(ρ dd).gg.at_ l n=some (j.ev ρ).toNat:=a2
                     rw [hdd]
                     rw [hdd] at hrs
                     refine⟨pl,pn,pl',pn',(e.ev ρ).toNat,(j.ev ρ).toNat,ep,?_,hfz,?_,by omega⟩
                     · rw [hp1]; show AV.int .i64 (e.ev ρ)=_; congr 1; exact (Int.toNat_of_nonneg e2).symm
                     · rcases hp2 with hp2 | hp2
                       · rw [ep] at hp2
                         have hp2:AV.agg [.str pl pn,.str pl' pn']=.agg [x.den ρ,z.den ρ]:=hp2
                         rw [ek0] at hp2
                         injection hp2 with e0
                         have:=(List.cons.inj e0).1
                         injection this with e4 e5
                         subst e4 e5
                         exact a2
                       · rw [ep] at hp2
                         have hp2:aY (.agg [x.den ρ,z.den ρ]) (.agg [.str pl pn,.str pl' pn'])=true:=hp2
                         rw [ek0] at hp2
                         have hp2:(aO l n pl pn&&aO l' n' pl' pn')=true:=hp2
                         rw [Bool.and_eq_true] at hp2
                         rw [<-hrs l n pl pn hp2.1]; exact a2
               · cases h
             · cases h
           · cases h
         · cases h
     · cases h
   · rename_i b
     cases hb:(gK cf kt .str&&fq .str k) with
     | false=>rw [hb] at h; cases h
     | true =>
       rw [hb] at h
       simp only [cond_true] at h
       rw [Bool.and_eq_true] at hb
       have hMt:=ib hb.1 hK
       rw [hP] at hMt
       have hkf:=fg hb.2 ρ
       have hm:ba c.nt T ym (.dG (ρ b).nn):=hm
       have hnf:nf (v.den ρ):=y8 v ρ
       split at h
       · rename_i b' e0 osA hr
         obtain⟨r1,r2⟩:=fQ hr
         have hbb:b'=b:=ai r1
         subst hbb
         obtain⟨o1,es,o2,o3⟩:=hk.own (r2.mem_iff.2 (by simp:SO.im b' e0∈osA++[.im b' e0]))
         have hpd:=dW r2 ρ
         rw [List.map_append,List.map_singleton] at hpd
         split at h
         · rename_i kd e
           cases hb2:(eW kd&&bq s e) with
           | false=>rw [hb2] at h; cases h
           | true =>
             rw [hb2] at h
             simp only [cond_true] at h
             rw [Bool.and_eq_true] at hb2
             have b1:=dU hb2.1
             subst b1
             have hpos:=ax hb2.2 hk.sat
             have fin:∀en:LE,(K (dV s (osA++[.im b' en]))).Ok->(e0.ev ρ).toNat<=(en.ev ρ).toNat->(e.ev ρ).toNat<(en.ev ρ).toNat->Hv c T G Γ ops i s ρ K:=fun en hKn hle hlt=>by
              refine eZ.wD hg hd ho hu hMt hm hkk hv hkf hnf o2 (fun p hp=>(o3 p hp).1) ⟨rfl,rfl,Γ,ρ,_,hKn,de.refl _ _,Nat.le_refl _,⟨hk.sat.fs,hk.sat.bs,hk.sat.pw,hk.sat.ats,hk.sat.c9,hk.sat.ne,hk.sat.fz,hk.sat.sb⟩,?_⟩
              have hQ:=hk.q.wY (b:=(ρ b').nn) (G':=eH G (ρ b').nn (.map (c7 (k.den ρ) ((SV.v false [SC.int .i64 e]).den ρ) es))) (Γ':=Γ) (osA:=osA.map (SO.den ρ)) (o:=SO.den ρ (.im b' e0)) (o':=SO.den ρ (.im b' en)) (tys':=[]) hpd (dC (.inl (by rw [o2]; rfl))) (fun _ _=>rfl) (fun k h=>db h) (by rw [ay]; rfl)
               (fun _ _ _ h=>by rw [o2] at h; cases h) (fun _ _ _ h=>by rw [o2] at h; cases h) (fun x h=>by rw [o1] at h; cases h) rfl rfl (.inl rfl) rfl (fun x _ _ h=>by rw [o1] at h; cases h)
               (fun hr' hl'=>⟨o1,_,ay _ _ _,fun p hp=>⟨eV hkf (fun p hp=>(o3 p hp).1) p hp,by
                rcases fH hp with h | h
                · exact⟨(e.ev ρ).toNat,by rw [h]; show AV.int .i64 (e.ev ρ)=_; congr 1; exact (Int.toNat_of_nonneg hpos).symm,hlt⟩
                · obtain⟨_,n,h1,h2⟩:=o3 p h; exact⟨n,h1,by omega⟩⟩⟩) (fun f h=>by cases h)
              refine hQ.iq (fun _ _ h=>h) ⟨[],?_⟩ (fun f h=>h) (fun p h=>h)
              show List.Perm _ (((osA++[SO.im b' en]).map (SO.den ρ))++[])
              rw [List.append_nil,List.map_append,List.map_singleton]
             cases hc:bq s ((e0.sub e).aW (-1)) with
             | true =>
               rw [hc] at h
               have h2:=ax hc hk.sat
               rw [LE.aJ,LE.aw] at h2
               exact fin e0 h (Nat.le_refl _) (by omega)
             | false =>
               rw [hc] at h
               simp only [cond_false] at h
               cases hc2:bq s ((e.aW 1).sub e0) with
               | false=>rw [hc2] at h; cases h
               | true =>
                 rw [hc2] at h
                 have h2:=ax hc2 hk.sat
                 rw [LE.aw,LE.aJ] at h2
                 exact fin (e.aW 1) h (by rw [LE.aJ]; omega) (by rw [LE.aJ]; omega)
         · cases h
       · rename_i b' g q osA hr
         obtain⟨r1,r2⟩:=fQ hr
         have hbb:b'=b:=ai r1
         subst hbb
         obtain⟨o1,o0,obd,es,o2,o3,o4⟩:=hk.own (r2.mem_iff.2 (by simp:SO.am b' g q∈osA++[.am b' g q]))
         have hpd:=dW r2 ρ
         rw [List.map_append,List.map_singleton] at hpd
         unfold XL at h
         split at h
         · rename_i dd x kd e hgw
           split at h
           · rename_i ea hat
             cases hb2:(bq s ((LE.k (-1)).sub ea)&&(eW kd&&(bq s e&&(bq s (((LE.a (.gn dd q)).sub e).aW (-1))&&(x.lt s.nx&&(e.lt s.nx&&(Nat.blt dd s.nx&&(bR s.nx g&&(Nat.blt b' s.nx&&(osA.all K3&&osA.all (SO.lt s.nx))))))))))) with
             | false=>rw [hb2] at h; cases h
             | true =>
               rw [hb2] at h
               simp only [cond_true] at h
               simp only [Bool.and_eq_true] at hb2
               obtain⟨b1,b2,b3,b4,b5,b6,b7,b8,b9,b10,b11⟩:=hb2
               have b2:=dU b2
               subst b2
               have e1:=ax b1 hk.sat
               rw [LE.aw,LE.bp] at e1
               have e2:=ax b3 hk.sat
               have e3:=ax b4 hk.sat
               rw [LE.aJ,LE.aw,LE.a9] at e3
               have e3:0<=(((ρ dd).gg.n q:Nat):Int)-e.ev ρ+-1:=e3
               obtain⟨x',m1,m2⟩:=pz hat
               obtain⟨_,a2⟩:=(hk.sat.ats _ m1).resolve_left fun hr=>by
                have hr:0<=ea.ev ρ:=hr.1
                omega
               have a2:zH (ρ dd).gg (x'.den ρ)=none:=a2
               rw [m2 ρ] at a2
               have hmemg:=fX hgw
               have hgs:=hk.q.gs (ig ρ g,(ρ dd).gg,true) (List.mem_map.2 ⟨(g,dd,true),hmemg,rfl⟩)
               obtain⟨g1,g2,g3⟩:=hgs
               have g2:Γ.gd (ig ρ g)=(ρ dd).gg:=g2
               obtain⟨g3,g4,g5⟩:=g3 rfl
               have g4:(ρ dd).gg.fz=false:=g4
               obtain⟨lx,mx,ek⟩:=hkf
               have ex:x.den ρ=.str lx mx:=ek
               rw [ex] at a2
               have a2:(ρ dd).gg.at_ lx mx=none:=a2
               rw [g2] at obd o4
               -- the new ghost
               let dn:Gd:=⟨(ρ dd).gg.n,fun l m=>bif aO l m lx mx then some (e.ev ρ).toNat else (ρ dd).gg.at_ l m,(ρ dd).gg.fl,false,(ρ dd).gg.sub⟩
               have hsame:∀l m,aO l m lx mx=true->(ρ dd).gg.at_ l m=none:=fun l m hs=>by
                have h1:=o4 l m
                have h2:=o4 lx mx
                rw [tq (pk:=.str) (x:=.str l m) (k:=.str lx mx) ⟨l,m,rfl⟩ ⟨lx,mx,rfl⟩ hs fun p hp=>(o3 p hp).1,h2,a2] at h1
                cases hc:(ρ dd).gg.at_ l m with
                | none=>rfl
                | some j=>rw [hc] at h1; cases h1
               have hle:(ρ dd).gg.Le dn:=by
                refine⟨fun k=>Nat.le_refl _,fun l m j hj=>?_,fun hz=>?_,rfl⟩
                · show (bif aO l m lx mx then some (e.ev ρ).toNat else (ρ dd).gg.at_ l m)=some j
                  cases hs:aO l m lx mx with
                  | true=>rw [hsame l m hs] at hj; cases hj
                  | false=>exact hj
                · rw [g4] at hz; cases hz
               refine eZ.wD hg hd ho hu hMt hm hkk hv ⟨lx,mx,ek⟩ hnf o2 (fun p hp=>(o3 p hp).1) ⟨rfl,rfl,gI Γ (ig ρ g) dn Γ.ng,?_⟩
               -- the map,exactly
               have hQ1:=hk.q.wY (b:=(ρ b').nn) (G':=eH G (ρ b').nn (.map (c7 ((SV.v false [x]).den ρ) ((SV.v false [SC.int .i64 e]).den ρ) es))) (Γ':=Γ) (osA:=osA.map (SO.den ρ)) (o:=SO.den ρ (.am b' g q)) (o':=.map (ρ b').nn .str (c7 ((SV.v false [x]).den ρ) ((SV.v false [SC.int .i64 e]).den ρ) es)) (tys':=[]) hpd (dC (.inl (by rw [o2]; rfl))) (fun _ _=>rfl) (fun k h=>db h) (by rw [ay]; rfl)
                (fun _ _ _ h=>by rw [o2] at h; cases h) (fun _ _ _ h=>by rw [o2] at h; cases h) (fun x h=>by rw [o1] at h; cases h) rfl rfl (.inl rfl) rfl (fun x _ _ h=>by rw [o1] at h; cases h)
                (fun hr' hl'=>⟨ay _ _ _,o1,eV (pk:=.str) ⟨lx,mx,ek⟩ fun p hp=>(o3 p hp).1⟩) (fun f h=>by cases h)
               have hnoam:∀b g' k',Own.am b g' k'∈osA.map (SO.den ρ)++[.map (ρ b').nn .str (c7 ((SV.v false [x]).den ρ) ((SV.v false [SC.int .i64 e]).den ρ) es)]->False:=fun b g' k' hm=>by
                rcases List.mem_append.1 hm with hm | hm
                · obtain⟨o,h1,h2⟩:=List.mem_map.1 hm
                  have:=List.all_eq_true.1 b10 o h1
                  cases o<;>first | (cases h2; done) | skip
                  cases this
                · have:=List.mem_singleton.1 hm; cases this
               have hQ2:=hQ1.Ix (g:=ig ρ g) (d0:=(ρ dd).gg) (dn:=dn) (w:=true) (gs':=(ig ρ g,dn,true)::(la s).map fun p=>(ig ρ p.1,(ρ p.2.1).gg,p.2.2)) (List.mem_map.2 ⟨(g,dd,true),hmemg,rfl⟩) hle (fun _=>rfl) (fun b g' k' hm=>(hnoam b g' k' hm).elim) (fun p hp=>by
                rcases List.mem_cons.1 hp with rfl | hp
                · exact .inl rfl
                · obtain⟨p0,h1,rfl⟩:=List.mem_map.1 hp
                  obtain⟨k1,k2⟩:=qp (g:=ig ρ g) hk h1 (by rw [g2]; exact g4)
                  exact .inr ⟨List.mem_map.2 ⟨p0,k1,rfl⟩,k2⟩)
               have hgdn:(gI Γ (ig ρ g) dn Γ.ng).gd (ig ρ g)=dn:=fh _ _ _ _
               have hown3:cY c.P c.Φ (eH G (ρ b').nn (.map (c7 ((SV.v false [x]).den ρ) ((SV.v false [SC.int .i64 e]).den ρ) es))) (gI Γ (ig ρ g) dn Γ.ng) (.am (ρ b').nn (ig ρ g) q):=by
                refine⟨o1,o0,?_,_,ay _ _ _,fun p hp=>⟨eV (pk:=.str) ⟨lx,mx,ek⟩ (fun p hp=>(o3 p hp).1) p hp,?_⟩,?_⟩
                · rw [hgdn]
                  intro l n j hj
                  have hj:(bif aO l n lx mx then some (e.ev ρ).toNat else (ρ dd).gg.at_ l n)=some j:=hj
                  cases hs:aO l n lx mx with
                  | true=>rw [hs] at hj; cases hj; show (e.ev ρ).toNat<(ρ dd).gg.n q; omega
                  | false=>rw [hs] at hj; exact obd l n j hj
                · rcases fH hp with h | h
                  · rw [h]; exact hnf
                  · exact (o3 p h).2
                · rw [hgdn]
                  intro l n
                  rw [va (pk:=.str) ⟨lx,mx,ek⟩ ⟨l,n,rfl⟩ fun p hp=>(o3 p hp).1]
                  rw [show (SV.v false [x]).den ρ=.str lx mx from ek]
                  show (if aO l n lx mx=true then _ else _)=Option.map _ (bif aO l n lx mx then some (e.ev ρ).toNat else (ρ dd).gg.at_ l n)
                  cases hs:aO l n lx mx with
                  | true =>
                    rw [if_pos rfl]
                    show some (AV.int .i64 (e.ev ρ))=some (AV.int .i64 (.ofNat (e.ev ρ).toNat))
                    congr 2; exact (Int.toNat_of_nonneg e2).symm
                  | false=>rw [if_neg (by decide)]; exact o4 l n
               have hQ3:=hQ2.conv (osA:=osA.map (SO.den ρ)) (o':=.am (ρ b').nn (ig ρ g) q) (List.Perm.refl _) rfl hown3
               obtain⟨p1,p2,p3,p4⟩:=az h hk (.g dn)
               have hgg:(ρ.up s.nx (.g dn) s.nx).gg=dn:=by rw [p4]; rfl
               have eD:=(SS.bP (dh h) p2).1
               have hdd:=p2 dd (au b7)
               have eO:osA.map (SO.den (ρ.up s.nx (.g dn)))=osA.map (SO.den ρ):=List.map_congr_left fun o ho=>SO.bP p2 (List.all_eq_true.1 b11 o ho)
               refine⟨ρ.up s.nx (.g dn),_,p1,p2,Nat.le_succ _,xc ⟨⟨p3.sat.fs,p3.sat.bs,p3.sat.pw,fun p hp=>?_,p3.sat.c9,p3.sat.ne,p3.sat.fz,fun p hp=>?_⟩,?_⟩ fun k=>by rw [hgg,hdd]⟩
               · rcases List.mem_append.1 hp with hp | hp
                 · rcases List.mem_cons.1 hp with rfl | hp
                   · refine .inl ⟨by show 0<=e.ev _; rw [LE.bP p2 b6]; exact e2,?_⟩
                     show zH (ρ.up s.nx (.g dn) s.nx).gg (x.den (ρ.up s.nx (.g dn)))=some (e.ev (ρ.up s.nx (.g dn))).toNat
                     rw [hgg,SC.bP p2 b5,LE.bP p2 b6,ex]
                     show (bif aO lx mx lx mx then some (e.ev ρ).toNat else (ρ dd).gg.at_ lx mx)=_
                     rw [gX]; rfl
                   · obtain⟨p0,hp0,rfl⟩:=List.mem_map.1 hp
                     obtain⟨h1,h2⟩:=List.mem_filter.1 hp0
                     rw [Bool.and_eq_true] at h2
                     have hs0:=p3.sat.ats p0 h1
                     unfold OA at hs0 ⊢
                     have ed:=ai h2.1
                     rw [ed,hdd] at hs0
                     have hpos:0<=p0.2.2.ev (ρ.up s.nx (.g dn)):=by
                      exact B1 (s:=s) (fun f hf=>p3.sat.fs f hf) h2.2
                     rcases hs0 with ⟨a3,a4⟩ | ⟨a3,_⟩
                     · refine .inl ⟨a3,?_⟩
                       show zH (ρ.up s.nx (.g dn) s.nx).gg _=_
                       rw [hgg]
                       unfold zH at a4 ⊢
                       split
                       · rename_i l m hv'; rw [hv'] at a4; exact hle.at_ l m _ a4
                       · rename_i hv'
                         split at a4
                         · rename_i l m hv2; exact absurd hv2 (hv' l m)
                         · cases a4
                     · exact absurd hpos (by omega)
                 · exact p3.sat.ats p hp
               · rcases List.mem_append.1 hp with hp | hp
                 · exact rv (dd:=dd) (dn:=s.nx) (by rw [hgg,hdd]) p3.sat.sb p hp
                 · exact p3.sat.sb p hp
               · have:(tr (aC s) g s.nx true (osA++[.am b' g q]) ((s.nx,x,e)::MF s dd s.nx) [] [] (np s.sb dd s.nx)).den (ρ.up s.nx (.g dn))=⟨(s.den ρ).L,osA.map (SO.den ρ)++[.am (ρ b').nn (ig ρ g) q],(s.den ρ).dL,(ig ρ g,dn,true)::(la s).map fun p=>(ig ρ p.1,(ρ p.2.1).gg,p.2.2)⟩:=by
                  refine St.ext' (by have:=congrArg St.L eD; exact this) ?_ (by have:=congrArg St.dL eD; exact this) ?_
                  · show (osA++[SO.am b' g q]).map (SO.den _)=_
                    rw [List.map_append,eO,List.map_singleton]
                    simp only [SO.den]; rw [p2 b' (au b9),bV p2 b8]
                  · show (ig (ρ.up s.nx (.g dn)) g,(ρ.up s.nx (.g dn) s.nx).gg,true)::(la s).map (fun p=>(ig (ρ.up s.nx (.g dn)) p.1,(ρ.up s.nx (.g dn) p.2.1).gg,p.2.2))=_
                    rw [hgg,bV p2 b8]
                    congr 1
                    refine List.map_congr_left fun p hp=>?_
                    have hs:=dh h
                    unfold SS.ok at hs
                    simp only [Bool.and_eq_true,List.all_eq_true] at hs
                    have:=hs.2.2.2.1 p (List.mem_filter.1 hp).1
                    rw [bV p2 this.1,p2 _ (au this.2)]
                 rw [this]
                 exact hQ3.iq (fun _ _ h=>h) ⟨[],by rw [List.append_nil]⟩ (fun f h=>h) (fun p h=>h)
           · cases h
         · cases h
       · cases h
   · cases h
 · cases h
end
end Go.Rd
namespace Go.Rd
open Go.aQ Go.RowKit Go.Rt
def Vz (b:Nat):SO->Bool | .km y _ _ _=>Nat.beq y b | _=>false
def VA (b:Nat):SO->Bool | .it y _ _ _ _ _=>Nat.beq y b | _=>false
def VB (b cc g:Nat) (n:LE) (osA:List SO) (s:SS) (K:SS->R):R:=fresh s fun x s'=>K (aP (aP (dV s' (osA++[.km b cc g (.a (.n x))])) ((LE.a (.n x)).sub n)) ((n.aW 1).sub (.a (.n x))))
def XM (cf:Cf) (t:TypeId) (b cc g:Nat) (n:LE) (osA:List SO) (k v:SV) (s:SS) (K:SS->R):R:=match cf.P.underlying t with
 | some (.map kt et)=>bif gK cf kt (cf.Φ.pk cc)&&(fq (cf.Φ.pk cc) k&&(n.lt s.nx&&(bq s n&&Nat.blt b s.nx))) then
   (match cf.Φ.mv cc,v with
    | .kd kd,.v false [x]=>(match pC cf s g (ghost s.gs g) (.k 0) kd x with | some _=>VB b cc g n osA s K | none=>.bad 230 s)
    | .unit,.v true []=>VB b cc g n osA s K
    | _,_=>.bad 231 s)
   else .bad 232 s
 | _=>.bad 233 s
def Ps (cf:Cf) (t:TypeId) (m k v:SV) (s:SS) (K:SS->R):R:=match m with
 | .v false [.dG b]=>(match pD (Vz b) s.os with
   | some (.km _ cc g n,osA)=>XM cf t b cc g n osA k v s K
   | _=>UB cf t m k v s K)
 | _=>UB cf t m k v s K
def VC (cf:Cf) (t:TypeId) (v:SV) (d:Nat) (s:SS) (K:SS->R):R:=match cf.P.underlying t with
 | some (.map _ _)=>(match v with
   | .v false [.aV]=>fresh s fun b s=>K (dX (gw s (.it b .aV (.k 0) (.k 0) false false)) d (sc (.bW b 0)))
   | .v false [.dG y]=>(match zg s.os y with
     | some (.km _ _ n)=>bif n.lt s.nx&&Nat.blt y s.nx then fresh s fun b s=>K (dX (gw s (.it b (.dG y) n n false false)) d (sc (.bW b 0))) else .bad 234 s
     | _=>.bad 235 s)
   | .v false [.ref y]=>(match wP s.ty y with
     | some (cc,_)=>bif Nat.blt y s.nx then fresh s fun n s=>fresh s fun b s=>K (dX (gw s (.it b (.ref y) (.a (.n n)) (.a (.n n)) false true)) d (sc (.bW b 0))) else .bad 236 s
     | none=>.bad 237 s)
   | _=>.bad 238 s)
 | _=>.bad 239 s
def UC (s:SS) (m:SC) (n:LE) (ty:Bool):Option (Nat × Nat):=match m with
 | .dG y=>(match zg s.os y with | some (.km cc g n')=>bif bq s (n.sub n')&&bq s (n'.sub n) then some (cc,g) else none | _=>none)
 | .ref y=>bif ty then wP s.ty y else none
 | _=>none
def MG:List SO->Nat->Option (SC × LE × LE × Bool × Bool)
 | [],_=>none
 | .it y m n r st ty::l,x=>bif Nat.beq y x then some (m,n,r,st,ty) else MG l x
 | _::l,x=>MG l x
def RP (pk:KK) (s:SS) (K:SC->SS->R):R:=match pk with
 | .mf=>fresh s fun x s=>K (.str x) s
 | .int=>fresh s fun x s=>K (.int .i64 (.a (.z x))) s
 | _=>.bad 240 s
def Pt (cf:Cf) (g:Nat) (mv:MV) (s:SS) (K:Bool × List SC->SS->R):R:=match mv with
 | .kd kd=>bif bR s.nx g&&JC s.nx (ghost s.gs g) then td cf g (ghost s.gs g) (.k 0) kd s fun x _ s=>K (false,[x]) s else .bad 241 s
 | .unit=>K (true,[]) s
 | _=>.bad 242 s
def K4 (cf:Cf) (cc g:Nat) (s:SS) (K:SC->Bool × List SC->SS->R):R:=bif bR s.nx g then RP (cf.Φ.pk cc) s fun k s=>Pt cf g (cf.Φ.mv cc) s fun v s=>K k v s else .bad 243 s
def J5 (cf:Cf) (v:SV) (d:Nat) (s:SS) (K:SS->R):R:=match v with
 | .v false [.bW b 0]=>(match MG s.os b with
   | some (.aV,_,_,_,_)=>K (dX s d (.cu [(false,[.bool (.k false)])]))
   | some (m,n,r,_,ty)=>(match UC s m n ty with
     | some (cc,g)=>bif Nat.blt b s.nx then (bif bq s (r.aW (-1)) then .ok else K (dX s d (.cu [(false,[.bool (.k false)])]))).and
       (bif bq s ((LE.k 0).sub r) then .ok else K4 cf cc g s fun k e s=>(match pD (VA b) s.os with
        | some (.it _ m n r _ ty,osA)=>bif bq s r then K (dX (aP (dV s (osA++[.it b m n (r.aW (-1)) true ty])) (r.aW (-1))) d (.cu [(false,[.bool (.k true)]),(false,[k]),e])) else .bad 248 s
        | _=>.bad 244 s)) else .bad 252 s
     | none=>.bad 245 s)
   | none=>.bad 246 s)
 | _=>.bad 247 s
def Pu (cf:Cf) (v:SV) (s:SS) (K:SV->SS->R):R:=match v with
 | .v false [.bW b 0]=>(match MG s.os b with
   | some (m,n,r,true,ty)=>(match UC s m n ty with
     | some (cc,g)=>K4 cf cc g s fun k e s=>K (.cu [(false,[k]),e]) s
     | none=>.bad 249 s)
   | _=>.bad 250 s)
 | _=>.bad 251 s
theorem Ei {n:Nat} {seen:List Nat} (h:∀j,j<n->j∈seen):left n seen=0:=by
 unfold left
 rw [List.length_eq_zero_iff,List.filter_eq_nil_iff]
 intro j hj
 simp [h j (List.mem_range.1 hj)]
theorem IB {n j:Nat} {seen:List Nat} (hj:j<n) (h:j ∉ seen):left n (seen++[j])+1=left n seen:=by
 unfold left
 have key:∀l:List Nat,l.Nodup->j∈l->(l.filter fun i=>!(seen++[j]).contains i).length+1=(l.filter fun i=>!seen.contains i).length:=by
  intro l
  induction l with
  | nil=>intro _ h; cases h
  | cons x l ih =>
    intro hnd hm
    rw [List.nodup_cons] at hnd
    by_cases e:x=j
    · subst e
      have h1:(!(seen++[x]).contains x)=false:=by simp
      have h2:(!seen.contains x)=true:=by simpa using h
      rw [List.filter_cons,List.filter_cons,h1,h2]
      simp only [Bool.false_eq_true,if_false,if_true,List.length_cons]
      congr 1
      congr 1
      refine List.filter_congr fun i hi=>?_
      have:i≠x:=fun e=>hnd.1 (e▸hi)
      simp [this]
    · have hm':j∈l:=by rcases List.mem_cons.1 hm with e' | e'
                       · exact absurd e'.symm e
                       · exact e'
      have:=ih hnd.2 hm'
      have h1:(!(seen++[j]).contains x)=(!seen.contains x):=by simp [e]
      rw [List.filter_cons,List.filter_cons,h1]
      cases hb:(!seen.contains x) with
      | true=>simp only [if_true,List.length_cons]; omega
      | false=>simp only [Bool.false_eq_true,if_false]; exact this
 exact key _ List.nodup_range (List.mem_range.2 hj)
theorem tu (n:Nat):left n []=n:=by
 unfold left
 have h:(List.range n).filter (fun j=>!([]:List Nat).contains j)=List.range n:=List.filter_eq_self.2 fun _ _=>rfl
 rw [h,List.length_range]
theorem Ej {k v:AV} {es:List (AV × AV)}:es.length<=(c7 k v es).length/\(c7 k v es).length<=es.length+1:=by
 cases h:cq k es with
 | none=>rw [mg h,List.length_append]; simp
 | some v0=>rw [pq h]; omega
theorem fR:∀{l:List SO} {x:Nat} {m:SC} {n r:LE} {st ty:Bool},MG l x=some (m,n,r,st,ty)->SO.it x m n r st ty∈l
 | [],_,_,_,_,_,_,h=>by cases h
 | .it y m' n' r' st' ty'::l,x,m,n,r,st,ty,h=>by
   have h:(bif Nat.beq y x then some (m',n',r',st',ty') else MG l x)=some (m,n,r,st,ty):=h
   cases hb:Nat.beq y x with
   | true=>rw [hb] at h; cases h; have:=ai hb; subst this; exact List.mem_cons_self ..
   | false=>rw [hb] at h; exact List.mem_cons_of_mem _ (fR h)
 | .loc _ _ _::l,_,_,_,_,_,_,h=>List.mem_cons_of_mem _ (fR (l:=l) h)
 | .iE _ _::l,_,_,_,_,_,_,h=>List.mem_cons_of_mem _ (fR (l:=l) h)
 | .em _ _::l,_,_,_,_,_,_,h=>List.mem_cons_of_mem _ (fR (l:=l) h)
 | .ul _ _ _::l,_,_,_,_,_,_,h=>List.mem_cons_of_mem _ (fR (l:=l) h)
 | .am _ _ _::l,_,_,_,_,_,_,h=>List.mem_cons_of_mem _ (fR (l:=l) h)
 | .im _ _::l,_,_,_,_,_,_,h=>List.mem_cons_of_mem _ (fR (l:=l) h)
 | .bl _ _ _::l,_,_,_,_,_,_,h=>List.mem_cons_of_mem _ (fR (l:=l) h)
 | .km _ _ _ _::l,_,_,_,_,_,_,h=>List.mem_cons_of_mem _ (fR (l:=l) h)
section
variable {c:Cx} {T:Tm} {G:GH} {Γ:c8} {ρ ρ':bc} {s s':SS} {cf:Cf} {ops:Array Oper} {i d:Nat}
theorem Ok.RQ {G':GH} {osA:List SO} {o:SO} (h:Ok c T G Γ ρ s) (hq:Q c T G' Γ ⟨(s.den ρ).L,osA.map (SO.den ρ)++[o.den ρ],[]++(s.den ρ).dL,(s.den ρ).gs⟩):Ok c T G' Γ ρ (dV s (osA++[o])):=by
 refine⟨⟨h.sat.fs,h.sat.bs,h.sat.pw,h.sat.ats,h.sat.c9,h.sat.ne,h.sat.fz,h.sat.sb⟩,?_⟩
 refine hq.iq (fun _ _ h=>h) ⟨[],?_⟩ (fun f h=>h) (fun p h=>h)
 show List.Perm _ (((osA++[o]).map (SO.den ρ))++[])
 rw [List.append_nil,List.map_append,List.map_singleton]
theorem IC {t kt et:TypeId} {ym yk yv:Operand} {b cc g:Nat} {n:LE} {osA:List SO} {k v:SV} {K:SS->R} (ho:(ab ops i).op=.mapUpdate t ym yk yv) (hg:(ab ops i).guard=none) (hd:(ab ops i).dst=none) (hu:c.P.underlying t=some (.map kt et)) (hM:lC c.P kt (c.Φ.pk cc)) (hk:Ok c T G Γ ρ s) (hm:ba c.nt T ym (.dG (ρ b).nn)) (hkk:ba c.nt T yk (k.den ρ)) (hv:ba c.nt T yv (v.den ρ)) (hks:dK (c.Φ.pk cc) (k.den ρ))
  (hr:s.os.Perm (osA++[.km b cc g n])) (hnl:n.lt s.nx=true) (hn0:0<=n.ev ρ) (hbl:b<s.nx) (h:(VB b cc g n osA s K).Ok)
  (hok:∀es,Rw (c.Φ.mv cc)=true->eE c.P c.Φ G Γ cc (ig ρ g) es->eE c.P c.Φ G Γ cc (ig ρ g) (c7 (k.den ρ) (v.den ρ) es)):Hv c T G Γ ops i s ρ K:=by
 obtain⟨o1,o2,o3,es,o4,o5,o6,o7⟩:=hk.own (hr.mem_iff.2 (by simp:SO.km b cc g n∈osA++[.km b cc g n]))
 have hnf:nf (v.den ρ):=y8 v ρ
 obtain⟨r1,r2,r3,r4⟩:=az h hk (.n (c7 (k.den ρ) (v.den ρ) es).length)
 have hx:(LE.a (.n s.nx)).ev (ρ.up s.nx (.n (c7 (k.den ρ) (v.den ρ) es).length))=(c7 (k.den ρ) (v.den ρ) es).length:=by rw [LE.a9]; show ((ρ.up s.nx _ s.nx).nn:Int)=_; rw [r4]; rfl
 have hbb:(ρ.up s.nx (.n (c7 (k.den ρ) (v.den ρ) es).length) b).nn=(ρ b).nn:=by rw [r2 b hbl]
 have hown:cY c.P c.Φ G Γ (SO.den (ρ.up s.nx (.n (c7 (k.den ρ) (v.den ρ) es).length)) (.km b cc g n)):=r3.own (hr.mem_iff.2 (by simp:SO.km b cc g n∈osA++[.km b cc g n]))
 have hgg:ig (ρ.up s.nx (.n (c7 (k.den ρ) (v.den ρ) es).length)) g=ig ρ g:=by
  have hl:=dh h
  unfold SS.ok at hl
  simp only [Bool.and_eq_true,List.all_eq_true] at hl
  have:=hl.2.1 _ (hr.mem_iff.2 (by simp:SO.km b cc g n∈osA++[.km b cc g n]))
  simp only [SO.lt,Bool.and_eq_true] at this
  exact bV r2 this.2.1
 have hlen:=Ej (k:=k.den ρ) (v:=v.den ρ) (es:=es)
 have hev:=LE.bP r2 hnl
 have hnn:es.length=(n.ev ρ).toNat:=o5
 refine eZ.wD hg hd ho hu hM hm hkk hv hks hnf o4 o7.1 ⟨rfl,rfl,Γ,_,_,r1,r2,Nat.le_succ _,?_⟩
 have hpd:=dW hr (ρ.up s.nx (.n (c7 (k.den ρ) (v.den ρ) es).length))
 rw [List.map_append,List.map_singleton] at hpd
 have hQ:=r3.q.wY (b:=(ρ b).nn) (G':=eH G (ρ b).nn (.map (c7 (k.den ρ) (v.den ρ) es))) (Γ':=Γ) (osA:=osA.map (SO.den (ρ.up s.nx (.n (c7 (k.den ρ) (v.den ρ) es).length)))) (o:=SO.den (ρ.up s.nx (.n (c7 (k.den ρ) (v.den ρ) es).length)) (.km b cc g n)) (o':=SO.den (ρ.up s.nx (.n (c7 (k.den ρ) (v.den ρ) es).length)) (.km b cc g (.a (.n s.nx)))) (tys':=[]) hpd (dC (.inl (by rw [o4]; rfl))) (fun _ _=>rfl) (fun k h=>db h) (by rw [ay]; rfl)
  (fun _ _ _ h=>by rw [o4] at h; cases h) (fun _ _ _ h=>by rw [o4] at h; cases h) (fun x h=>by rw [o1] at h; cases h) rfl rfl (.inl (by show some _=some _; rw [hbb])) (by show some _=some _; rw [hbb]) (fun x _ _ h=>by rw [o1] at h; cases h)
  (fun hr' hl'=>?_) (fun f h=>by cases h)
 · refine ((Ok.RQ r3 hQ).aP ?_).aP ?_
   · rw [LE.aw,hx,hev]; omega
   · rw [LE.aw,LE.aJ,hx,hev]; omega
 · show cY c.P c.Φ _ Γ (.km _ cc _ _)
   rw [hbb,hgg,hx]
   refine⟨o1,o2,o3,c7 (k.den ρ) (v.den ρ) es,ay _ _ _,by simp,fun p hp=>?_,(hok es o3 o7).JI o3 hr' hl' o2⟩
   rcases fH hp with h | h
   · rw [h]; exact hnf
   · exact o6 p h
theorem K5 {t:TypeId} {ym yk yv:Operand} {m k v:SV} {K:SS->R} (ho:(ab ops i).op=.mapUpdate t ym yk yv) (hg:(ab ops i).guard=none) (hd:(ab ops i).dst=none) (hP:cf.P=c.P) (hΦ:cf.Φ=c.Φ) (hK:eo cf) (h:(Ps cf t m k v s K).Ok) (hk:Ok c T G Γ ρ s) (hm:ba c.nt T ym (m.den ρ)) (hkk:ba c.nt T yk (k.den ρ)) (hv:ba c.nt T yv (v.den ρ)):Hv c T G Γ ops i s ρ K:=by
 unfold Ps at h
 split at h
 · rename_i b
   split at h
   · rename_i b' cc g n osA hr
     obtain⟨r1,r2⟩:=fQ hr
     have hbb:b'=b:=ai r1
     subst hbb
     unfold XM at h
     split at h
     · rename_i kt et hu
       rw [hP] at hu
       rw [hΦ] at h
       cases hb:(gK cf kt (c.Φ.pk cc)&&(fq (c.Φ.pk cc) k&&(n.lt s.nx&&(bq s n&&Nat.blt b' s.nx)))) with
       | false=>rw [hb] at h; cases h
       | true =>
         rw [hb] at h
         simp only [cond_true] at h
         simp only [Bool.and_eq_true] at hb
         obtain⟨b1,b2,b3,b4,b5⟩:=hb
         have hMt:=ib b1 hK
         rw [hP] at hMt
         have hkf:=fg b2 ρ
         split at h
         · rename_i kd x hmv
           split at h
           · rename_i o hc
             obtain⟨fs,c1,c2,c3⟩:=w5 hc hΦ hk (fun dv h=>cE h hk) (J:=0) (by rw [LE.bp]; exact⟨Int.le_refl _,rfl⟩)
             refine IC ho hg hd hu hMt hk hm hkk hv hkf r2 b3 (ax b4 hk.sat) (au b5) h fun es _ hes=>?_
             obtain⟨h1,h2⟩:=hes
             refine⟨eV hkf h1,?_⟩
             rw [hmv] at h2 ⊢
             intro p hp
             rcases fH hp with h | h
             · rw [h]; exact⟨fs,c1,c3⟩
             · exact h2 p h
           · cases h
         · rename_i hmv
           refine IC ho hg hd hu hMt hk hm hkk hv hkf r2 b3 (ax b4 hk.sat) (au b5) h fun es _ hes=>?_
           obtain⟨h1,h2⟩:=hes
           refine⟨eV hkf h1,?_⟩
           rw [hmv] at h2 ⊢
           intro p hp
           rcases fH hp with h | h
           · rw [h]; rfl
           · exact h2 p h
         · cases h
     · cases h
   · exact IA ho hg hd hP hΦ hK h hk hm hkk hv
 · exact IA ho hg hd hP hΦ hK h hk hm hkk hv
theorem ID {b:Nat} {m:SC} {n r:LE} {st ty:Bool} {g0:Gh} {u:U} (hb:c.n0<=b) (hb':G b=none) (hu:u.nn=b) (hk:Ok c T G Γ (ρ.up s.nx u) (aC s)) (h4:(ρ.up s.nx u) s.nx=u) (hok:Γ.m b=none->cY c.P c.Φ (eH G b g0) Γ (.it b (m.den (ρ.up s.nx u)) (n.ev (ρ.up s.nx u)).toNat (r.ev (ρ.up s.nx u)).toNat st ty)):Ok c T (eH G b g0) Γ (ρ.up s.nx u) (gw (aC s) (.it s.nx m n r st ty)):=by
 have e1:(ρ.up s.nx u s.nx).nn=b:=by rw [h4]; exact hu
 have q:=hk.q.AX (g:=g0) hb hb' (.it b (m.den (ρ.up s.nx u)) (n.ev (ρ.up s.nx u)).toNat (r.ev (ρ.up s.nx u)).toNat st ty) rfl (hok (hk.q.ht.none hb'))
 refine⟨⟨hk.sat.fs,hk.sat.bs,hk.sat.pw,hk.sat.ats,hk.sat.c9,hk.sat.ne,hk.sat.fz,hk.sat.sb⟩,?_⟩
 have:(gw (aC s) (.it s.nx m n r st ty)).den (ρ.up s.nx u)=⟨((aC s).den (ρ.up s.nx u)).L,.it b (m.den (ρ.up s.nx u)) (n.ev (ρ.up s.nx u)).toNat (r.ev (ρ.up s.nx u)).toNat st ty::((aC s).den (ρ.up s.nx u)).os,((aC s).den (ρ.up s.nx u)).dL,((aC s).den (ρ.up s.nx u)).gs⟩:=by
  unfold gw SS.den
  simp only [List.map_cons,SO.den,e1]
 rw [this]; exact q
theorem Pv {t:TypeId} {x:Operand} {v:SV} {K:SS->R} (ho:(ab ops i).op=.range t x) (hg:(ab ops i).guard=none) (hd:(ab ops i).dst=some d) (hlt:d<c.nt) (hP:cf.P=c.P) (hΦ:cf.Φ=c.Φ) (h:(VC cf t v d s K).Ok) (hk:Ok c T G Γ ρ s) (hx:ba c.nt T x (v.den ρ)):Hv c T G Γ ops i s ρ K:=by
 unfold VC at h
 rw [hP] at h
 split at h
 · rename_i kt et hu
   split at h
   · refine eZ.Ou hg hd hlt ho hu hx fun b hb hb'=>⟨rfl,rfl,?_⟩
     obtain⟨h1,h2,h3,h4⟩:=az h hk (.n b)
     refine⟨Γ,_,_,h1,h2,Nat.le_succ _,?_⟩
     have ok1:=ID (m:=.aV) (n:=.k 0) (r:=.k 0) (st:=false) (ty:=false) (g0:=.iter none 0 []) hb hb' rfl h3 h4 fun h0=>⟨h0,⟨none,[],rfl,by rw [ay,LE.bp]; rfl,by rw [LE.bp,tu],(fun _=>by rw [LE.bp]; rfl),(fun h=>by cases h)⟩,fun h=>by cases h⟩
     have:=ok1.put (v:=sc (.bW s.nx 0)) d
     rw [show (sc (.bW s.nx 0)).den (ρ.up s.nx (.n b))=.bW b 0 by show AV.bW (ρ.up s.nx (.n b) s.nx).nn 0=_; rw [h4]; rfl] at this
     exact this
   · rename_i y
     split at h
     · rename_i cc g n hf
       cases hb:(n.lt s.nx&&Nat.blt y s.nx) with
       | false=>rw [hb] at h; cases h
       | true =>
         rw [hb] at h
         simp only [cond_true] at h
         rw [Bool.and_eq_true] at hb
         obtain⟨o1,o2,o3,es,o4,o5,o6,o7⟩:=hk.own (fP hf)
         refine eZ.HJ hg hd hlt ho hu hx o4 fun b hb1 hb'=>⟨rfl,rfl,?_⟩
         obtain⟨h1,h2,h3,h4⟩:=az h hk (.n b)
         have ey:(ρ.up s.nx (.n b) y)=ρ y:=h2 y (au hb.2)
         have en:=LE.bP h2 hb.1
         have o5:es.length=(n.ev ρ).toNat:=o5
         refine⟨Γ,_,_,h1,h2,Nat.le_succ _,?_⟩
         have ok1:=ID (m:=.dG y) (n:=n) (r:=n) (st:=false) (ty:=false) (g0:=.iter (some (ρ y).nn) es.length []) hb1 hb' rfl h3 h4 fun h0=>⟨h0,⟨some (ρ y).nn,[],by show Us (.dG (ρ.up s.nx (.n b) y).nn)=_; rw [ey]; rfl,by rw [ay,en,o5],tu _,(fun h=>by cases h),(fun h=>by cases h)⟩,fun h=>by cases h⟩
         have:=ok1.put (v:=sc (.bW s.nx 0)) d
         rw [show (sc (.bW s.nx 0)).den (ρ.up s.nx (.n b))=.bW b 0 by show AV.bW (ρ.up s.nx (.n b) s.nx).nn 0=_; rw [h4]; rfl] at this
         exact this
     · cases h
   · rename_i y
     split at h
     · rename_i cc g hf
       cases hb:Nat.blt y s.nx with
       | false=>rw [hb] at h; cases h
       | true =>
         rw [hb] at h
         simp only [cond_true] at h
         obtain⟨mb,q1,q2⟩:=hk.ty (iN hf)
         obtain⟨_,es,r1,r2,r3⟩:=hk.q.ht.b _ _ q2
         have q1:(ρ y).vv=.dG mb:=q1
         have hx:ba c.nt T x (ρ y).vv:=hx
         rw [q1] at hx
         refine eZ.HJ hg hd hlt ho hu hx r1 fun b hb1 hb'=>⟨rfl,rfl,?_⟩
         obtain⟨h1,h2,h3,h4⟩:=az h hk (.n es.length)
         obtain⟨k1,k2,k3,k4⟩:=az h1 h3 (.n b)
         have e1:((ρ.up s.nx (.n es.length)).up (aC s).nx (.n b)) s.nx=.n es.length:=by rw [k2 s.nx (Nat.lt_succ_self _),h4]
         have e2:((ρ.up s.nx (.n es.length)).up (aC s).nx (.n b)) y=ρ y:=by rw [k2 y (Nat.lt_succ_of_lt (au hb)),h2 y (au hb)]
         have ev:(LE.a (.n s.nx)).ev ((ρ.up s.nx (.n es.length)).up (aC s).nx (.n b))=es.length:=by rw [LE.a9]; show ((((ρ.up s.nx (.n es.length)).up (aC s).nx (.n b)) s.nx).nn:Int)=_; rw [e1]; rfl
         refine⟨Γ,_,_,k1,h2.trans k2 (Nat.le_succ _),Nat.le_trans (Nat.le_succ _) (Nat.le_succ _),?_⟩
         have hbm:mb≠b:=fun e=>by subst e; rw [hb'] at r1; cases r1
         have ok1:=ID (m:=.ref y) (n:=.a (.n s.nx)) (r:=.a (.n s.nx)) (st:=false) (ty:=true) (g0:=.iter (some mb) es.length []) hb1 hb' rfl k3 k4 fun h0=>⟨h0,⟨some mb,[],by show Us (((ρ.up s.nx (.n es.length)).up (aC s).nx (.n b)) y).vv=_; rw [e2,q1]; rfl,by rw [ay,ev]; simp,tu _,(fun h=>by cases h),(fun h=>by cases h)⟩,fun _ mb' hmb=>by
          have hmb:(((ρ.up s.nx (.n es.length)).up (aC s).nx (.n b)) y).vv=.dG mb':=hmb
          rw [e2,q1] at hmb
          cases hmb
          exact⟨cc,ig ρ g,es,q2,by rw [db hbm]; exact r1,by rw [ev]; simp⟩⟩
         have:=ok1.put (v:=sc (.bW (aC s).nx 0)) d
         rw [show (sc (.bW (aC s).nx 0)).den ((ρ.up s.nx (.n es.length)).up (aC s).nx (.n b))=.bW b 0 by show AV.bW (((ρ.up s.nx (.n es.length)).up (aC s).nx (.n b)) (aC s).nx).nn 0=_; rw [k4]; rfl] at this
         exact this
     · cases h
   · cases h
 · cases h
theorem Cm {cc g:Nat} {K:SC->Bool × List SC->SS->R} {es:List (AV × AV)} {p:AV × AV} (hΦ:cf.Φ=c.Φ) (h:(K4 cf cc g s K).Ok) (hk:Ok c T G Γ ρ s) (hM:eE c.P c.Φ G Γ cc (ig ρ g) es) (hp:p∈es):fa c T G Γ s ρ fun ρ' s'=>∃k e,(K k e s').Ok/\k.den ρ'=p.1/\dH ρ' e=p.2:=by
 obtain⟨hkeys,hM⟩:=hM
 have hkey:=hkeys p hp
 have val:∀{k:SC} {s1:SS} {ρ1:bc},de s.nx ρ ρ1->s.nx<=s1.nx->Ok c T G Γ ρ1 s1->k.den ρ1=p.1->k.lt s1.nx=true->(Pt cf g (cf.Φ.mv cc) s1 fun v s=>K k v s).Ok->bR s.nx g=true->fa c T G Γ s ρ fun ρ' s'=>∃k e,(K k e s').Ok/\k.den ρ'=p.1/\dH ρ' e=p.2:=by
  intro k s1 ρ1 ha hn ho he hl h hig
  unfold Pt at h
  rw [hΦ] at h
  have hgg:ig ρ1 g=ig ρ g:=bV ha hig
  have fin:∀{ρ2:bc} {s2:SS} {e:Bool × List SC},de s1.nx ρ1 ρ2->s1.nx<=s2.nx->Ok c T G Γ ρ2 s2->(K k e s2).Ok->dH ρ2 e=p.2->fa c T G Γ s ρ fun ρ' s'=>∃k e,(K k e s').Ok/\k.den ρ'=p.1/\dH ρ' e=p.2:=by
   intro ρ2 s2 e a2 n2 o2 h2 d2
   exact fa.mk (ha.trans a2 hn) (Nat.le_trans hn n2) o2 ⟨k,e,h2,by rw [SC.bP a2 hl]; exact he,d2⟩
  cases hmv:c.Φ.mv cc with
  | kd kd =>
    rw [hmv] at h hM
    simp only at h hM
    cases hb:(bR s1.nx g&&JC s1.nx (ghost s1.gs g)) with
    | false=>rw [hb] at h; cases h
    | true =>
      rw [hb] at h
      simp only [cond_true] at h
      rw [Bool.and_eq_true] at hb
      obtain⟨fs,kv,kf⟩:=hM p hp
      obtain⟨ρ2,s2,a2,n2,o2,x,o,g1,g2,_⟩:=AJ h hΦ ho hb.1 (J:=0) (fun dv hd=>by have:=hb.2; rw [hd] at this; exact⟨au this,cE hd ho⟩) ⟨rfl,by rw [LE.bp]; exact Int.le_refl _,by rw [LE.bp]; rfl⟩ (by rw [hgg]; exact kv) kf
      exact fin a2 n2 o2 g1 g2
  | unit =>
    rw [hmv] at h hM
    simp only at h hM
    exact fin (de.refl _ _) (Nat.le_refl _) ho h (by rw [hM p hp]; rfl)
  | JB b=>rw [hmv] at h; cases h
  | HK=>rw [hmv] at h; cases h
 unfold K4 at h
 cases hig:bR s.nx g with
 | false=>rw [hig] at h; cases h
 | true =>
   rw [hig] at h
   simp only [cond_true] at h
   unfold RP at h
   rw [hΦ] at h
   cases hpk:c.Φ.pk cc with
   | mf =>
     rw [hpk] at h hkey
     simp only at h
     obtain⟨l,n,e0,hl⟩:=hkey
     obtain⟨h1,h2,h3,h4⟩:=az h hk (.s l n)
     refine val (k:=.str s.nx) h2 (Nat.le_succ _) h3 ?_ (dF _) (by rw [hΦ]; exact h1) hig
     show AV.str (ρ.up s.nx (.s l n) s.nx).sl (ρ.up s.nx (.s l n) s.nx).sm=_
     rw [h4,U.nB hl,e0]; rfl
   | int =>
     rw [hpk] at h hkey
     simp only at h
     obtain⟨n,e0⟩:=hkey
     obtain⟨h1,h2,h3,h4⟩:=az h hk (.z n)
     refine val (k:=.int .i64 (.a (.z s.nx))) h2 (Nat.le_succ _) h3 ?_ (by simp [SC.lt,LE.lt,LE.a,aC,At.id,dF]) (by rw [hΦ]; exact h1) hig
     rw [e0]
     show AV.int .i64 ((LE.a (.z s.nx)).ev _)=_
     rw [LE.a9]
     show AV.int .i64 (ρ.up s.nx (.z n) s.nx).zz=_
     rw [h4]; rfl
   | str=>rw [hpk] at h; cases h
   | pair=>rw [hpk] at h; cases h
   | iD=>rw [hpk] at h; cases h
   | u9=>rw [hpk] at h; cases h
theorem IE {b cc g:Nat} {m:SC} {n r:LE} {st ty:Bool} (hf:UC s m n ty=some (cc,g)) (hk:Ok c T G Γ ρ s) (ho:SO.it b m n r st ty∈s.os):∃mb seen es,G (ρ b).nn=some (.iter (some mb) (n.ev ρ).toNat seen)/\G mb=some (.map es)/\es.length=(n.ev ρ).toNat/\left (n.ev ρ).toNat seen=(r.ev ρ).toNat/\(st=true->∃l j,seen=l++[j]/\j<(n.ev ρ).toNat)/\eE c.P c.Φ G Γ cc (ig ρ g) es:=by
 obtain⟨a1,⟨mo,seen,a2,a3,a4,a5,a6⟩,a7⟩:=hk.own ho
 unfold UC at hf
 split at hf
 · rename_i y
   split at hf
   · rename_i cc' g' n' hm
     cases hb:(bq s (n.sub n')&&bq s (n'.sub n)) with
     | false=>rw [hb] at hf; cases hf
     | true =>
       rw [hb] at hf
       cases hf
       rw [Bool.and_eq_true] at hb
       have e1:=ax hb.1 hk.sat
       have e2:=ax hb.2 hk.sat
       rw [LE.aw] at e1 e2
       obtain⟨o1,o2,o3,es,o4,o5,o6,o7⟩:=hk.own (fP hm)
       have a2:some (some (ρ y).nn)=some mo:=a2
       cases a2
       have o5:es.length=(n'.ev ρ).toNat:=o5
       exact⟨_,seen,es,a3,o4,by rw [o5]; congr 1; omega,a4,a6,o7⟩
   · cases hf
 · rename_i y
   cases ty with
   | false=>cases hf
   | true =>
     have hf:wP s.ty y=some (cc,g):=hf
     obtain⟨mb,q1,q2⟩:=hk.ty (iN hf)
     have q1:(ρ y).vv=.dG mb:=q1
     obtain⟨_,es,r1,r2,r3⟩:=hk.q.ht.b _ _ q2
     obtain⟨c',g',es',k1,k3,k4⟩:=a7 rfl mb q1
     rw [r1] at k3
     cases k3
     have a2:Us (ρ y).vv=some mo:=a2
     rw [q1] at a2
     cases a2
     exact⟨mb,seen,es,a3,r1,k4,a4,a6,r3⟩
 · cases hf
theorem Pw {x:Operand} {v:SV} {K:SS->R} (ho:(ab ops i).op=.next x false) (hg:(ab ops i).guard=none) (hd:(ab ops i).dst=some d) (hlt:d<c.nt) (hΦ:cf.Φ=c.Φ) (h:(J5 cf v d s K).Ok) (hk:Ok c T G Γ ρ s) (hx:ba c.nt T x (v.den ρ)):Hv c T G Γ ops i s ρ K:=by
 unfold J5 at h
 split at h
 · rename_i b
   have hx:ba c.nt T x (.bW (ρ b).nn 0):=hx
   split at h
   · rename_i n r st ty hf
     obtain⟨a1,⟨mo,seen,a2,a3,a4,a5,a6⟩,a7⟩:=hk.own (fR hf)
     cases a2
     exact eZ.Rv hg hd hlt ho hx a3 ⟨rfl,rfl,Γ,ρ,_,h,de.refl _ _,Nat.le_refl _,hk.put (v:=.cu [(false,[.bool (.k false)])]) d⟩
   · rename_i m n r st ty hnm hf
     split at h
     · rename_i cc g hi
       cases hbl:Nat.blt b s.nx with
       | false=>rw [hbl] at h; cases h
       | true =>
       rw [hbl] at h
       simp only [cond_true] at h
       obtain⟨mb,seen,es,q1,q2,q3,q4,q5,q6⟩:=IE hi hk (fR hf)
       obtain⟨h1,h2⟩:=R.fV h
       refine eZ.next hg hd hlt ho hx q1 q2 q3 (fun hall=>?_) fun j p hj hjn hp=>?_
       · have h0:(r.ev ρ).toNat=0:=by rw [<-q4]; exact Ei hall
         cases hb:bq s (r.aW (-1)) with
         | true =>
           have:=ax hb hk.sat
           rw [LE.aJ] at this
           omega
         | false =>
           rw [hb] at h1
           exact⟨rfl,rfl,Γ,ρ,_,h1,de.refl _ _,Nat.le_refl _,hk.put (v:=.cu [(false,[.bool (.k false)])]) d⟩
       · have hp1:=IB hjn hj
         rw [q4] at hp1
         cases hb:bq s ((LE.k 0).sub r) with
         | true =>
           have:=ax hb hk.sat
           rw [LE.aw,LE.bp] at this
           omega
         | false =>
           rw [hb] at h2
           simp only [cond_false] at h2
           obtain⟨ρ',s',ha,hn,o',k,e,hK,ek,ee⟩:=Cm hΦ h2 hk q6 (List.mem_of_getElem? hp)
           split at hK
           · rename_i b' m2 n2 r2 st2 ty2 osA hr
             obtain⟨w1,w2⟩:=fQ hr
             have hbb:b'=b:=ai w1
             subst hbb
             cases hb2:bq s' r2 with
             | false=>rw [hb2] at hK; cases hK
             | true =>
             rw [hb2] at hK
             simp only [cond_true] at hK
             have hr2:=ax hb2 o'.sat
             obtain⟨a1,⟨mo,seen2,a2,a3,a4,a5,a6⟩,a7⟩:=o'.own (w2.mem_iff.2 (by simp:SO.it b' m2 n2 r2 st2 ty2∈osA++[.it b' m2 n2 r2 st2 ty2]))
             have eb:ρ' b'=ρ b':=ha b' (au hbl)
             have a3:G (ρ' b').nn=some (.iter mo (n2.ev ρ').toNat seen2):=a3
             have a1:Γ.m (ρ' b').nn=none:=a1
             rw [eb] at a3 a1
             rw [q1] at a3
             injection a3 with a3
             injection a3 with z1 z2 z3
             subst z3
             have a4:left (n2.ev ρ').toNat seen=(r2.ev ρ').toNat:=a4
             rw [<-z2,q4] at a4
             have hpd:=dW w2 ρ'
             rw [List.map_append,List.map_singleton] at hpd
             have hmb:mb≠(ρ b').nn:=fun e=>by rw [e,q1] at q2; cases q2
             have hQ:=o'.q.wY (b:=(ρ b').nn) (G':=eH G (ρ b').nn (.iter (some mb) (n.ev ρ).toNat (seen++[j]))) (Γ':=Γ) (osA:=osA.map (SO.den ρ')) (o:=SO.den ρ' (.it b' m2 n2 r2 st2 ty2)) (o':=SO.den ρ' (.it b' m2 n2 (r2.aW (-1)) true ty2)) (tys':=[]) hpd (dC (.inl (by rw [q1]; rfl))) (fun _ _=>rfl) (fun k h=>db h) (by rw [ay]; rfl)
              (fun _ _ _ h=>by rw [q1] at h; cases h) (fun _ _ _ h=>by rw [q1] at h; cases h) (fun x h=>by rw [a1] at h; cases h) rfl rfl (.inl (by show some _=some _; rw [eb])) (by show some _=some _; rw [eb]) (fun x _ _ h=>by rw [a1] at h; cases h)
              (fun hr' hl'=>by
               show cY c.P c.Φ _ Γ (.it (ρ' b').nn _ _ _ _ _)
               rw [eb]
               refine⟨a1,⟨some mb,seen++[j],by rw [a2,<-z1],by rw [ay,z2],?_,(fun h=>by cases h),fun _=>⟨seen,j,rfl,by rw [<-z2]; exact hjn⟩⟩,fun hty mb' hm=>?_⟩
               · rw [<-z2,LE.aJ]; omega
               · obtain⟨c',g',es',k1,k3,k4⟩:=a7 hty mb' hm
                 have:mb'≠(ρ b').nn:=fun e=>by rw [e,q1] at k3; cases k3
                 exact⟨c',g',es',k1,by rw [db this]; exact k3,k4⟩) (fun f h=>by cases h)
             have ok1:=((Ok.RQ o' hQ).aP (e:=r2.aW (-1)) (by rw [LE.aJ]; omega)).put (v:=.cu [(false,[.bool (.k true)]),(false,[k]),e]) d
             refine⟨rfl,rfl,Γ,ρ',_,hK,ha,hn,?_⟩
             have ed:(SV.cu [(false,[.bool (.k true)]),(false,[k]),e]).den ρ'=.cu [.bool true,p.1,p.2]:=by
              show AV.cu [.bool true,k.den ρ',dH ρ' e]=_
              rw [ek,ee]
             rw [ed] at ok1
             exact ok1
           · cases hK
     · cases h
   · cases h
 · cases h
theorem Px {x:Operand} {v:SV} {K:SV->SS->R} (ho:(ab ops i).op=.entry x) (hg:(ab ops i).guard=none) (hΦ:cf.Φ=c.Φ) (h:(Pu cf v s K).Ok) (hk:Ok c T G Γ ρ s) (hx:ba c.nt T x (v.den ρ)):Lo c T G Γ ops i s ρ K:=by
 unfold Pu at h
 split at h
 · rename_i b
   have hx:ba c.nt T x (.bW (ρ b).nn 0):=hx
   split at h
   · rename_i m n r ty hf
     split at h
     · rename_i cc g hi
       obtain⟨mb,seen,es,q1,q2,q3,q4,q5,q6⟩:=IE hi hk (fR hf)
       obtain⟨l,j,rfl,hj⟩:=q5 rfl
       have hj':j<es.length:=by omega
       have hp:es[j]?=some es[j]:=List.getElem?_eq_getElem hj'
       refine (Cm hΦ h hk q6 (List.mem_of_getElem? hp)).mono fun ρ' s' _ _ _ ⟨k,e,hK,ek,ee⟩=>⟨_,hK,?_⟩
       have ed:(SV.cu [(false,[k]),e]).den ρ'=.cu [es[j].1,es[j].2]:=by
        show AV.cu [k.den ρ',dH ρ' e]=_
        rw [ek,ee]
       rw [ed]
       exact aZ.entry hg ho hx q1 q2 q3 hp
     · cases h
   · cases h
 · cases h
end
end Go.Rd
namespace Go.Rd
open Go.aQ Go.RowKit Go.Rt
def VD:IntKind->Option Int
 | .u64=>some 18446744073709551615
 | .u8=>some 255
 | _=>none
def ue (s:SS) (k:IntKind) (e:LE):Bool:=match VD k with
 | some m=>bq s e&&bq s ((LE.k m).sub e)
 | none=>false
def two (n:Nat):Int:=.ofNat (Nat.pow 2 n)
def VE (cf:Cf) (op:BinOp) (t:TypeId) (x y:SV) (s:SS) (K:SV->SS->R):Option R:=bif ow cf.P op t&&(gK cf t .u9&&(fq .u9 x&&fq .u9 y)) then (match op with
 | .eql=>some (fresh s fun x s=>K (sc (.bool (.v x))) s)
 | .neq=>some (fresh s fun x s=>K (sc (.bool (.v x))) s)
 | _=>none) else none
def VF (op:BinOp) (x y:SV) (s:SS) (K:SV->SS->R):Option R:=match x,y with
 | .v false [.int k a],.v false [.int k' b]=>(match op with
   | .and=>bif cD k k'&&(cD k .u64&&(ue s k b&&b.lt s.nx)) then some (fresh s fun x s=>K (sc (.int k (.a (.n x)))) (aP s (b.sub (.a (.n x))))) else none
   | .shr=>(match cG b with
     | some (.ofNat n)=>bif cD k .u64&&(Nat.ble n 63&&(ue s k a&&a.lt s.nx)) then some (fresh s fun x s=>bif bq s ((LE.k (two (n+8)-1)).sub a) then K (sc (.int k (.a (.n x)))) (aP (aP (aP s (a.sub ((LE.a (.n x)).ji (two n)))) ((((LE.a (.n x)).ji (two n)).aW (two n-1)).sub a)) ((LE.k 255).sub (.a (.n x)))) else K (sc (.int k (.a (.n x)))) (aP (aP s (a.sub ((LE.a (.n x)).ji (two n)))) ((((LE.a (.n x)).ji (two n)).aW (two n-1)).sub a))) else none
     | _=>none)
   | .shl=>(match cG a,cG b with
     | some (.ofNat p),some (.ofNat n)=>bif cD k .u64&&(Nat.ble n 63&&Nat.ble (Nat.mul p (Nat.pow 2 n)) 18446744073709551615) then some (K (sc (.int k (.k (.ofNat (Nat.mul p (Nat.pow 2 n)))))) s) else none
     | _,_=>none)
   | .quo=>(match cG b with
     | some q=>bif cD k k'&&(eW k&&(!mh q&&(!kU q&&(bq s a&&(wQ s a&&(a.lt s.nx&&bq s (a.aW (-q)))))))) then some (fresh s fun x s=>K (sc (.int k (.a (.n x)))) (aP (aP (aP s (a.sub ((LE.a (.n x)).ji q))) ((((LE.a (.n x)).ji q).aW (q-1)).sub a)) ((LE.a (.n x)).aW (-1)))) else none
     | none=>none)
   | op=>bif cD k k'&&(mX op&&!lu op) then (match U9 op a b with
     | some e=>bif ue s k e then some (K (sc (.int k e)) s) else none
     | none=>none) else none)
 | _,_=>none
def VG (cf:Cf) (o:Op) (op:BinOp) (t:TypeId) (x y:SV) (s:SS) (K:SV->SS->R):R:=match VF op x y s K with
 | some r=>r
 | none=>(match VE cf op t x y s K with
   | some r=>r
   | none=>ra cf o s K)
def Mg (cf:Cf) (o:Op) (t t':TypeId) (x:SV) (s:SS) (K:SV->SS->R):R:=match cf.P.underlying t,cf.P.underlying t',x with
 | some (.int ks),some (.int kt),.v false [.int k e]=>bif cD k ks&&ue s kt e then K (sc (.int kt e)) s else ra cf o s K
 | _,_,_=>ra cf o s K
def vu (l m:Nat) (i:Nat):Nat:=Nat.mod (Nat.div m (lG (Nat.sub l (Nat.succ i)))) 256
def Cn (l m:Nat):Nat->List (Nat × Nat × Nat)
 | 0=>[]
 | i+1=>match Cn l m i with
   | (lo,hi,ch)::r=>bif Nat.beq (vu l m i) ch then (lo,i,ch)::r else (i,i,vu l m i)::(lo,hi,ch)::r
   | []=>[(i,i,vu l m i)]
def K6 (l m:Nat) (rs:List (Nat × Nat × Nat)) (i:Nat):Bool:=rs.any fun r=>Nat.ble r.1 i&&(Nat.ble i r.2.1&&Nat.beq r.2.2 (vu l m i))
def IF (f:Nat->Bool):Nat->Bool
 | 0=>true
 | n+1=>f n&&IF f n
theorem Co {f:Nat->Bool}:∀{n i:Nat},IF f n=true->i<n->f i=true
 | 0,i,_,h=>absurd h (by omega)
 | n+1,i,h,hi=>by
   have h:(f n&&IF f n)=true:=h
   rw [Bool.and_eq_true] at h
   by_cases e:i=n
   · subst e; exact h.1
   · exact Co h.2 (by omega)
def runK (e:LE) (s:SS) (K:SV->SS->R):List (Nat × Nat × Nat)->R
 | []=>.ok
 | r::rs=>(bif bq s ((LE.k (.ofNat r.1)).sub (e.aW 1))||bq s (e.aW (-(.ofNat r.2.1)-1)) then .ok else K (sc (.int .u8 (.k (.ofNat r.2.2)))) (aP (aP s (e.aW (-(.ofNat r.1)))) ((LE.k (.ofNat r.2.1)).sub e))).and (runK e s K rs)
def VH (cf:Cf) (o:Op) (t:TypeId) (x y:SV) (s:SS) (K:SV->SS->R):R:=match cf.P.underlying t,x,y with
 | some .string,.v false [.lD l m],.v false [.int kd e]=>bif bq s e&&(bq s (((LE.k (.ofNat l)).sub e).aW (-1))&&IF (K6 l m (Cn l m l)) l) then runK e s K (Cn l m l) else .bad 260 s
 | _,_,_=>ra cf o s K
section
variable {c:Cx} {T:Tm} {G:GH} {Γ:c8} {ρ ρ':bc} {s s':SS} {cf:Cf} {ops:Array Oper} {i d:Nat}
theorem wrap_u64 (n:Int):IntKind.u64.wrap n=n%18446744073709551616:=by
 simp [IntKind.wrap,IntKind.bits,IntKind.signed]
theorem wrap_u8 (n:Int):IntKind.u8.wrap n=n%256:=by
 simp [IntKind.wrap,IntKind.bits,IntKind.signed]
theorem ry {k:IntKind} {e:LE} (h:ue s k e=true) (hs:Sat ρ s):k.wrap (e.ev ρ)=e.ev ρ/\0<=e.ev ρ:=by
 unfold ue at h
 cases k<;>first | (cases h; done) | skip
 all_goals
  have h:=(Bool.and_eq_true _ _).mp h
  have h1:=ax h.1 hs
  have h2:=ax h.2 hs
  rw [LE.aw,LE.bp] at h2
 · refine⟨?_,h1⟩; rw [wrap_u8]; omega
 · refine⟨?_,h1⟩; rw [wrap_u64]; omega
theorem Cp (ρ:bc) (k:IntKind) (x n:Nat) (h:ρ x=.n n):(sc (.int k (.a (.n x)))).den ρ=.int k (n:Int):=by
 show AV.int k ((LE.a (.n x)).ev ρ)=_
 rw [LE.a9]; show AV.int k ((ρ x).nn:Int)=_; rw [h]; rfl
theorem aZ.VI {P:Program} {n0 nt:Nat} {hp:Tr AO} {nx:Pz} (hg:(ab ops i).guard=none) {t yt:TypeId} {x y:Operand} {a b:Int} (ho:(ab ops i).op=.binOp .and t x y yt) (hb:0<=b/\b<=18446744073709551615) (hx:ba nt T x (.int .u64 a)) (hy:ba nt T y (.int .u64 b)):∃r:Nat,(r:Int)<=b/\aZ P ops n0 nt i T hp nx G (.int .u64 r):=by
 obtain⟨q,rfl⟩:=Int.eq_ofNat_of_zero_le hb.1
 have hq:q<2 ^ 64:=by have:=hb.2; omega
 refine⟨(BitVec.ofInt 64 a &&& BitVec.ofNat 64 q).toNat,?_,bQ hg fun B w0 ι a' w hs=>?_⟩
 · have:(BitVec.ofInt 64 a &&& BitVec.ofNat 64 q).toNat<=q:=by
    rw [BitVec.toNat_and,BitVec.toNat_ofNat,Nat.mod_eq_of_lt hq]
    exact Nat.and_le_right
   omega
 · simp only [execOp,ho]
   rw [ba.at hx hs,ba.at hy hs]
   have e:(eqGuard .and t x y (aj ι (.int .u64 a)) (aj ι (.int .u64 (q:Int)))).run P w=.ok () w:=by simp [eqGuard]
   simp only [Sem.run_bind,e,Result.andThen_ok]
   simp only [aj,binOp,Op.intBits,Sem.run_pure]
   have hw:IntKind.u64.wrap ((BitVec.ofInt 64 a &&& BitVec.ofNat 64 q).toNat:Int)=((BitVec.ofInt 64 a &&& BitVec.ofNat 64 q).toNat:Int):=by
    rw [wrap_u64]
    have:=(BitVec.ofInt 64 a &&& BitVec.ofNat 64 q).isLt
    omega
   have e2:BitVec.ofInt IntKind.u64.bits (q:Int)=BitVec.ofNat 64 q:=by
    show BitVec.ofInt 64 (q:Int)=_
    rw [BitVec.ofInt_natCast]
   rw [e2]
   show Result.ok (Next.value (.int .u64 (IntKind.u64.wrap ((BitVec.ofInt 64 a &&& BitVec.ofNat 64 q).toNat:Int)))) w=_
   rw [hw]
theorem aZ.VJ {P:Program} {n0 nt:Nat} {hp:Tr AO} {nx:Pz} (hg:(ab ops i).guard=none) {t yt:TypeId} {x y:Operand} {k':IntKind} {a:Int} {n:Nat} (ho:(ab ops i).op=.binOp .shr t x y yt) (hn:n<=63) (ha:0<=a/\a<=18446744073709551615) (hx:ba nt T x (.int .u64 a)) (hy:ba nt T y (.int k' (.ofNat n))):aZ P ops n0 nt i T hp nx G (.int .u64 (a/2 ^ n)):=by
 refine bQ hg fun B w0 ι a' w hs=>?_
 simp only [execOp,ho]
 rw [ba.at hx hs,ba.at hy hs]
 have e:(eqGuard .shr t x y (aj ι (.int .u64 a)) (aj ι (.int k' (.ofNat n)))).run P w=.ok () w:=by simp [eqGuard]
 have hm:min n IntKind.u64.bits=n:=Nat.min_eq_left (by show n<=64; omega)
 have hneg:¬((n:Int)<0):=by omega
 simp only [Sem.run_bind,e,Result.andThen_ok]
 simp only [aj,binOp,Op.shift,Int.ofNat_eq_natCast,hneg,if_false,Int.toNat_natCast,hm,Sem.run_pure]
 rw [Int.fdiv_eq_ediv_of_nonneg _ (Int.le_of_lt (Int.pow_pos (by decide)))]
 simp
theorem aZ.VK {P:Program} {n0 nt:Nat} {hp:Tr AO} {nx:Pz} (hg:(ab ops i).guard=none) {t yt:TypeId} {x y:Operand} {k':IntKind} {p n:Nat} (ho:(ab ops i).op=.binOp .shl t x y yt) (hn:n<=63) (hf:p*2 ^ n<=18446744073709551615) (hx:ba nt T x (.int .u64 (.ofNat p))) (hy:ba nt T y (.int k' (.ofNat n))):aZ P ops n0 nt i T hp nx G (.int .u64 (.ofNat (p*2 ^ n))):=by
 refine bQ hg fun B w0 ι a' w hs=>?_
 simp only [execOp,ho]
 rw [ba.at hx hs,ba.at hy hs]
 have e:(eqGuard .shl t x y (aj ι (.int .u64 (.ofNat p))) (aj ι (.int k' (.ofNat n)))).run P w=.ok () w:=by simp [eqGuard]
 have hm:min n IntKind.u64.bits=n:=Nat.min_eq_left (by show n<=64; omega)
 have hneg:¬((n:Int)<0):=by omega
 have hw:IntKind.u64.wrap ((p:Int)*2 ^ n)=((p*2 ^ n:Nat):Int):=by
  rw [wrap_u64]
  have:((p:Int)*2 ^ n)=((p*2 ^ n:Nat):Int):=by simp
  rw [this]; omega
 simp only [Sem.run_bind,e,Result.andThen_ok]
 simp only [aj,binOp,Op.shift,Int.ofNat_eq_natCast,hneg,if_false,Int.toNat_natCast,hm,Sem.run_pure,hw]
 simp
theorem jl {k k':IntKind} (h:cD k k'=true):k=k':=of_decide_eq_true h
theorem Py {op:BinOp} {t yt:TypeId} {ox oy:Operand} {x y:SV} {K:SV->SS->R} {r:R} (ho:(ab ops i).op=.binOp op t ox oy yt) (hg:(ab ops i).guard=none) (hr:VF op x y s K=some r) (h:r.Ok) (hk:Ok c T G Γ ρ s) (hx:ba c.nt T ox (x.den ρ)) (hy:ba c.nt T oy (y.den ρ)):Lo c T G Γ ops i s ρ K:=by
 unfold VF at hr
 split at hr
 · rename_i k a k' b
   have hx:ba c.nt T ox (.int k (a.ev ρ)):=hx
   have hy:ba c.nt T oy (.int k' (b.ev ρ)):=hy
   split at hr
   · cases hb:(cD k k'&&(cD k .u64&&(ue s k b&&b.lt s.nx))) with
     | false=>rw [hb] at hr; cases hr
     | true =>
       rw [hb] at hr
       cases hr
       simp only [Bool.and_eq_true] at hb
       have e1:=jl hb.1
       have e2:=jl hb.2.1
       subst e1 e2
       obtain⟨f1,f2⟩:=ry hb.2.2.1 hk.sat
       have f3:b.ev ρ<=18446744073709551615:=by rw [wrap_u64] at f1; omega
       obtain⟨r,r1,r2⟩:=aZ.VI (P:=c.P) (n0:=c.n0) (hp:=.e) (nx:=z 0) (G:=G) hg ho ⟨f2,f3⟩ hx hy
       obtain⟨h1,h2,h3,h4⟩:=az h hk (.n r)
       refine fa.mk h2 (Nat.le_succ _) (h3.aP ?_) ⟨_,h1,?_⟩
       · rw [LE.aw,LE.bP h2 hb.2.2.2,LE.a9]; show 0<=b.ev ρ-((ρ.up s.nx (.n r) s.nx).nn:Int); rw [h4]; show 0<=b.ev ρ-(r:Int); omega
       · rw [Cp _ _ _ r h4]; exact r2
   · split at hr
     · rename_i n hc
       cases hb:(cD k .u64&&(Nat.ble n 63&&(ue s k a&&a.lt s.nx))) with
       | false=>rw [hb] at hr; cases hr
       | true =>
         rw [hb] at hr
         cases hr
         simp only [Bool.and_eq_true] at hb
         have e2:=jl hb.1
         subst e2
         have hn:=aL hb.2.1
         obtain⟨f1,f2⟩:=ry hb.2.2.1 hk.sat
         have f3:a.ev ρ<=18446744073709551615:=by rw [wrap_u64] at f1; omega
         rw [dA hc ρ] at hy
         have hl:=aZ.VJ (P:=c.P) (n0:=c.n0) (hp:=.e) (nx:=z 0) (G:=G) hg ho hn ⟨f2,f3⟩ hx hy
         have hpos:(0:Int)<2 ^ n:=Int.pow_pos (by decide)
         obtain⟨q,hq⟩:=Int.eq_ofNat_of_zero_le (Int.ediv_nonneg f2 (Int.le_of_lt hpos))
         obtain⟨h1,h2,h3,h4⟩:=az h hk (.n q)
         have ea:=LE.bP h2 hb.2.2.2
         have ex:(LE.a (.n s.nx)).ev (ρ.up s.nx (.n q))=q:=by rw [LE.a9]; show ((ρ.up s.nx (.n q) s.nx).nn:Int)=_; rw [h4]; rfl
         have e2:two n=2 ^ n:=by show ((2 ^ n:Nat):Int)=_; simp
         have d1:=Int.mul_ediv_add_emod (a.ev ρ) (2 ^ n)
         have d2:=Int.emod_nonneg (a.ev ρ) (Int.ne_of_gt hpos)
         have d3:=Int.emod_lt_of_pos (a.ev ρ) hpos
         rw [hq] at d1
         have k1:Ok c T G Γ (ρ.up s.nx (.n q)) (aP (aP (aC s) (a.sub ((LE.a (.n s.nx)).ji (two n)))) ((((LE.a (.n s.nx)).ji (two n)).aW (two n-1)).sub a)):=(h3.aP (by rw [LE.aw,LE.e9,ea,ex,e2]; omega)).aP (by rw [LE.aw,LE.aJ,LE.e9,ea,ex,e2]; omega)
         cases Pu:bq (aC s) ((LE.k (two (n+8)-1)).sub a) with
         | true =>
           rw [Pu] at h1
           have h5:=ax Pu h3.sat
           rw [LE.aw,LE.bp,ea] at h5
           have e3:two (n+8)=256*2 ^ n:=by show ((2 ^ (n+8):Nat):Int)=_; rw [Nat.pow_add]; simp [Int.mul_comm]
           rw [e3] at h5
           have h6:a.ev ρ/2 ^ n<256:=Int.ediv_lt_of_lt_mul hpos (by omega)
           rw [hq] at h6
           refine fa.mk h2 (Nat.le_succ _) (k1.aP (e:=(LE.k 255).sub (.a (.n s.nx))) ?_) ⟨_,h1,?_⟩
           · rw [LE.aw,LE.bp,ex]; omega
           · rw [Cp _ _ _ q h4,<-hq]; exact hl
         | false =>
           rw [Pu] at h1
           refine fa.mk h2 (Nat.le_succ _) k1 ⟨_,h1,?_⟩
           rw [Cp _ _ _ q h4,<-hq]; exact hl
     · cases hr
   · split at hr
     · rename_i p n hc1 hc2
       cases hb:(cD k .u64&&(Nat.ble n 63&&Nat.ble (Nat.mul p (Nat.pow 2 n)) 18446744073709551615)) with
       | false=>rw [hb] at hr; cases hr
       | true =>
         rw [hb] at hr
         cases hr
         simp only [Bool.and_eq_true] at hb
         have e2:=jl hb.1
         subst e2
         rw [dA hc1 ρ] at hx
         rw [dA hc2 ρ] at hy
         refine Lo.here hk h ?_
         show aZ _ _ _ _ _ _ _ _ _ (.int .u64 ((LE.k _).ev ρ))
         rw [LE.bp]
         exact aZ.VK hg ho (aL hb.2.1) (aL hb.2.2) hx hy
     · cases hr
   · split at hr
     · rename_i q hc
       cases hb:(cD k k'&&(eW k&&(!mh q&&(!kU q&&(bq s a&&(wQ s a&&(a.lt s.nx&&bq s (a.aW (-q))))))))) with
       | false=>rw [hb] at hr; cases hr
       | true =>
         rw [hb] at hr
         cases hr
         simp only [Bool.and_eq_true,Bool.not_eq_true'] at hb
         obtain⟨hb0,hb1,hb2,hbz,hb3,hb4,hb5,hb6⟩:=hb
         have e1:=jl hb0
         subst e1
         have:=dU hb1
         subst this
         have hq:=wG hbz
         rw [dA hc ρ] at hy
         obtain⟨r,hr1,_,hl⟩:=aZ.RB hg ho (.inl rfl) hq hx hy (P:=c.P) (n0:=c.n0) (hp:=.e) (nx:=z 0) (G:=G)
         have hr1:=hr1 rfl
         have hqp:=qc hb2
         have n9:=ax hb3 hk.sat
         have hge:=ax hb6 hk.sat
         rw [LE.aJ] at hge
         have hpos:0<q:=by omega
         have hd1:(a.ev ρ).tdiv q=a.ev ρ/q:=Int.tdiv_eq_ediv_of_nonneg n9
         have hd0:0<=a.ev ρ/q:=Int.ediv_nonneg n9 hqp
         have hd2:a.ev ρ/q<=a.ev ρ:=Int.ediv_le_self _ n9
         have hd3:1<=a.ev ρ/q:=Int.le_ediv_of_mul_le hpos (by omega)
         have hfa:=wR hb4 hk.sat
         have hfit:IntKind.i64.wrap (a.ev ρ/q)=a.ev ρ/q:=by
          rw [IntKind.wrap_i64] at hfa ⊢
          omega
         rw [hr1,hd1,hfit] at hl
         obtain⟨h1,h2,h3,h4⟩:=az h hk (.n (a.ev ρ/q).toNat)
         have hx1:(LE.a (.n s.nx)).ev (ρ.up s.nx (.n (a.ev ρ/q).toNat))=a.ev ρ/q:=by
          rw [LE.a9]; show ((ρ.up s.nx (.n (a.ev ρ/q).toNat) s.nx).nn:Int)=_
          rw [h4]; show (((a.ev ρ/q).toNat:Nat):Int)=_; omega
         have hae:=LE.bP h2 hb5
         have e1:=Int.mul_ediv_add_emod (a.ev ρ) q
         have e2:=Int.emod_nonneg (a.ev ρ) hq
         have e3:=Int.emod_lt_of_pos (a.ev ρ) hpos
         refine fa.mk h2 (Nat.le_succ _) (((h3.aP ?_).aP ?_).aP ?_) ⟨_,h1,?_⟩
         · rw [LE.aw,LE.e9,hae,hx1]; omega
         · rw [LE.aw,LE.aJ,LE.e9,hae,hx1]; omega
         · rw [LE.aJ,hx1]; omega
         · rw [Cp _ _ _ _ h4]
           have:(((a.ev ρ/q).toNat:Nat):Int)=a.ev ρ/q:=by omega
           rw [this]; exact hl
     · cases hr
   · cases hb:(cD k k'&&(mX op&&!lu op)) with
     | false=>rw [hb] at hr; cases hr
     | true =>
       rw [hb] at hr
       simp only [cond_true] at hr
       simp only [Bool.and_eq_true] at hb
       have e1:=jl hb.1
       subst e1
       split at hr
       · rename_i e he
         cases hb2:ue s k e with
         | false=>rw [hb2] at hr; cases hr
         | true =>
           rw [hb2] at hr
           cases hr
           obtain⟨f1,f2⟩:=ry hb2 hk.sat
           refine Lo.here hk h ?_
           show aZ _ _ _ _ _ _ _ _ _ (.int k (e.ev ρ))
           rw [<-f1,H4 he ρ]
           exact aZ.XC hg ho hb.2.1 hx hy
       · cases hr
 · cases hr
theorem aZ.VL {P:Program} {n0 nt:Nat} {hp:Tr AO} {nx:Pz} (hg:(ab ops i).guard=none) {t yt:TypeId} {x y:Operand} {a b:List AV} {r:Bool} {op:BinOp} (ho:(ab ops i).op=.binOp op t x y yt) (cn:op=.eql∨op=.neq) (hgt:ow P op t=true) (he:tV P 9 t (.agg a) (.agg b) r) (hx:ba nt T x (.agg a)) (hy:ba nt T y (.agg b)):∃q,aZ P ops n0 nt i T hp nx G (.bool q):=by
 have side:∀ι,binOp .eql t (aj ι (.agg a)) (aj ι (.agg b))=(do pure (.bool (<-Op.equal t (aj ι (.agg a)) (aj ι (.agg b)))))/\binOp .neq t (aj ι (.agg a)) (aj ι (.agg b))=(do pure (.bool (!(<-Op.equal t (aj ι (.agg a)) (aj ι (.agg b)))))):=fun ι =>
  oQ (P:=P) (fun _ _ _ _ h=>by simp [aj] at h) (fun _ _ _ _ h=>by simp [aj] at h) (fun _ _ _ _ _ _ h=>by simp [aj] at h) (fun _ _ h=>by simp [aj] at h)
 have hge:P.eqGuardType P.depth t=false:=by
  rcases cn with rfl | rfl
  · simpa [ow,isEq] using hgt
  · simpa [ow,isEq] using hgt
 rcases cn with rfl | rfl
 · refine⟨r,bQ hg fun B w0 ι a' w hs=>?_⟩
   simp only [execOp,ho]
   rw [ba.at hx hs,ba.at hy hs]
   have e:(eqGuard .eql t x y (aj ι (.agg a)) (aj ι (.agg b))).run P w=.ok () w:=by simp [eqGuard,aj,hge]
   simp only [Sem.run_bind,e,Result.andThen_ok]
   rw [(side ι).1]
   have hq:=hX he ι w
   simp only [aj] at hq
   simp only [Sem.run_bind,Sem.run_pure,aj,hq,Result.andThen_ok]
 · refine⟨!r,bQ hg fun B w0 ι a' w hs=>?_⟩
   simp only [execOp,ho]
   rw [ba.at hx hs,ba.at hy hs]
   have e:(eqGuard .neq t x y (aj ι (.agg a)) (aj ι (.agg b))).run P w=.ok () w:=by simp [eqGuard,aj,hge]
   simp only [Sem.run_bind,e,Result.andThen_ok]
   rw [(side ι).2]
   have hq:=hX he ι w
   simp only [aj] at hq
   simp only [Sem.run_bind,Sem.run_pure,aj,hq,Result.andThen_ok]
theorem PA {op:BinOp} {t yt:TypeId} {ox oy:Operand} {x y:SV} {K:SV->SS->R} {r:R} (ho:(ab ops i).op=.binOp op t ox oy yt) (hg:(ab ops i).guard=none) (hP:cf.P=c.P) (hK:eo cf) (hr:VE cf op t x y s K=some r) (h:r.Ok) (hk:Ok c T G Γ ρ s) (hx:ba c.nt T ox (x.den ρ)) (hy:ba c.nt T oy (y.den ρ)):Lo c T G Γ ops i s ρ K:=by
 unfold VE at hr
 cases hb:(ow cf.P op t&&(gK cf t .u9&&(fq .u9 x&&fq .u9 y))) with
 | false=>rw [hb] at hr; cases hr
 | true =>
   rw [hb] at hr
   simp only [cond_true] at hr
   simp only [Bool.and_eq_true] at hb
   obtain⟨hq,hb⟩:=hb
   rw [hP] at hq
   have hM:=ib hb.1 hK
   rw [hP] at hM
   obtain⟨l,n,z,p,e1⟩:=fg hb.2.1 ρ
   obtain⟨l',n',z',p',e2⟩:=fg hb.2.2 ρ
   rw [e1] at hx
   rw [e2] at hy
   have he:=hM.eq _ _ ⟨l,n,z,p,rfl⟩ ⟨l',n',z',p',rfl⟩
   have fin:(op=.eql∨op=.neq)->(fresh s fun x s=>K (sc (.bool (.v x))) s).Ok->Lo c T G Γ ops i s ρ K:=fun cn h=>by
    obtain⟨q,hq⟩:=aZ.VL (n0:=c.n0) (hp:=.e) (nx:=aQ.z 0) (G:=G) hg ho cn hq he hx hy
    obtain⟨h1,h2,h3,h4⟩:=az h hk (.b q)
    refine Lo.fr h3 h1 ?_
    show aZ _ _ _ _ _ _ _ _ _ (.bool (ρ.up s.nx (.b q) s.nx).bb)
    rw [h4]; exact hq
   split at hr
   · cases hr; exact fin (.inl rfl) h
   · cases hr; exact fin (.inr rfl) h
   · cases hr
theorem PB {op:BinOp} {t yt:TypeId} {ox oy:Operand} {x y:SV} {K:SV->SS->R} (ho:(ab ops i).op=.binOp op t ox oy yt) (hg:(ab ops i).guard=none) (hP:cf.P=c.P) (hΦ:cf.Φ=c.Φ) (hK:eo cf) (h:(VG cf (ab ops i).op op t x y s K).Ok) (hk:Ok c T G Γ ρ s) (hx:ba c.nt T ox (x.den ρ)) (hy:ba c.nt T oy (y.den ρ)):Lo c T G Γ ops i s ρ K:=by
 unfold VG at h
 split at h
 · rename_i r hr; exact Py ho hg hr h hk hx hy
 · split at h
   · rename_i r hr; exact PA ho hg hP hK hr h hk hx hy
   · exact jB hg hP hΦ hK h hk
theorem PC {t t':TypeId} {ox:Operand} {x:SV} {K:SV->SS->R} (ho:(ab ops i).op=.convert t t' ox) (hg:(ab ops i).guard=none) (hP:cf.P=c.P) (hΦ:cf.Φ=c.Φ) (hK:eo cf) (h:(Mg cf (ab ops i).op t t' x s K).Ok) (hk:Ok c T G Γ ρ s) (hx:ba c.nt T ox (x.den ρ)):Lo c T G Γ ops i s ρ K:=by
 unfold Mg at h
 split at h
 · rename_i ks kt k e hu hu'
   cases hb:(cD k ks&&ue s kt e) with
   | false=>rw [hb] at h; exact jB hg hP hΦ hK h hk
   | true =>
     rw [hb] at h
     rw [Bool.and_eq_true] at hb
     have e1:=jl hb.1
     subst e1
     obtain⟨f1,f2⟩:=ry hb.2 hk.sat
     rw [hP] at hu hu'
     refine Lo.here hk h ?_
     show aZ _ _ _ _ _ _ _ _ _ (.int kt (e.ev ρ))
     rw [<-f1]
     exact aZ.Mt hg ho hu hu' hx
 · exact jB hg hP hΦ hK h hk
theorem Cq {e:LE} {K:SV->SS->R} {l m:Nat} (hk:Ok c T G Γ ρ s) (he:0<=e.ev ρ) (hl:aZ c.P ops c.n0 c.nt i T .e (z 0) G (.int .u8 (.ofNat (vu l m (e.ev ρ).toNat)))):∀{rs:List (Nat × Nat × Nat)},K6 l m rs (e.ev ρ).toNat=true->(runK e s K rs).Ok->Lo c T G Γ ops i s ρ K
 | [],h,_=>by cases h
 | r::rs,h,hK=>by
   obtain⟨h1,h2⟩:=R.fV (show ((bif bq s ((LE.k (.ofNat r.1)).sub (e.aW 1))||bq s (e.aW (-(.ofNat r.2.1)-1)) then R.ok else K (sc (.int .u8 (.k (.ofNat r.2.2)))) (aP (aP s (e.aW (-(.ofNat r.1)))) ((LE.k (.ofNat r.2.1)).sub e))).and (runK e s K rs)).Ok from hK)
   have h:((Nat.ble r.1 (e.ev ρ).toNat&&(Nat.ble (e.ev ρ).toNat r.2.1&&Nat.beq r.2.2 (vu l m (e.ev ρ).toNat)))||K6 l m rs (e.ev ρ).toNat)=true:=h
   rw [Bool.or_eq_true] at h
   rcases h with h | h
   · simp only [Bool.and_eq_true] at h
     have b1:=aL h.1
     have b2:=aL h.2.1
     have b3:=ai h.2.2
     cases hb:(bq s ((LE.k (.ofNat r.1)).sub (e.aW 1))||bq s (e.aW (-(.ofNat r.2.1)-1))) with
     | true =>
       rw [Bool.or_eq_true] at hb
       rcases hb with hb | hb
       · have:=ax hb hk.sat
         rw [LE.aw,LE.bp,LE.aJ] at this
         simp only [Int.ofNat_eq_natCast] at this
         omega
       · have:=ax hb hk.sat
         rw [LE.aJ] at this
         simp only [Int.ofNat_eq_natCast] at this
         omega
     | false =>
       rw [hb] at h1
       simp only [cond_false] at h1
       refine⟨ρ,aP (aP s (e.aW (-(.ofNat r.1)))) ((LE.k (.ofNat r.2.1)).sub e),de.refl _ _,Nat.le_refl _,(hk.aP ?_).aP ?_,_,h1,?_⟩
       · rw [LE.aJ]; simp only [Int.ofNat_eq_natCast]; omega
       · rw [LE.aw,LE.bp]; simp only [Int.ofNat_eq_natCast]; omega
       · show aZ _ _ _ _ _ _ _ _ _ (.int .u8 ((LE.k _).ev ρ))
         rw [LE.bp,b3]; exact hl
   · exact Cq hk he hl h h2
theorem PD {t:TypeId} {ox oy:Operand} {x y:SV} {K:SV->SS->R} (ho:(ab ops i).op=.index t ox oy) (hg:(ab ops i).guard=none) (hP:cf.P=c.P) (hΦ:cf.Φ=c.Φ) (hK:eo cf) (h:(VH cf (ab ops i).op t x y s K).Ok) (hk:Ok c T G Γ ρ s) (hx:ba c.nt T ox (x.den ρ)) (hy:ba c.nt T oy (y.den ρ)):Lo c T G Γ ops i s ρ K:=by
 unfold VH at h
 split at h
 · rename_i l m kd e hu
   rw [hP] at hu
   cases hb:(bq s e&&(bq s (((LE.k (.ofNat l)).sub e).aW (-1))&&IF (K6 l m (Cn l m l)) l)) with
   | false=>rw [hb] at h; cases h
   | true =>
     rw [hb] at h
     simp only [Bool.and_eq_true] at hb
     have k1:=ax hb.1 hk.sat
     have k2:=ax hb.2.1 hk.sat
     rw [LE.aJ,LE.aw,LE.bp] at k2
     simp only [Int.ofNat_eq_natCast] at k2
     have hlt:(e.ev ρ).toNat<l:=by omega
     have hy:ba c.nt T oy (.int kd (.ofNat (e.ev ρ).toNat)):=by
      have:(SV.v false [.int kd e]).den ρ=.int kd (.ofNat (e.ev ρ).toNat):=by show AV.int kd (e.ev ρ)=_; congr 1; exact (Int.toNat_of_nonneg k1).symm
      rw [<-this]; exact hy
     exact Cq hk k1 (aZ.HH hg ho hu hx hy hlt) (Co hb.2.2 hlt) h
 · exact jB hg hP hΦ hK h hk
end
end Go.Rd
namespace Go.Rd
open Go.aQ Go.RowKit Go.Rt
def Ac (c:Cx) (T:Tm) (G:GH) (Γ:c8) (s:SS) (ρ:bc) (K:SS->R):Prop :=
 ∃G' Γ' ρ' s',vp G G'/\(K s').Ok/\de s.nx ρ ρ'/\s.nx<=s'.nx/\Ok c T G' Γ' ρ' s'
def qT (s:SS) (d d':Nat):List (Nat × SC × LE):=(s.ats.filter fun p=>Nat.beq p.1 d).map fun p=>(d',p.2.1,p.2.2)
def VM:List (Nat × LE)->Nat->Option LE
 | [],_=>none
 | p::l,k=>bif Nat.beq p.1 k then some p.2 else VM l k
def Ek (s:SS) (dv:Nat):List (Nat × LE)->SS
 | []=>s
 | p::l=>m8 (Ek s dv l) (.a (.gn dv p.1)) p.2
def El (s:SS) (ns:List (Nat × LE)):Bool:=ns.all fun p=>bq s p.2&&p.2.lt s.nx
def UD (ρ:bc) (ns:List (Nat × LE)) (k:Nat):Nat:=match VM ns k with | some e=>(e.ev ρ).toNat | none=>0
def MH:List (Nat × LE)->Bool
 | []=>true
 | p::l=>(l.all fun q=>!Nat.beq q.1 p.1)&&MH l
def Cr (s:SS) (p:Nat × Nat × Bool) (sb:Nat × Nat):SS:=⟨s.nx,s.L,s.os,s.ty,p::s.gs,s.fs,s.bs,s.pw,s.ats,s.c9,s.ne,s.fz,sb::s.sb⟩
def IG (ns:List (Nat × LE)) (sub:Nat) (s:SS) (K:SS->R):R:=bif El s ns&&(MH ns&&bR s.nx sub) then
    fresh s fun y s=>fresh s fun dv s=>K (Ek (Cr s (y+1,dv,true) (dv,sub)) dv ns)
 else .bad 230 s
def A3 (ns:List (Nat × LE)) (sub b k:Nat) (s:SS) (K:SS->R):R:=bif El s ns&&(MH ns&&(bR s.nx sub&&Nat.blt b s.nx)) then
    (match pD (fun o=>match o with | .em y pk=>Nat.beq y b&&KF pk .str | _=>false) s.os with
     | some (_,osA)=>bif osA.all (SO.lt s.nx) then fresh s fun y s=>fresh s fun dv s=>K (Ek (Cr (dV s (osA++[.am b (y+1) k])) (y+1,dv,true) (dv,sub)) dv ns) else .bad 231 s
     | none=>.bad 232 s)
 else .bad 233 s
def A4 (g k:Nat) (e:LE) (s:SS) (K:SS->R):R:=match kZ s.gs g with
 | some d=>bif bq s (e.sub (.a (.gn d k)))&&(e.lt s.nx&&(Nat.blt d s.nx&&bR s.nx g)) then
   fresh s fun d' s'=>K (m8 (Eh (tr s' g d' true s.os (qT s d d') [] [] (np s.sb d d')) d d' ([0,1,2,3,4,5].filter fun j=>!Nat.beq j k)) (.a (.gn d' k)) e)
   else .bad 234 s
 | none=>.bad 235 s
def IH (g:Nat) (s:SS) (K:SS->R):R:=match kZ s.gs g with
 | some d=>bif Nat.blt d s.nx&&bR s.nx g then
   fresh s fun d' s'=>K (Eh (tr s' g d' false s.os (qT s d d') [] [d'] (np s.sb d d')) d d' [0,1,2,3,4,5])
   else .bad 236 s
 | none=>.bad 237 s
section
variable {c:Cx} {T:Tm} {G:GH} {Γ:c8} {ρ ρ':bc} {s s':SS} {cf:Cf} {ops:Array Oper} {i d:Nat}
theorem xe {dv:Nat}:∀{ns:List (Nat × LE)},Ok c T G Γ ρ s->(∀p∈ns,(((ρ dv).gg.n p.1:Nat):Int)=p.2.ev ρ)->Ok c T G Γ ρ (Ek s dv ns)
 | [],h,_=>h
 | p::l,h,hn=>(xe (ns:=l) h fun q hq=>hn q (List.mem_cons_of_mem _ hq)).m8 (by rw [LE.a9]; exact hn p (List.mem_cons_self ..))
theorem II (ρ:bc):∀{ns:List (Nat × LE)},MH ns=true->∀p∈ns,UD ρ ns p.1=(p.2.ev ρ).toNat
 | [],_,p,h=>by cases h
 | q::l,hu,p,h=>by
   have hu:((l.all fun x=>!Nat.beq x.1 q.1)&&MH l)=true:=hu
   rw [Bool.and_eq_true] at hu
   unfold UD
   show (match (bif Nat.beq q.1 p.1 then some q.2 else VM l p.1) with | some e=>(e.ev ρ).toNat | none=>0)=_
   rcases List.mem_cons.1 h with rfl | h
   · rw [Nat.beq_refl]; rfl
   · have hne:Nat.beq p.1 q.1=false:=by
      have:=List.all_eq_true.1 hu.1 p h
      rw [Bool.not_eq_true'] at this; exact this
     have hne2:Nat.beq q.1 p.1=false:=by
      cases hb:Nat.beq q.1 p.1 with
      | false=>rfl
      | true=>have:=ai hb; rw [this,Nat.beq_refl] at hne; cases hne
     rw [hne2]
     exact II ρ hu.2 p h
theorem PE {K:Nat->Nat->SS->R} (h:((fresh s fun y s=>fresh s fun dv s=>K y dv s)).Ok) (hk:Ok c T G Γ ρ s) (u v:U):∃ρ',(K s.nx (s.nx+1) (aC (aC s))).Ok/\de s.nx ρ ρ'/\Ok c T G Γ ρ' (aC (aC s))/\ρ' s.nx=u/\ρ' (s.nx+1)=v:=by
 obtain⟨h1,h2,h3,h4⟩:=az h hk u
 obtain⟨k1,k2,k3,k4⟩:=az h1 h3 v
 refine⟨_,k1,h2.trans k2 (Nat.le_succ _),k3,?_,k4⟩
 rw [k2 s.nx (Nat.lt_succ_self _)]; exact h4
theorem K7 {ns:List (Nat × LE)} (h:El s ns=true) (hs:Sat ρ s):∀p∈ns,0<=p.2.ev ρ/\p.2.lt s.nx=true:=fun p hp=>by
 have:=List.all_eq_true.1 h p hp
 rw [Bool.and_eq_true] at this
 exact⟨ax this.1 hs,this.2⟩
theorem zj {ns:List (Nat × LE)} {sub:Nat} {os:List SO} {K:Nat->Nat->SS->R} (hns:El s ns=true) (hu:MH ns=true) (hsub:bR s.nx sub=true) (h:((fresh s fun y s=>fresh s fun dv s=>K y dv s)).Ok) (hk:Ok c T G Γ ρ s) :
  ∃ρ' dn,(K s.nx (s.nx+1) (aC (aC s))).Ok/\de s.nx ρ ρ'/\(ρ' s.nx).nn=Γ.ng/\(ρ' (s.nx+1)).gg=dn/\dn.at_=(fun _ _=>none)/\dn.fz=false/\(∀p∈ns,(((ρ' (s.nx+1)).gg.n p.1:Nat):Int)=p.2.ev ρ')/\(ρ' (s.nx+1)).gg.sub=ig ρ' sub/\Sat ρ' (aC (aC s))/\(aC (aC s)).den ρ'=s.den ρ/\Q c T G (gI Γ Γ.ng dn (Γ.ng+1)) ⟨(s.den ρ).L,(s.den ρ).os,(s.den ρ).dL,(Γ.ng,dn,true)::(s.den ρ).gs⟩:=by
 let dn:Gd:=⟨UD ρ ns,fun _ _=>none,fun _=>0,false,ig ρ sub⟩
 obtain⟨ρ',k1,k2,k3,k4,k5⟩:=PE h hk (.n Γ.ng) (.g dn)
 have hs:=dh h
 refine⟨ρ',dn,k1,k2,by rw [k4]; rfl,by rw [k5]; rfl,rfl,rfl,fun p hp=>?_,?_,k3.sat,?_,hk.q.Vt dn true fun _=>rfl⟩
 · obtain⟨e1,e2⟩:=K7 hns hk.sat p hp
   rw [k5,LE.bP k2 e2]
   show ((UD ρ ns p.1:Nat):Int)=_
   rw [II ρ hu p hp]; omega
 · rw [k5,bV k2 hsub]; rfl
 · exact (SS.bP hs k2).1
theorem IJ {ns:List (Nat × LE)} {sub:Nat} {K:SS->R} (h:(IG ns sub s K).Ok) (hk:Ok c T G Γ ρ s):Ac c T G Γ s ρ K:=by
 unfold IG at h
 cases hb:(El s ns&&(MH ns&&bR s.nx sub)) with
 | false=>rw [hb] at h; cases h
 | true =>
   rw [hb] at h
   simp only [cond_true] at h
   simp only [Bool.and_eq_true] at hb
   obtain⟨ρ',dn,k1,k2,k3,k4,_,k6,k7,k8,k9,JE,RR⟩:=zj (os:=[]) hb.1 hb.2.1 hb.2.2 h hk
   refine⟨G,gI Γ Γ.ng dn (Γ.ng+1),ρ',_,vp.refl _,k1,k2,?_,xe ⟨⟨k9.fs,k9.bs,k9.pw,k9.ats,k9.c9,k9.ne,k9.fz,fun p hp=>?_⟩,?_⟩ k7⟩
   · have:∀(s0:SS) (dv:Nat) (l:List (Nat × LE)),(Ek s0 dv l).nx=s0.nx:=fun s0 dv l=>by
      induction l with
      | nil=>rfl
      | cons p l ih=>exact ih
     rw [this]; show s.nx<=s.nx+1+1; omega
   · rcases List.mem_cons.1 hp with rfl | hp
     · exact k8
     · exact k9.sb p hp
   · have:(Cr (aC (aC s)) (s.nx+1,s.nx+1,true) (s.nx+1,sub)).den ρ'=⟨(s.den ρ).L,(s.den ρ).os,(s.den ρ).dL,(Γ.ng,dn,true)::(s.den ρ).gs⟩:=by
      refine St.ext' (by have:=congrArg St.L JE; exact this) (by have:=congrArg St.os JE; exact this) (by have:=congrArg St.dL JE; exact this) ?_
      show ((ρ' s.nx).nn,(ρ' (s.nx+1)).gg,true)::_=_
      rw [k3,k4]
      congr 1
      have:=congrArg St.gs JE; exact this
     rw [this]; exact RR
theorem K8 (s0:SS) (dv:Nat) (l:List (Nat × LE)):(Ek s0 dv l).nx=s0.nx:=by
 induction l with
 | nil=>rfl
 | cons p l ih=>exact ih
theorem A5 (s0:SS) (d dv:Nat) (l:List Nat):(Eh s0 d dv l).nx=s0.nx:=by
 induction l with
 | nil=>rfl
 | cons p l ih=>exact ih
theorem Em {ns:List (Nat × LE)} {sub b k:Nat} {K:SS->R} (h:(A3 ns sub b k s K).Ok) (hk:Ok c T G Γ ρ s):Ac c T G Γ s ρ K:=by
 unfold A3 at h
 cases hb:(El s ns&&(MH ns&&(bR s.nx sub&&Nat.blt b s.nx))) with
 | false=>rw [hb] at h; cases h
 | true =>
   rw [hb] at h
   simp only [cond_true] at h
   simp only [Bool.and_eq_true] at hb
   split at h
   · rename_i o osA hr
     cases hb2:osA.all (SO.lt s.nx) with
     | false=>rw [hb2] at h; cases h
     | true =>
       rw [hb2] at h
       simp only [cond_true] at h
       obtain⟨r1,r2⟩:=fQ hr
       obtain⟨pk,rfl,hpk⟩:∃pk,o=.em b pk/\pk=.str:=by
        cases o<;>first | (cases r1; done) | skip
        rename_i y pk
        have r1:(Nat.beq y b&&KF pk .str)=true:=r1
        rw [Bool.and_eq_true] at r1
        have:=ai r1.1
        have:=s5 r1.2
        subst_vars
        exact⟨_,rfl,rfl⟩
       subst hpk
       obtain⟨ρ',dn,k1,k2,k3,k4,k5,k6,k7,k8,k9,JE,RR⟩:=zj (os:=[]) hb.1 hb.2.1 hb.2.2.1 h hk
       have hpd:=dW r2 ρ
       rw [List.map_append,List.map_singleton] at hpd
       obtain⟨o1,o2,o3⟩:=hk.own (r2.mem_iff.2 (by simp:SO.em b .str∈osA++[.em b .str]))
       have hgd:(gI Γ Γ.ng dn (Γ.ng+1)).gd Γ.ng=dn:=fh _ _ _ _
       have hQ:=RR.conv (osA:=osA.map (SO.den ρ)) (o':=.am (ρ b).nn Γ.ng k) hpd rfl ⟨o2,Nat.lt_succ_self _,by rw [hgd,k5]; exact fun l n j hj=>(by cases hj),[],o1,fun p hp=>(by cases hp),by rw [hgd,k5]; exact fun l n=>rfl⟩
       have eO:osA.map (SO.den ρ')=osA.map (SO.den ρ):=List.map_congr_left fun o ho=>SO.bP k2 (List.all_eq_true.1 hb2 o ho)
       refine⟨G,gI Γ Γ.ng dn (Γ.ng+1),ρ',_,vp.refl _,k1,k2,?_,xe ⟨⟨k9.fs,k9.bs,k9.pw,k9.ats,k9.c9,k9.ne,k9.fz,fun p hp=>?_⟩,?_⟩ k7⟩
       · rw [K8]; show s.nx<=s.nx+1+1; omega
       · rcases List.mem_cons.1 hp with rfl | hp
         · exact k8
         · exact k9.sb p hp
       · have:(Cr (dV (aC (aC s)) (osA++[.am b (s.nx+1) k])) (s.nx+1,s.nx+1,true) (s.nx+1,sub)).den ρ'=⟨(s.den ρ).L,osA.map (SO.den ρ)++[.am (ρ b).nn Γ.ng k],(s.den ρ).dL,(Γ.ng,dn,true)::(s.den ρ).gs⟩:=by
          refine St.ext' (by have:=congrArg St.L JE; exact this) ?_ (by have:=congrArg St.dL JE; exact this) ?_
          · show (osA++[SO.am b (s.nx+1) k]).map (SO.den ρ')=_
            rw [List.map_append,eO,List.map_singleton]
            show _++[Own.am (ρ' b).nn (ρ' s.nx).nn k]=_
            rw [k3,k2 b (au hb.2.2.2)]
          · show ((ρ' s.nx).nn,(ρ' (s.nx+1)).gg,true)::_=_
            rw [k3,k4]
            congr 1
            have:=congrArg St.gs JE; exact this
         rw [this]; exact hQ
   · cases h
theorem qq {g dd:Nat} {dn:Gd} {w:Bool} {K2:Nat->SS->R} (hgw:kZ s.gs g=some dd) (hle:(ρ dd).gg.Le dn) (hw:w=true->dn.fz=false) (hat:dn.at_=(ρ dd).gg.at_) (hd:Nat.blt dd s.nx=true) (hg:bR s.nx g=true) (h:(fresh s K2).Ok) (hk:Ok c T G Γ ρ s) :
  ∃ρ',(K2 s.nx (aC s)).Ok/\de s.nx ρ ρ'/\(ρ' s.nx).gg=dn/\Sat ρ' (aC s)/\∀c9 fz,(∀p∈c9,0<=p.2.1.ev ρ'/\(ρ' p.1).gg.fz=true/\(((ρ' p.1).gg.fl (p.2.1.ev ρ').toNat:Nat):Int)=p.2.2.ev ρ')->(∀d∈fz,(ρ' d).gg.fz=true)->Ok c T G (gI Γ (ig ρ g) dn Γ.ng) ρ' (tr (aC s) g s.nx w s.os (qT s dd s.nx) c9 fz (np s.sb dd s.nx)):=by
 obtain⟨p1,p2,p3,p4⟩:=az h hk (.g dn)
 have hgg:(ρ.up s.nx (.g dn) s.nx).gg=dn:=by rw [p4]; rfl
 have eD:=(SS.bP (dh h) p2).1
 have hdd:=p2 dd (au hd)
 have hmemg:=fX hgw
 obtain⟨g1,g2,g3⟩:=hk.q.gs (ig ρ g,(ρ dd).gg,true) (List.mem_map.2 ⟨(g,dd,true),hmemg,rfl⟩)
 have g2:Γ.gd (ig ρ g)=(ρ dd).gg:=g2
 obtain⟨g3,g4,g5⟩:=g3 rfl
 have g4:(ρ dd).gg.fz=false:=g4
 refine⟨_,p1,p2,hgg,p3.sat,fun c9 fz hfls hfz=>⟨⟨p3.sat.fs,p3.sat.bs,p3.sat.pw,fun p hp=>?_,fun p hp=>?_,p3.sat.ne,fun d hd=>?_,fun p hp=>?_⟩,?_⟩⟩
 · rcases List.mem_append.1 hp with hp | hp
   · obtain⟨q,h1,rfl⟩:=List.mem_map.1 hp
     obtain⟨h2,h3⟩:=List.mem_filter.1 h1
     have e:=ai h3
     have:=p3.sat.ats q h2
     unfold OA zH at this ⊢
     simp only [e,hdd] at this
     simp only [hgg,hat]
     exact this
   · exact p3.sat.ats p hp
 · rcases List.mem_append.1 hp with hp | hp
   · exact hfls p hp
   · exact p3.sat.c9 p hp
 · rcases List.mem_append.1 hd with hd | hd
   · exact hfz d hd
   · exact p3.sat.fz d hd
 · rcases List.mem_append.1 hp with hp | hp
   · exact rv (dd:=dd) (dn:=s.nx) (by rw [hgg,hdd]; exact hle.sub) p3.sat.sb p hp
   · exact p3.sat.sb p hp
 · have hQ:=hk.q.Ix (g:=ig ρ g) (d0:=(ρ dd).gg) (dn:=dn) (w:=w) (gs':=(ig ρ g,dn,w)::(la s).map fun p=>(ig ρ p.1,(ρ p.2.1).gg,p.2.2)) (List.mem_map.2 ⟨(g,dd,true),hmemg,rfl⟩) hle hw (fun _ _ _ _=>hat) (fun p hp=>by
    rcases List.mem_cons.1 hp with rfl | hp
    · exact .inl rfl
    · obtain⟨p0,h1,rfl⟩:=List.mem_map.1 hp
      obtain⟨k1,k2⟩:=qp (g:=ig ρ g) hk h1 (by rw [g2]; exact g4)
      exact .inr ⟨List.mem_map.2 ⟨p0,k1,rfl⟩,k2⟩)
   have:(tr (aC s) g s.nx w s.os (qT s dd s.nx) c9 fz (np s.sb dd s.nx)).den (ρ.up s.nx (.g dn))=⟨(s.den ρ).L,(s.den ρ).os,(s.den ρ).dL,(ig ρ g,dn,w)::(la s).map fun p=>(ig ρ p.1,(ρ p.2.1).gg,p.2.2)⟩:=by
    refine St.ext' (by have:=congrArg St.L eD; exact this) (by have:=congrArg St.os eD; exact this) (by have:=congrArg St.dL eD; exact this) ?_
    show (ig (ρ.up s.nx (.g dn)) g,(ρ.up s.nx (.g dn) s.nx).gg,w)::(la s).map (fun p=>(ig (ρ.up s.nx (.g dn)) p.1,(ρ.up s.nx (.g dn) p.2.1).gg,p.2.2))=_
    rw [hgg,bV p2 hg]
    congr 1
    refine List.map_congr_left fun p hp=>?_
    have hs:=dh h
    unfold SS.ok at hs
    simp only [Bool.and_eq_true,List.all_eq_true] at hs
    have:=hs.2.2.2.1 p (List.mem_filter.1 hp).1
    rw [bV p2 this.1,p2 _ (au this.2)]
   rw [this]
   exact hQ
theorem Eo {g k:Nat} {e:LE} {K:SS->R} (h:(A4 g k e s K).Ok) (hk:Ok c T G Γ ρ s):Ac c T G Γ s ρ K:=by
 unfold A4 at h
 split at h
 · rename_i dd hgw
   cases hb:(bq s (e.sub (.a (.gn dd k)))&&(e.lt s.nx&&(Nat.blt dd s.nx&&bR s.nx g))) with
   | false=>rw [hb] at h; cases h
   | true =>
     rw [hb] at h
     simp only [cond_true] at h
     simp only [Bool.and_eq_true] at hb
     obtain⟨b1,b2,b3,b4⟩:=hb
     have e1:=ax b1 hk.sat
     rw [LE.aw,LE.a9] at e1
     have e1:0<=e.ev ρ-(((ρ dd).gg.n k:Nat):Int):=e1
     have hfz:(ρ dd).gg.fz=false:=by
      obtain⟨_,_,g3⟩:=hk.q.gs (ig ρ g,(ρ dd).gg,true) (List.mem_map.2 ⟨(g,dd,true),fX hgw,rfl⟩)
      exact (g3 rfl).2.1
     have hle:(ρ dd).gg.Le ⟨fun j=>bif Nat.beq j k then (e.ev ρ).toNat else (ρ dd).gg.n j,(ρ dd).gg.at_,(ρ dd).gg.fl,(ρ dd).gg.fz,(ρ dd).gg.sub⟩:=by
      refine⟨fun j=>?_,fun _ _ _ h=>h,fun h=>?_,rfl⟩
      · show (ρ dd).gg.n j<=bif Nat.beq j k then _ else _
        cases hj:Nat.beq j k with
        | true=>have:=ai hj; subst this; show _<=(e.ev ρ).toNat; omega
        | false=>exact Nat.le_refl _
      · rw [hfz] at h; cases h
     obtain⟨ρ',p1,p2,p3,p4,p5⟩:=qq (dn:=⟨fun j=>bif Nat.beq j k then (e.ev ρ).toNat else (ρ dd).gg.n j,(ρ dd).gg.at_,(ρ dd).gg.fl,(ρ dd).gg.fz,(ρ dd).gg.sub⟩) (w:=true) hgw hle (fun _=>hfz) rfl b3 b4 h hk
     have hdd:=p2 dd (au b3)
     refine⟨G,gI Γ (ig ρ g) ⟨fun j=>bif Nat.beq j k then (e.ev ρ).toNat else (ρ dd).gg.n j,(ρ dd).gg.at_,(ρ dd).gg.fl,(ρ dd).gg.fz,(ρ dd).gg.sub⟩ Γ.ng,ρ',_,vp.refl _,p1,p2,?_,Ok.m8 ?_ ?_⟩
     · show s.nx<=(Eh _ _ _ _).nx
       rw [A5]; show s.nx<=s.nx+1; omega
     · have key:∀(ks:List Nat) (s0:SS),(∀j∈ks,Nat.beq j k=false)->Ok c T G (gI Γ (ig ρ g) ⟨fun j=>bif Nat.beq j k then (e.ev ρ).toNat else (ρ dd).gg.n j,(ρ dd).gg.at_,(ρ dd).gg.fl,(ρ dd).gg.fz,(ρ dd).gg.sub⟩ Γ.ng) ρ' s0->Ok c T G (gI Γ (ig ρ g) ⟨fun j=>bif Nat.beq j k then (e.ev ρ).toNat else (ρ dd).gg.n j,(ρ dd).gg.at_,(ρ dd).gg.fl,(ρ dd).gg.fz,(ρ dd).gg.sub⟩ Γ.ng) ρ' (Eh s0 dd s.nx ks):=fun ks s0 hks h0=>by
        induction ks with
        | nil=>exact h0
        | cons j ks ih =>
          refine (ih fun j hj=>hks j (List.mem_cons_of_mem _ hj)).m8 ?_
          rw [LE.a9,LE.a9]
          show (((ρ' s.nx).gg.n j:Nat):Int)=(((ρ' dd).gg.n j:Nat):Int)
          rw [p3,hdd]
          show ((bif Nat.beq j k then (e.ev ρ).toNat else (ρ dd).gg.n j:Nat):Int)=_
          rw [hks j (List.mem_cons_self ..)]; rfl
       exact key _ _ (fun j hj=>by have:=(List.mem_filter.1 hj).2; rw [Bool.not_eq_true'] at this; exact this) (p5 [] [] (fun p hp=>by cases hp) (fun d hd=>by cases hd))
     · rw [LE.a9,LE.bP p2 b2]
       show (((ρ' s.nx).gg.n k:Nat):Int)=_
       rw [p3]
       show ((bif Nat.beq k k then (e.ev ρ).toNat else (ρ dd).gg.n k:Nat):Int)=_
       rw [Nat.beq_refl]; show (((e.ev ρ).toNat:Nat):Int)=_; omega
 · cases h
theorem IK {g:Nat} {K:SS->R} (h:(IH g s K).Ok) (hk:Ok c T G Γ ρ s):Ac c T G Γ s ρ K:=by
 unfold IH at h
 split at h
 · rename_i dd hgw
   cases hb:(Nat.blt dd s.nx&&bR s.nx g) with
   | false=>rw [hb] at h; cases h
   | true =>
     rw [hb] at h
     simp only [cond_true] at h
     rw [Bool.and_eq_true] at hb
     have hfz:(ρ dd).gg.fz=false:=by
      obtain⟨_,_,g3⟩:=hk.q.gs (ig ρ g,(ρ dd).gg,true) (List.mem_map.2 ⟨(g,dd,true),fX hgw,rfl⟩)
      exact (g3 rfl).2.1
     obtain⟨ρ',p1,p2,p3,p4,p5⟩:=qq (dn:=⟨(ρ dd).gg.n,(ρ dd).gg.at_,(ρ dd).gg.fl,true,(ρ dd).gg.sub⟩) (w:=false) hgw ⟨fun j=>Nat.le_refl _,fun _ _ _ h=>h,fun h=>(by rw [hfz] at h; cases h),rfl⟩ (fun h=>by cases h) rfl hb.1 hb.2 h hk
     have hdd:=p2 dd (au hb.1)
     refine⟨G,gI Γ (ig ρ g) ⟨(ρ dd).gg.n,(ρ dd).gg.at_,(ρ dd).gg.fl,true,(ρ dd).gg.sub⟩ Γ.ng,ρ',_,vp.refl _,p1,p2,?_,xc (p5 [] [s.nx] (fun p hp=>by cases hp) (fun d hd=>by rw [List.mem_singleton.1 hd,p3])) fun k=>by rw [p3,hdd]⟩
     rw [A5]; show s.nx<=s.nx+1; omega
 · cases h
end
end Go.Rd
namespace Go.Rd
open Go.aQ Go.RowKit Go.Rt
def SV.uf (f:SC->SC):SV->SV
 | .v ag cs=>.v ag (cs.map f)
 | .cu l=>.cu (l.map fun p=>(p.1,p.2.map f))
 | .undef=>.undef
 | .AD q cs=>.AD q (cs.map f)
def SO.uf (f:SC->SC):SO->SO
 | .loc b el cs=>.loc b el (cs.map f)
 | o=>o
def xf (f:SC->SC) (s:SS):SS:=⟨s.nx,s.L.map fun p=>(p.1,p.2.uf f),s.os.map (SO.uf f),s.ty,s.gs,s.fs,s.bs,s.pw,s.ats,s.c9,s.ne,s.fz,s.sb⟩
section
variable {c:Cx} {T:Tm} {G G':GH} {Γ Γ':c8} {ρ ρ':bc} {s s':SS} {cf:Cf} {ops:Array Oper} {i d:Nat}
theorem qs {f:SC->SC} (h:∀x,(f x).den ρ=x.den ρ) (cs:List SC):aE ρ (cs.map f)=aE ρ cs:=by
 unfold aE
 rw [List.map_map]
 exact List.map_congr_left fun x _=>h x
theorem vw {f:SC->SC} (h:∀x,(f x).den ρ=x.den ρ) (p:Bool × List SC):dH ρ (p.1,p.2.map f)=dH ρ p:=by unfold dH; simp only [qs h]
theorem SV.tw {f:SC->SC} (h:∀x,(f x).den ρ=x.den ρ) (v:SV):(v.uf f).den ρ=v.den ρ:=by
 cases v with
 | v ag cs=>exact vw h (ag,cs)
 | cu l =>
   show AV.cu ((l.map fun p=>(p.1,p.2.map f)).map (dH ρ))=.cu (l.map (dH ρ))
   rw [List.map_map]
   congr 1
   exact List.map_congr_left fun p _=>vw h p
 | undef=>rfl
 | AD q cs=>simp only [SV.uf,SV.den,qs h]
theorem SO.tw {f:SC->SC} (h:∀x,(f x).den ρ=x.den ρ) (o:SO):(o.uf f).den ρ=o.den ρ:=by
 cases o with
 | loc b el cs=>simp only [SO.uf,SO.den,qs h]
 | _=>rfl
theorem IL {f:SC->SC} (h:∀x,(f x).den ρ=x.den ρ):(xf f s).den ρ=s.den ρ:=by
 refine St.ext' ?_ ?_ rfl rfl
 · show (s.L.map fun p=>(p.1,p.2.uf f)).map (fun p=>(p.1,p.2.den ρ))=s.L.map fun p=>(p.1,p.2.den ρ)
   rw [List.map_map]
   exact List.map_congr_left fun p _=>by show (p.1,(p.2.uf f).den ρ)=_; rw [SV.tw h]
 · show (s.os.map (SO.uf f)).map (SO.den ρ)=s.os.map (SO.den ρ)
   rw [List.map_map]
   exact List.map_congr_left fun o _=>SO.tw h o
theorem Ok.xf {f:SC->SC} (hk:Ok c T G Γ ρ s) (h:∀x,(f x).den ρ=x.den ρ):Ok c T G Γ ρ (xf f s):=⟨⟨hk.sat.fs,hk.sat.bs,hk.sat.pw,hk.sat.ats,hk.sat.c9,hk.sat.ne,hk.sat.fz,hk.sat.sb⟩,by rw [IL h]; exact hk.q⟩
def IM (b x:Nat):SC->SC
 | .bW b' o=>bif Nat.beq b' b then (bif Nat.beq o 0 then .ref x else .tM x o) else .bW b' o
 | c=>c
def IP (b x:Nat):SC->SC
 | .dG b'=>bif Nat.beq b' b then .ref x else .dG b'
 | c=>c
def IQ (y x:Nat):SC->SC
 | .ref y'=>bif Nat.beq y' y then .ref x else .ref y'
 | c=>c
theorem A6 {b x:Nat} (h:(ρ x).vv=.bW (ρ b).nn 0) (q:SC):(IM b x q).den ρ=q.den ρ:=by
 cases q<;>first | rfl | skip
 rename_i b' o
 show (bif Nat.beq b' b then (bif Nat.beq o 0 then SC.ref x else .tM x o) else .bW b' o).den ρ=_
 cases hb:Nat.beq b' b with
 | false=>rfl
 | true =>
   have:=ai hb
   subst this
   cases ho:Nat.beq o 0 with
   | true=>have:=ai ho; subst this; show (ρ x).vv=_; rw [h]; rfl
   | false=>show lE (ρ x).vv o=.bW (ρ b').nn o; rw [h]; show AV.bW _ (0+o)=_; rw [Nat.zero_add]
theorem A7 {b x:Nat} (h:(ρ x).vv=.dG (ρ b).nn) (q:SC):(IP b x q).den ρ=q.den ρ:=by
 cases q<;>first | rfl | skip
 rename_i b'
 show (bif Nat.beq b' b then SC.ref x else .dG b').den ρ=_
 cases hb:Nat.beq b' b with
 | false=>rfl
 | true=>have:=ai hb; subst this; show (ρ x).vv=_; rw [h]; rfl
theorem A8 {y x:Nat} (h:(ρ x).vv=(ρ y).vv) (q:SC):(IQ y x q).den ρ=q.den ρ:=by
 cases q<;>first | rfl | skip
 rename_i b'
 show (bif Nat.beq b' y then SC.ref x else .ref b').den ρ=_
 cases hb:Nat.beq b' y with
 | false=>rfl
 | true=>have:=ai hb; subst this; exact h
def RS (b:Nat):SO->Bool | .loc y _ _=>Nat.beq y b | _=>false
def A9 (cf:Cf) (b cc g:Nat) (s:SS) (K:SS->R):R:=match pD (RS b) s.os with
 | some (.loc _ el cs,osA)=>bif Nat.beq el (cf.Φ.ty cc)&&((cf.Φ.fy cc&&!cf.Φ.raw cc)&&(Nat.beq cs.length (ae cf.P el)&&(ud s g&&(bR s.nx g&&(Nat.blt b s.nx&&osA.all (SO.lt s.nx)))))) then
   (match qn cf s g (ghost s.gs g) (.k 0) (cf.Φ.ks cc) cs with
    | some os=>bif bq s ((LE.k WU).sub (iB os)) then fresh s fun x s=>K (xf (IM b x) (bu (dV s osA) (.pt x cc g))) else .bad 240 s
    | none=>.bad 241 s)
   else .bad 242 s
 | _=>.bad 243 s
theorem Ep {b cc g:Nat} {K:SS->R} (hP:cf.P=c.P) (hΦ:cf.Φ=c.Φ) (h:(A9 cf b cc g s K).Ok) (hk:Ok c T G Γ ρ s):Ac c T G Γ s ρ K:=by
 unfold A9 at h
 rw [hP,hΦ] at h
 split at h
 · rename_i b' el cs osA hr
   obtain⟨r1,r2⟩:=fQ hr
   have hbb:b'=b:=ai r1
   subst hbb
   cases hb:(Nat.beq el (c.Φ.ty cc)&&((c.Φ.fy cc&&!c.Φ.raw cc)&&(Nat.beq cs.length (ae c.P el)&&(ud s g&&(bR s.nx g&&(Nat.blt b' s.nx&&osA.all (SO.lt s.nx))))))) with
   | false=>rw [hb] at h; cases h
   | true =>
     rw [hb] at h
     simp only [cond_true] at h
     simp only [Bool.and_eq_true,Bool.not_eq_true'] at hb
     obtain⟨b1,⟨b2,hrw⟩,b3,b4,b5,b6,b7⟩:=hb
     have b1:=ai b1
     subst b1
     have b3:=ai b3
     cases hch:qn cf s g (ghost s.gs g) (.k 0) (c.Φ.ks cc) cs with
     | none=>rw [hch] at h; cases h
     | some os =>
       rw [hch] at h
       simp only at h
       cases hw:bq s ((LE.k WU).sub (iB os)) with
       | false=>rw [hw] at h; cases h
       | true =>
         rw [hw] at h
         simp only [cond_true] at h
         obtain⟨fs,w1,w2,w3⟩:=m6 hΦ hk (fun dv h=>cE h hk) (J:=0) (by rw [LE.bp]; exact⟨Int.le_refl _,rfl⟩) hch
         have hwu:=ax hw hk.sat
         rw [LE.aw,LE.bp,w2] at hwu
         have kX:(aE ρ cs).length=cs.length:=by simp [aE]
         obtain⟨hG,hm⟩:=hk.own (r2.mem_iff.2 (by simp:SO.loc b' (c.Φ.ty cc) cs∈osA++[.loc b' (c.Φ.ty cc) cs]))
         have hpd:=dW r2 ρ
         rw [List.map_append,List.map_singleton] at hpd
         have hglt:ig ρ g<Γ.ng:=kY b4 hk
         have hQ:=hk.q.Vu (osA:=osA.map (SO.den ρ)) (o:=SO.den ρ (.loc b' (c.Φ.ty cc) cs)) (b:=(ρ b').nn) (y:=.cells cc (ig ρ g) [WU]) (g':=.cells .data (c.Φ.ty cc) (aE ρ cs).length (aE ρ cs)) (tys':=[.pt (.bW (ρ b').nn 0) cc (ig ρ g)]) hpd rfl hm (fun _ _ _ h=>by rw [hG] at h; cases h) (fun _ _ _ h=>by rw [hG] at h; cases h)
          (fun hr hl=>⟨⟨hglt,hrw⟩,fun _ m hm=>List.mem_singleton.1 hm,_,_,ay _ _ _,by rw [kX,b3]; simp,fun j m hj=>by
           cases j with
           | succ j=>simp at hj
           | zero =>
             simp only [List.getElem?_cons_zero,Option.some.injEq] at hj
             subst hj
             rw [Nat.zero_mul,List.drop_zero,List.take_of_length_le (by rw [kX,b3]; exact Nat.le_refl _)]
             exact eI.le ⟨fs,w1,by omega,w3⟩ hr hl hglt⟩) (fun f hf=>by
           rw [List.mem_singleton.1 hf]
           exact⟨(ρ b').nn,[WU],rfl,updΓ_same _ _ _,by simp⟩)
         obtain⟨p1,p2,p3,p4⟩:=az h hk (.v (.bW (ρ b').nn 0) [])
         generalize hU:U.v (.bW (ρ b').nn 0) []=uu at p1 p2 p3 p4
         have hv':(ρ.up s.nx uu s.nx).vv=.bW (ρ b').nn 0:=by rw [p4,<-hU]; rfl
         have eD:=(SS.bP (dh h) p2).1
         have eO:osA.map (SO.den (ρ.up s.nx uu))=osA.map (SO.den ρ):=List.map_congr_left fun o ho=>SO.bP p2 (List.all_eq_true.1 b7 o ho)
         refine⟨_,_,ρ.up s.nx uu,_,fun k=>?_,p1,p2,Nat.le_succ _,Ok.xf (G:=eH G (ρ b').nn (.cells .data (c.Φ.ty cc) (aE ρ cs).length (aE ρ cs))) (Γ:=updΓ Γ (ρ b').nn (.cells cc (ig ρ g) [WU])) ⟨⟨p3.sat.fs,p3.sat.bs,p3.sat.pw,p3.sat.ats,p3.sat.c9,p3.sat.ne,p3.sat.fz,p3.sat.sb⟩,?_⟩ (A6 ?_)⟩
         · by_cases e:k=(ρ b').nn
           · subst e; exact .inr ⟨_,_,_,hG,ay _ _ _⟩
           · exact .inl (db e)
         · have:(bu (dV (aC s) osA) (.pt s.nx cc g)).den (ρ.up s.nx uu)=⟨(s.den ρ).L,osA.map (SO.den ρ),.pt (.bW (ρ b').nn 0) cc (ig ρ g)::(s.den ρ).dL,(s.den ρ).gs⟩:=by
            refine St.ext' (by have:=congrArg St.L eD; exact this) eO ?_ (by have:=congrArg St.gs eD; exact this)
            show dw.den _ (.pt s.nx cc g)::s.ty.map (dw.den _)=_
            rw [show s.ty.map (dw.den (ρ.up s.nx uu))=(s.den ρ).dL from congrArg St.dL eD]
            simp only [dw.den]; rw [hv',bV p2 b5]
           rw [this]; exact hQ
         · rw [hv',p2 b' (au b6)]
 · cases h
def isMap (b:Nat):SO->Bool | .em y _=>Nat.beq y b | .am y _ _=>Nat.beq y b | .im y _=>Nat.beq y b | _=>false
def RT (g:Nat) (os:List SO):Bool:=os.any fun o=>match o with | .am _ g' _=>Nat.beq g' g | _=>false
def K9 (cf:Cf) (cc g:Nat) (osA:List SO) (s:SS) (o:SO):Bool:=match o,cf.Φ.mv cc,ghost s.gs g with
 | .am _ g' q,.JB q',some d=>Nat.beq g' g&&(Nat.beq q q'&&(KF (cf.Φ.pk cc) .str&&s.fz.contains d))
 | .im _ e,.kd (.nat k),some d=>KF (cf.Φ.pk cc) .str&&bq s ((LE.a (.gn d k)).sub e)
 | .em _ pk,.kd _,_=>KF (cf.Φ.pk cc) pk
 | .em _ pk,.unit,_=>KF (cf.Φ.pk cc) pk
 | .em _ pk,.HK,some d=>KF (cf.Φ.pk cc) .pair&&(s.fz.contains d&&RT g osA)
 | _,_,_=>false
def Ba (cf:Cf) (b cc g:Nat) (s:SS) (K:SS->R):R:=match pD (isMap b) s.os with
 | some (o,osA)=>bif K9 cf cc g osA s o&&(ud s g&&(bR s.nx g&&(Nat.blt b s.nx&&osA.all (SO.lt s.nx)))) then
   fresh s fun x s=>K (xf (IP b x) (bu (dV s osA) (.mp x cc g)))
   else .bad 244 s
 | none=>.bad 245 s
theorem Er {p:AV × AV->Prop}:∀q∈([]:List (AV × AV)),p q:=fun q h=>by cases h
theorem La {b cc g:Nat} {osA:List SO} {o:SO} (hΦ:cf.Φ=c.Φ) (h:K9 cf cc g osA s o=true) (hm:isMap b o=true) (hA:∀o∈osA,o∈s.os) (ho:o∈s.os) (hk:Ok c T G Γ ρ s):(o.den ρ).aR=some (ρ b).nn/\Γ.m (ρ b).nn=none/\∃es,G (ρ b).nn=some (.map es)/\(∀p∈es,nf p.2)/\eE c.P c.Φ G Γ cc (ig ρ g) es:=by
 have hown:=hk.own ho
 have strs:∀es:List (AV × AV),c.Φ.pk cc=.str->(∀p∈es,dK .str p.1)->∀p∈es,dK (c.Φ.pk cc) p.1:=fun es e h=>by rw [e]; exact h
 unfold K9 at h
 rw [hΦ] at h
 split at h
 · rename_i y g' q q' dd hmv hgd
   simp only [Bool.and_eq_true] at h
   have e1:=ai h.1
   have e2:=ai h.2.1
   have e3:=s5 h.2.2.1
   have e4:y=b:=ai hm
   subst e1 e2 e4
   obtain⟨o1,o0,obd,es,o2,o3,o4⟩:=hown
   have hdd:=cE hgd hk
   have hfz:=hk.sat.fz dd (List.contains_iff_mem.1 h.2.2.2)
   refine⟨rfl,o1,es,o2,fun p hp=>(o3 p hp).2,strs es e3 fun p hp=>(o3 p hp).1,?_⟩
   rw [hmv]
   exact⟨e3,by rw [hdd]; exact hfz,o4,obd⟩
 · rename_i y e k dd hmv hgd
   rw [Bool.and_eq_true] at h
   have e3:=s5 h.1
   have e4:y=b:=ai hm
   subst e4
   obtain⟨o1,es,o2,o3⟩:=hown
   have hdd:=cE hgd hk
   have he:=ax h.2 hk.sat
   rw [LE.aw,LE.a9] at he
   have he:0<=(((ρ dd).gg.n k:Nat):Int)-e.ev ρ:=he
   refine⟨rfl,o1,es,o2,fun p hp=>?_,strs es e3 fun p hp=>(o3 p hp).1,?_⟩
   · obtain⟨_,n,h1,_⟩:=o3 p hp; rw [h1]; exact mc _ _
   · rw [hmv]
     intro p hp
     obtain⟨_,n,h1,h2⟩:=o3 p hp
     exact⟨[],⟨⟨n,h1,by rw [hdd]; omega⟩,rfl⟩,fun f hf=>by cases hf⟩
 · rename_i y pk kd hmv
   have e4:y=b:=ai hm
   subst e4
   obtain⟨o1,o2,o3⟩:=hown
   refine⟨rfl,o2,[],o1,Er,fun p hp=>(by cases hp),?_⟩
   rw [hmv]; exact Er
 · rename_i y pk hmv
   have e4:y=b:=ai hm
   subst e4
   obtain⟨o1,o2,o3⟩:=hown
   refine⟨rfl,o2,[],o1,Er,fun p hp=>(by cases hp),?_⟩
   rw [hmv]; exact Er
 · rename_i y pk dd hmv hgd
   simp only [Bool.and_eq_true] at h
   have e3:=s5 h.1
   have e4:y=b:=ai hm
   subst e4
   obtain⟨o1,o2,o3⟩:=hown
   have hdd:=cE hgd hk
   have hfz:=hk.sat.fz dd (List.contains_iff_mem.1 h.2.1)
   refine⟨rfl,o2,[],o1,Er,fun p hp=>(by cases hp),?_⟩
   rw [hmv]
   refine⟨e3,by rw [hdd]; exact hfz,fun l n l' n' hs=>?_,Er⟩
   obtain⟨oa,m1,m2⟩:=List.any_eq_true.1 h.2.2
   cases oa<;>first | (cases m2; done) | skip
   rename_i b2 g' k2
   have:=ai m2
   subst this
   obtain⟨_,_,_,es,q2,q3,q4⟩:=hk.own (hA _ m1)
   have h1:=q4 l n
   have h2:=q4 l' n'
   rw [tq (pk:=.str) (x:=.str l n) (k:=.str l' n') ⟨l,n,rfl⟩ ⟨l',n',rfl⟩ hs fun p hp=>(q3 p hp).1,h2] at h1
   cases ha:(Γ.gd (ig ρ g')).at_ l n with
   | none=>rw [ha] at h1; cases hb:(Γ.gd (ig ρ g')).at_ l' n' with
     | none=>rfl
     | some j=>rw [hb] at h1; cases h1
   | some i=>rw [ha] at h1; cases hb:(Γ.gd (ig ρ g')).at_ l' n' with
     | none=>rw [hb] at h1; cases h1
     | some j =>
       rw [hb] at h1
       simp only [Option.map_some,Option.some.injEq,AV.int.injEq,true_and] at h1
       have h1:(j:Int)=(i:Int):=h1
       congr 1; omega
 · cases h
theorem Es {b cc g:Nat} {K:SS->R} (hΦ:cf.Φ=c.Φ) (h:(Ba cf b cc g s K).Ok) (hk:Ok c T G Γ ρ s):Ac c T G Γ s ρ K:=by
 unfold Ba at h
 split at h
 · rename_i o osA hr
   obtain⟨r1,r2⟩:=fQ hr
   cases hb:(K9 cf cc g osA s o&&(ud s g&&(bR s.nx g&&(Nat.blt b s.nx&&osA.all (SO.lt s.nx))))) with
   | false=>rw [hb] at h; cases h
   | true =>
     rw [hb] at h
     simp only [cond_true] at h
     simp only [Bool.and_eq_true] at hb
     obtain⟨b1,b2,b3,b4,b5⟩:=hb
     obtain⟨hblk,hm,es,hG,hnf,hM⟩:=La hΦ b1 r1 (fun o ho=>r2.mem_iff.2 (by simp [ho])) (r2.mem_iff.2 (by simp)) hk
     have hpd:=dW r2 ρ
     rw [List.map_append,List.map_singleton] at hpd
     have hself:eH G (ρ b).nn (.map es)=G:=zi hG
     have hglt:ig ρ g<Γ.ng:=kY b2 hk
     have hQ:=hk.q.Vu (osA:=osA.map (SO.den ρ)) (o:=SO.den ρ o) (b:=(ρ b).nn) (y:=.map cc (ig ρ g)) (g':=.map es) (tys':=[.mp (.dG (ρ b).nn) cc (ig ρ g)]) hpd hblk hm (fun _ _ _ h=>by rw [hG] at h; cases h) (fun _ _ _ h=>by rw [hG] at h; cases h)
      (fun hr hl=>⟨hglt,es,ay _ _ _,hnf,hM.le hr hl rfl⟩) (fun f hf=>by
       rw [List.mem_singleton.1 hf]
       exact⟨(ρ b).nn,rfl,updΓ_same _ _ _⟩)
     rw [hself] at hQ
     obtain⟨p1,p2,p3,p4⟩:=az h hk (.v (.dG (ρ b).nn) [])
     generalize hU:U.v (.dG (ρ b).nn) []=uu at p1 p2 p3 p4
     have hv':(ρ.up s.nx uu s.nx).vv=.dG (ρ b).nn:=by rw [p4,<-hU]; rfl
     have eD:=(SS.bP (dh h) p2).1
     have eO:osA.map (SO.den (ρ.up s.nx uu))=osA.map (SO.den ρ):=List.map_congr_left fun o ho=>SO.bP p2 (List.all_eq_true.1 b5 o ho)
     refine⟨G,_,ρ.up s.nx uu,_,vp.refl _,p1,p2,Nat.le_succ _,Ok.xf (Γ:=updΓ Γ (ρ b).nn (.map cc (ig ρ g))) ⟨⟨p3.sat.fs,p3.sat.bs,p3.sat.pw,p3.sat.ats,p3.sat.c9,p3.sat.ne,p3.sat.fz,p3.sat.sb⟩,?_⟩ (A7 ?_)⟩
     · have:(bu (dV (aC s) osA) (.mp s.nx cc g)).den (ρ.up s.nx uu)=⟨(s.den ρ).L,osA.map (SO.den ρ),.mp (.dG (ρ b).nn) cc (ig ρ g)::(s.den ρ).dL,(s.den ρ).gs⟩:=by
        refine St.ext' (by have:=congrArg St.L eD; exact this) eO ?_ (by have:=congrArg St.gs eD; exact this)
        show dw.den _ (.mp s.nx cc g)::s.ty.map (dw.den _)=_
        rw [show s.ty.map (dw.den (ρ.up s.nx uu))=(s.den ρ).dL from congrArg St.dL eD]
        simp only [dw.den]; rw [hv',bV p2 b3]
       rw [this]; exact hQ
     · rw [hv',p2 b (au b4)]
 · cases h
end
end Go.Rd
namespace Go.Rd
open Go.aQ Go.RowKit Go.Rt
def Bb (cf:Cf) (g x cc':Nat) (s:SS) (K:SS->R):R:=match pD (Eg x) s.os,kZ s.gs g with
 | some (.ul _ cc g',osA),some d=>bif Nat.beq g' g&&((cf.Φ.fy cc'&&!cf.Φ.raw cc')&&(Nat.beq (cf.Φ.ty cc) (cf.Φ.ty cc')&&(RO (cf.Φ.ks cc) (cf.Φ.ks cc')&&(Nat.blt d s.nx&&(bR s.nx g&&(Nat.blt x s.nx&&osA.all (SO.lt s.nx))))))) then
   fresh s fun d' s'=>fresh (Eh (tr s' g d' false s.os (qT s d d') [] [d'] (np s.sb d d')) d d' [0,1,2,3,4,5]) fun x' s2=>K (xf (IQ x x') (m8 (bu (dV s2 osA) (.sl x' cc' g)) (.a (.len x')) (.a (.len x))))
   else .bad 250 s
 | _,_=>.bad 251 s
section
variable {c:Cx} {T:Tm} {G G':GH} {Γ Γ':c8} {ρ ρ':bc} {s s':SS} {cf:Cf} {ops:Array Oper} {i d:Nat}
theorem Et {g x cc':Nat} {K:SS->R} (hΦ:cf.Φ=c.Φ) (h:(Bb cf g x cc' s K).Ok) (hk:Ok c T G Γ ρ s):Ac c T G Γ s ρ K:=by
 unfold Bb at h
 rw [hΦ] at h
 split at h
 · rename_i y cc g' osA dd hr hgw
   obtain⟨r1,r2⟩:=fQ hr
   have hy:y=x:=ai r1
   subst hy
   cases hb:(Nat.beq g' g&&((c.Φ.fy cc'&&!c.Φ.raw cc')&&(Nat.beq (c.Φ.ty cc) (c.Φ.ty cc')&&(RO (c.Φ.ks cc) (c.Φ.ks cc')&&(Nat.blt dd s.nx&&(bR s.nx g&&(Nat.blt y s.nx&&osA.all (SO.lt s.nx)))))))) with
   | false=>rw [hb] at h; cases h
   | true =>
     rw [hb] at h
     simp only [cond_true] at h
     simp only [Bool.and_eq_true,Bool.not_eq_true'] at hb
     obtain⟨b1,⟨b2,hrw⟩,b3,b4,b5,b6,b7,b8⟩:=hb
     have b1:=ai b1
     have b3:=ai b3
     subst b1
     have hfz:(ρ dd).gg.fz=false:=by
      obtain⟨_,_,g3⟩:=hk.q.gs (ig ρ g',(ρ dd).gg,true) (List.mem_map.2 ⟨(g',dd,true),fX hgw,rfl⟩)
      exact (g3 rfl).2.1
     have hgd:Γ.gd (ig ρ g')=(ρ dd).gg:=(hk.q.gs (ig ρ g',(ρ dd).gg,true) (List.mem_map.2 ⟨(g',dd,true),fX hgw,rfl⟩)).2.1
     obtain⟨u1,u2,u3⟩:=hk.own (r2.mem_iff.2 (by simp:SO.ul y cc g'∈osA++[.ul y cc g']))
     -- the lengths
     obtain⟨F,hF⟩:∃F:Nat->Nat,∀dn:Gd,(ρ dd).gg.Le dn->dn.fz=true->dn.fl=F->((ρ y).vv=.aB/\(ρ y).ns.length=0)∨∃b cap size C,(ρ y).vv=.di b 0 (ρ y).ns.length cap/\Γ.m b=none/\G b=some (.cells .data (c.Φ.ty cc) size C)/\C.length=(ρ y).ns.length*ae c.P (c.Φ.ty cc)/\cap*ae c.P (c.Φ.ty cc)<=size/\(ρ y).ns.length<=cap /\
       ∀j,j<(ρ y).ns.length->∃fs,gP c.Φ dn (ig ρ g') j (c.Φ.ks cc') ((C.drop (j*ae c.P (c.Φ.ty cc))).take (ae c.P (c.Φ.ty cc))) fs/\iH c.Φ fs<=WU/\∀f∈fs,fx c.P c.Φ G Γ f:=by
      rcases u3 with ⟨v1,v2⟩ | ⟨b,cap,size,C,v1,v2,v3,v4,v5,v6,v7⟩
      · exact⟨fun _=>0,fun dn _ _ _=>.inl ⟨v1,v2⟩⟩
      · have:∀j,∃n:Nat,j<(ρ y).ns.length->∃fs,(∀dn:Gd,(ρ dd).gg.Le dn->dn.fz=true->dn.fl j=n->gP c.Φ dn (ig ρ g') j (c.Φ.ks cc') ((C.drop (j*ae c.P (c.Φ.ty cc))).take (ae c.P (c.Φ.ty cc))) fs)/\iH c.Φ fs<=WU/\∀f∈fs,fx c.P c.Φ G Γ f:=fun j=>by
         by_cases hj:j<(ρ y).ns.length
         · obtain⟨fs,w1,w2,w3⟩:=v7 j hj
           rw [hgd] at w1
           obtain⟨n,hn⟩:=Iy b4 w1
           exact⟨n,fun _=>⟨fs,hn,w2,w3⟩⟩
         · exact⟨0,fun h=>absurd h hj⟩
        obtain⟨F,hF⟩:=Classical.axiomOfChoice this
        exact⟨F,fun dn a1 a2 a3=>.inr ⟨b,cap,size,C,v1,v2,v3,v4,v5,v6,fun j hj=>by
         obtain⟨fs,w1,w2,w3⟩:=hF j hj
         exact⟨fs,w1 dn a1 a2 (by rw [a3]),w2,w3⟩⟩⟩
     have hle:(ρ dd).gg.Le ⟨(ρ dd).gg.n,(ρ dd).gg.at_,F,true,(ρ dd).gg.sub⟩:=⟨fun j=>Nat.le_refl _,fun _ _ _ h=>h,fun h=>(by rw [hfz] at h; cases h),rfl⟩
     obtain⟨ρ1,p1,p2,p3,p4,p5⟩:=qq (dn:=⟨(ρ dd).gg.n,(ρ dd).gg.at_,F,true,(ρ dd).gg.sub⟩) (w:=false) hgw hle (fun h=>by cases h) rfl b5 b6 h hk
     have hdd:=p2 dd (au b5)
     have ok1:=xc (ks:=[0,1,2,3,4,5]) (dd:=dd) (dn:=s.nx) (p5 [] [s.nx] (fun p hp=>by cases hp) (fun d hd=>by rw [List.mem_singleton.1 hd,p3])) fun k=>by rw [p3,hdd]
     have hF:=hF _ hle rfl rfl
     generalize hdn:(⟨(ρ dd).gg.n,(ρ dd).gg.at_,F,true,(ρ dd).gg.sub⟩:Gd)=dn at p3 p5 ok1 hF hle
     have hlim:(List.replicate (ρ y).ns.length WU).length<=kT:=by rw [List.length_replicate]; exact U.Az _
     have href:bZ (ρ y).vv=true:=U.sZ _
     -- the state between,in the old words
     have hso:∀(s0:SS) (l:List Nat),(Eh s0 dd s.nx l).den ρ1=s0.den ρ1:=fun s0 l=>by
      induction l with
      | nil=>rfl
      | cons k l ih=>exact ih
     have J5:(Eh (tr (aC s) g' s.nx false s.os (qT s dd s.nx) [] [s.nx] (np s.sb dd s.nx)) dd s.nx [0,1,2,3,4,5]).nx=s.nx+1:=by rw [A5]; rfl
     obtain⟨gs1,hden1⟩:∃gs1,(Eh (tr (aC s) g' s.nx false s.os (qT s dd s.nx) [] [s.nx] (np s.sb dd s.nx)) dd s.nx [0,1,2,3,4,5]).den ρ1=⟨(s.den ρ).L,(s.den ρ).os,(s.den ρ).dL,gs1⟩:=by
      rw [hso]
      have eD0:=(SS.bP (dh h) p2).1
      exact⟨_,St.ext' (by have:=congrArg St.L eD0; exact this) (by have:=congrArg St.os eD0; exact this) (by have:=congrArg St.dL eD0; exact this) rfl⟩
     generalize Eh (tr (aC s) g' s.nx false s.os (qT s dd s.nx) [] [s.nx] (np s.sb dd s.nx)) dd s.nx [0,1,2,3,4,5]=s1 at p1 ok1 J5 hden1
     obtain⟨q1,q2,q3,q4⟩:=az p1 ok1 (.v (ρ y).vv (List.replicate (ρ y).ns.length WU))
     have hs1:=dh p1
     rw [J5] at q1 q2 q3 q4
     have A:de s.nx ρ (ρ1.up (s.nx+1) (.v (ρ y).vv (List.replicate (ρ y).ns.length WU))):=p2.trans q2 (Nat.le_succ _)
     generalize hρ2:ρ1.up (s.nx+1) (.v (ρ y).vv (List.replicate (ρ y).ns.length WU))=ρ2 at q2 q3 q4 A
     have hv':(ρ2 (s.nx+1)).vv=(ρ y).vv:=by rw [q4]; exact U.jy href
     have hn':(ρ2 (s.nx+1)).ns=List.replicate (ρ y).ns.length WU:=by rw [q4]; exact U.j4 hlim
     have hy2:=A y (au b7)
     have eD:=(SS.bP hs1 (ρ:=ρ1) (ρ':=ρ2) (by rw [J5]; exact q2)).1
     have eO:osA.map (SO.den ρ2)=osA.map (SO.den ρ):=List.map_congr_left fun o ho=>SO.bP A (List.all_eq_true.1 b8 o ho)
     have hpd:=dW r2 ρ
     rw [List.map_append,List.map_singleton] at hpd
     have hq1:=ok1.q
     rw [hden1] at hq1
     have hlt:ig ρ g'<(gI Γ (ig ρ g') dn Γ.ng).ng:=u1
     have hgl:dm Γ (gI Γ (ig ρ g') dn Γ.ng):=m9 (fun _=>by rw [hgd]; exact hle) (Nat.le_refl _)
     have hself:∀{b:Nat} {x:Gh},G b=some x->eH G b x=G:=fun h=>zi h
     -- the list made common
     obtain⟨Γ2,hQ⟩:∃Γ2,Q c T G Γ2 ⟨(s.den ρ).L,osA.map (SO.den ρ),.sl (ρ y).vv cc' (ig ρ g') (List.replicate (ρ y).ns.length WU)::(s.den ρ).dL,gs1⟩:=by
      rcases hF with ⟨v1,v2⟩ | ⟨b,cap,size,C,v1,v2,v3,v4,v5,v6,v7⟩
      · refine⟨gI Γ (ig ρ g') dn Γ.ng,?_⟩
        have:=hq1.iq (st':=⟨(s.den ρ).L,osA.map (SO.den ρ),(s.den ρ).dL,gs1⟩) (fun _ _ h=>h) ⟨_,hpd⟩ (fun f h=>h) (fun p h=>h)
        exact⟨this.ml,this.at_,this.yT,this.rl,this.grow,this.own,this.new,this.nd,this.ht,fun f hf=>by
         rcases List.mem_cons.1 hf with rfl | hf
         · rw [v2]; exact⟨Nat.zero_le _,.inl ⟨v1,rfl⟩⟩
         · exact this.ty f hf,this.gs⟩
      · refine⟨updΓ (gI Γ (ig ρ g') dn Γ.ng) b (.cells cc' (ig ρ g') (List.replicate (ρ y).ns.length WU)),?_⟩
        have:=hq1.Vu (osA:=osA.map (SO.den ρ)) (o:=SO.den ρ (.ul y cc g')) (b:=b) (y:=.cells cc' (ig ρ g') (List.replicate (ρ y).ns.length WU)) (g':=.cells .data (c.Φ.ty cc) size C) (tys':=[.sl (ρ y).vv cc' (ig ρ g') (List.replicate (ρ y).ns.length WU)]) hpd (by show qR (ρ y).vv=_; rw [v1]; rfl) v2 (fun _ _ _ h=>by rw [v3] at h; cases h) (fun _ _ _ h=>by rw [v3] at h; cases h; exact⟨_,rfl⟩)
         (fun hr hl=>⟨⟨hlt,hrw⟩,fun _ m hm=>List.eq_of_mem_replicate hm,size,C,by rw [ay,b3],by rw [List.length_replicate,<-b3]; exact v4,fun j m hj=>by
          have hm:=List.eq_of_mem_replicate (List.mem_of_getElem? hj)
          have hjl:=(List.getElem?_eq_some_iff.1 hj).1
          rw [List.length_replicate] at hjl
          subst hm
          obtain⟨fs,w1,w2,w3⟩:=v7 j hjl
          rw [<-b3]
          refine⟨fs,?_,w2,fun f hf=>((w3 f hf).le (dE.refl _) hgl).le hr hl⟩
          show gP c.Φ ((gI Γ (ig ρ g') dn Γ.ng).gd (ig ρ g')) _ _ _ _ _
          rw [fh]; exact w1⟩) (fun f hf=>by
          rw [List.mem_singleton.1 hf]
          exact⟨hlim,.inr (.inr ⟨b,cap,_,size,C,by rw [List.length_replicate]; exact v1,updΓ_same _ _ _,(List.take_length).symm,by rw [ay,b3],by rw [<-b3]; exact v5,by rw [List.length_replicate]; exact v6⟩)⟩)
        rw [hself v3] at this
        exact this
     refine⟨G,Γ2,ρ2,_,vp.refl _,q1,A,?_,Ok.xf (Ok.m8 ⟨⟨q3.sat.fs,q3.sat.bs,q3.sat.pw,q3.sat.ats,q3.sat.c9,q3.sat.ne,q3.sat.fz,q3.sat.sb⟩,?_⟩ ?_) (A8 ?_)⟩
     · show s.nx<=s1.nx+1
       rw [J5]; omega
     · have e2:(bu (dV (aC s1) osA) (.sl (s.nx+1) cc' g')).den ρ2=⟨(s.den ρ).L,osA.map (SO.den ρ),.sl (ρ y).vv cc' (ig ρ g') (List.replicate (ρ y).ns.length WU)::(s.den ρ).dL,gs1⟩:=by
        have eD2:=eD.trans hden1
        refine St.ext' (by have:=congrArg St.L eD2; exact this) eO ?_ (by have:=congrArg St.gs eD2; exact this)
        show dw.den ρ2 (.sl (s.nx+1) cc' g')::_=_
        rw [show dw.den ρ2 (.sl (s.nx+1) cc' g')=.sl (ρ y).vv cc' (ig ρ g') (List.replicate (ρ y).ns.length WU) by simp only [dw.den]; rw [hv',hn',bV A b6]]
        congr 1
        have:=congrArg St.dL eD2; exact this
       have hg2:=hQ
       rw [<-e2] at hg2
       exact hg2
     · rw [LE.a9,LE.a9]
       show (((ρ2 (s.nx+1)).ns.length:Nat):Int)=(((ρ2 y).ns.length:Nat):Int)
       rw [hn',hy2,List.length_replicate]
     · rw [hv',hy2]
 · cases h
end
end Go.Rd
