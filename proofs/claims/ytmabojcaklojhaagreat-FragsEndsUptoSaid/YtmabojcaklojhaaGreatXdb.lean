/- Part Xdb of the proof of FragsEnds: no condition. -/
import Derived.Test.YtmabojcaklojhaaGreatXda
set_option linter.unusedSimpArgs false
set_option linter.unusedVariables false
namespace Go.Rd
open Go.aQ Go.RowKit Go.Rt
def dx:SV->Option (List SC)
 | .v true cs=>some cs
 | .v false [x]=>some [x]
 | _=>none
section
variable {c:Cx} {T:Tm} {G:GH} {Γ:c8} {ρ ρ':bc} {s s':SS} {cf:Cf} {ops:Array Oper} {i:Nat}
theorem y7 (x:SC) (ρ:bc):nf (x.den ρ)/\qV (x.den ρ)=true/\(x.den ρ).cells=[x.den ρ]:=by
 cases x with
 | int k e=>exact⟨mc _ _,rfl,rfl⟩
 | bool b=>exact⟨iL _,rfl,rfl⟩
 | str x=>exact⟨jc _ _,rfl,rfl⟩
 | lD l m=>exact⟨jc _ _,rfl,rfl⟩
 | n6 k x=>exact⟨pj _ _,rfl,rfl⟩
 | wI k x=>exact⟨pj _ _,rfl,rfl⟩
 | ref x =>
   have:=U.sZ (ρ x)
   show nf (ρ x).vv/\qV (ρ x).vv=true/\(ρ x).vv.cells=[(ρ x).vv]
   generalize (ρ x).vv=v at this
   cases v<;>first | (cases this; done) | skip
   · exact⟨mQ,rfl,rfl⟩
   · exact⟨kP,rfl,rfl⟩
   · exact⟨mR,rfl,rfl⟩
   · exact⟨jd _ _ _ _,rfl,rfl⟩
   · exact⟨kQ _ _,rfl,rfl⟩
   · exact⟨wz _,rfl,rfl⟩
 | aB=>exact⟨kP,rfl,rfl⟩
 | dq=>exact⟨mQ,rfl,rfl⟩
 | aV=>exact⟨mR,rfl,rfl⟩
 | cg=>exact⟨Am,rfl,rfl⟩
 | bW b o=>exact⟨kQ _ _,rfl,rfl⟩
 | og x e sz o =>
   show nf (n7 _ _)/\qV (n7 _ _)=true/\(n7 _ _).cells=[n7 _ _]
   unfold n7
   split
   · exact⟨kQ _ _,rfl,rfl⟩
   · exact⟨mQ,rfl,rfl⟩
 | tM x o =>
   show nf (lE _ _)/\qV (lE _ _)=true/\(lE _ _).cells=[lE _ _]
   unfold lE
   split
   · exact⟨kQ _ _,rfl,rfl⟩
   · exact⟨mQ,rfl,rfl⟩
 | dG b=>exact⟨wz _,rfl,rfl⟩
 | wJ b n=>exact⟨jd _ _ _ _,rfl,rfl⟩
 | fn f=>exact⟨fun _ _=>by simp [SC.den,aj,ao,lh],rfl,rfl⟩
theorem fO (cs:List SC) (ρ:bc):mP (aE ρ cs):=fun v hv=>by
 obtain⟨x,_,rfl⟩:=List.mem_map.1 hv
 exact (y7 x ρ).1
theorem qk (cs:List SC) (ρ:bc):flat (aE ρ cs)=true:=yQ fun v hv=>by
 obtain⟨x,_,rfl⟩:=List.mem_map.1 hv
 exact (y7 x ρ).2.1
theorem fe {v:SV} {cs:List SC} (h:dx v=some cs) (ρ:bc):(v.den ρ).cells=aE ρ cs:=by
 unfold dx at h
 split at h
 · cases h; rfl
 · rename_i x; cases h; exact (y7 x ρ).2.2
 · cases h
theorem B6 (p:Bool × List SC) (ρ:bc):nf (dH ρ p):=by
 unfold dH
 split
 · exact wA (fO _ _)
 · cases h:aE ρ p.2 with
   | nil=>exact kP
   | cons v l=>exact fO p.2 ρ v (by rw [h]; exact List.mem_cons_self ..)
theorem y8 (v:SV) (ρ:bc):nf (v.den ρ):=by
 cases v with
 | v ag cs=>exact B6 _ _
 | cu l=>exact sJ fun u hu=>by obtain⟨p,_,rfl⟩:=List.mem_map.1 hu; exact B6 _ _
 | undef=>exact sK
 | AD f cs=>exact fun ι ι'=>by simp only [SV.den,aj,lh,ao]; rw [rj (fO cs ρ) ι ι']
def Vc (x:SV) (k:Nat) (s:SS) (K:SV->SS->R):R:=match x with
 | .cu l=>(match l[k]? with | some p=>K (.v p.1 p.2) s | none=>.bad 70 s)
 | _=>.bad 71 s
theorem OM {x:Operand} {k:Nat} {v:SV} {K:SV->SS->R} (ho:(ab ops i).op=.extract x k) (hg:(ab ops i).guard=none) (h:(Vc v k s K).Ok) (hk:Ok c T G Γ ρ s) (hx:ba c.nt T x (v.den ρ)):Lo c T G Γ ops i s ρ K:=by
 unfold Vc at h
 split at h
 · rename_i l
   cases hl:l[k]? with
   | none=>rw [hl] at h; cases h
   | some p =>
     rw [hl] at h
     exact Lo.here hk h (aZ.HR hg ho hx (by rw [List.getElem?_map,hl]; rfl))
 · cases h
def Vd (cf:Cf) (t:TypeId) (x:SV) (f:Nat) (s:SS) (K:SV->SS->R):R:=match x,er cf.P t f with
 | .v true cs,some (off,ft)=>bif dJ cf.P ft then K (.v true ((cs.drop off).take (ae cf.P ft))) s
   else bif cr cf.P ft then (match cs[off]? with | some x=>K (sc x) s | none=>.bad 72 s) else .bad 73 s
 | _,_=>.bad 74 s
theorem ON {t:TypeId} {x:Operand} {f:Nat} {v:SV} {K:SV->SS->R} (ho:(ab ops i).op=.field t x f) (hg:(ab ops i).guard=none) (hP:cf.P=c.P) (h:(Vd cf t v f s K).Ok) (hk:Ok c T G Γ ρ s) (hx:ba c.nt T x (v.den ρ)):Lo c T G Γ ops i s ρ K:=by
 unfold Vd at h
 rw [hP] at h
 split at h
 · rename_i cs off ft hf
   have hx:ba c.nt T x (.agg (aE ρ cs)):=hx
   cases ha:dJ c.P ft with
   | true =>
     rw [ha] at h
     refine Lo.here hk h ?_
     show aZ _ _ _ _ _ _ _ _ _ (.agg (aE ρ _))
     rw [qj]
     exact aZ.HS hg ho hf hx (rW ha)
   | false =>
     rw [ha] at h
     cases hkn:cr c.P ft with
     | false=>rw [hkn] at h; cases h
     | true =>
       rw [hkn] at h
       simp only [cond_true,cond_false] at h
       cases hc:cs[off]? with
       | none=>rw [hc] at h; cases h
       | some u =>
         rw [hc] at h
         exact Lo.here hk h (aZ.HS hg ho hf hx (rX hkn ha (by simp [aE,hc]; rfl)))
 · cases h
def Ve (x:SV) (a b:Option SV) (s:SS) (K:SV->SS->R):R:=match x with
 | .v false [.bool be]=>split s be (fun s=>match a with | some v=>K v s | none=>.bad 75 s) (fun s=>match b with | some v=>K v s | none=>.bad 75 s)
 | _=>.bad 76 s
theorem OO {x y y':Operand} {v:SV} {a b:Option SV} {K:SV->SS->R} (ho:(ab ops i).op=.pick x y y') (hg:(ab ops i).guard=none) (h:(Ve v a b s K).Ok) (hk:Ok c T G Γ ρ s) (hx:ba c.nt T x (v.den ρ)) (ha:∀u,a=some u->ba c.nt T y (u.den ρ)) (hb:∀u,b=some u->ba c.nt T y' (u.den ρ)):Lo c T G Γ ops i s ρ K:=by
 unfold Ve at h
 split at h
 · rename_i be
   have hx:ba c.nt T x (.bool (be.ev ρ)):=hx
   obtain⟨s1,n1,d1,o1,h1 | h1⟩:=pr h hk
   · obtain⟨e1,h1⟩:=h1
     cases ha':a with
     | none=>rw [ha'] at h1; cases h1
     | some u=>rw [ha'] at h1; exact Lo.to n1 (Lo.here o1 h1 (aZ.Ms hg ho hx (fun _=>ha u ha') (fun e=>by rw [e1] at e; cases e)))
   · obtain⟨e1,h1⟩:=h1
     cases hb':b with
     | none=>rw [hb'] at h1; cases h1
     | some u=>rw [hb'] at h1; exact Lo.to n1 (Lo.here o1 h1 (aZ.Ms hg ho hx (fun e=>by rw [e1] at e; cases e) (fun _=>hb u hb')))
 · cases h
def vj (place:Nat->Option (Nat × Nat)):List (Nat × List SC)->List SC->Option (List SC)
 | [],cs=>some cs
 | p::ps,cs=>match place p.1 with
   | none=>none
   | some (off,size)=>bif Nat.beq p.2.length size&&Nat.ble (off+size) cs.length then vj place ps (qe off p.2 cs) else none
def th (s:SS):List (Nat × Operand)->Option (List (Nat × SV × List SC))
 | []=>some []
 | p::ps=>match KJ s p.2,th s ps with
   | some v,some l=>(match dx v with | some cs=>some ((p.1,v,cs)::l) | none=>none)
   | _,_=>none
theorem ql (hq:Q c T G Γ (s.den ρ)):∀{ps:List (Nat × Operand)} {l:List (Nat × SV × List SC)},th s ps=some l->KH c.nt T ps (l.map fun p=>(p.1,p.2.1.den ρ))/\∀p∈l,(p.2.1.den ρ).cells=aE ρ p.2.2
 | [],l,h=>by cases h; exact⟨trivial,fun p hp=>by cases hp⟩
 | p::ps,l,h=>by
   unfold th at h
   split at h
   · rename_i v l' hv hl
     cases hc:dx v with
     | none=>rw [hc] at h; cases h
     | some cs =>
       rw [hc] at h
       cases h
       obtain⟨h1,h2⟩:=ql hq hl
       refine⟨⟨rfl,tb hv hq,h1⟩,fun q hqm=>?_⟩
       rcases List.mem_cons.1 hqm with rfl | hqm
       · exact fe hc ρ
       · exact h2 q hqm
   · cases h
theorem ti {place:Nat->Option (Nat × Nat)}:∀{l:List (Nat × SV × List SC)} {cs cs':List SC},vj place (l.map fun p=>(p.1,p.2.2)) cs=some cs'->(∀p∈l,(p.2.1.den ρ).cells=aE ρ p.2.2)->s8 place (l.map fun p=>(p.1,p.2.1.den ρ)) (aE ρ cs)=some (aE ρ cs')
 | [],cs,cs',h,_=>by cases h; rfl
 | p::l,cs,cs',h,hc=>by
   have h:(match place p.1 with
    | none=>none
    | some (off,size)=>bif Nat.beq p.2.2.length size&&Nat.ble (off+size) cs.length then vj place (l.map fun p=>(p.1,p.2.2)) (qe off p.2.2 cs) else none)=some cs':=h
   show (match place p.1 with
    | none=>none
    | some (off,size)=>if (p.2.1.den ρ).cells.length=size/\off+size<=(aE ρ cs).length then s8 place (l.map fun (p:Nat × SV × List SC)=>(p.1,p.2.1.den ρ)) (qe off (p.2.1.den ρ).cells (aE ρ cs)) else none)=_
   cases hp:place p.1 with
   | none=>rw [hp] at h; cases h
   | some q =>
     obtain⟨off,size⟩:=q
     rw [hp] at h
     simp only at h ⊢
     cases hb:(Nat.beq p.2.2.length size&&Nat.ble (off+size) cs.length) with
     | false=>rw [hb] at h; cases h
     | true =>
       rw [hb] at h
       rw [Bool.and_eq_true] at hb
       have e1:=hc p (List.mem_cons_self ..)
       have hl:(aE ρ p.2.2).length=p.2.2.length:=by simp [aE]
       have hl2:(aE ρ cs).length=cs.length:=by simp [aE]
       rw [e1,if_pos ⟨by rw [hl]; exact ai hb.1,by rw [hl2]; exact aL hb.2⟩]
       have e2:qe off (aE ρ p.2.2) (aE ρ cs)=aE ρ (qe off p.2.2 cs):=(BZ (SC.den ρ) off p.2.2 cs).symm
       rw [e2]
       exact ti h fun q hq=>hc q (List.mem_cons_of_mem _ hq)
def Ib (l:List (Nat × SV × List SC)):List (Nat × List SC):=l.map fun p=>(p.1,p.2.2)
def placesOf (P:Program) (fs:Array Field):Option (List (Nat × Nat)):=fs.toList.mapM fun f=>(P.info? f.type).map fun i=>(f.offset,i.size)
def Vf (cf:Cf) (t:TypeId) (ps:List (Nat × Operand)) (s:SS) (K:SV->SS->R):R:=match cf.P.underlying t with
 | some (.struct fs)=>(match placesOf cf.P fs,(zeroOf cf.P t).bind vd,th s ps with
   | some pl,some (.v true cs),some l=>(match vj (fun i=>pl[i]?) (Ib l) cs with | some cs'=>K (.v true cs') s | none=>.bad 77 s)
   | _,_,_=>.bad 78 s)
 | _=>.bad 79 s
theorem OP {t:TypeId} {ps:Array (Nat × Operand)} {K:SV->SS->R} (ho:(ab ops i).op=.build t ps) (hg:(ab ops i).guard=none) (hP:cf.P=c.P) (h:(Vf cf t ps.toList s K).Ok) (hk:Ok c T G Γ ρ s):Lo c T G Γ ops i s ρ K:=by
 unfold Vf at h
 rw [hP] at h
 split at h
 · rename_i fs hu
   split at h
   · rename_i pl cs l hpl hz hl
     cases hf:vj (fun i=>pl[i]?) (Ib l) cs with
     | none=>rw [hf] at h; cases h
     | some cs' =>
       rw [hf] at h
       cases hzz:zeroOf c.P t with
       | none=>rw [hzz] at hz; cases hz
       | some zz =>
         rw [hzz] at hz
         have hz:vd zz=some (.v true cs):=hz
         have e1:=mn hz ρ
         obtain⟨p1,p2⟩:=ql hk.q hl
         refine Lo.here hk h (aZ.OD hg ho hzz hu hpl p1 ?_)
         have e2:zz.cells=aE ρ cs:=by rw [<-e1]; rfl
         rw [e2]
         exact ti hf p2
   · cases h
 · cases h
def Vg (x:SV) (s:SS) (K:SV->SS->R):R:=match x with
 | .v false [.bool b]=>K (sc (.bool b.not)) s
 | _=>.bad 80 s
theorem OQ {t:TypeId} {x:Operand} {v:SV} {K:SV->SS->R} (ho:(ab ops i).op=.unOp .not t x) (hg:(ab ops i).guard=none) (h:(Vg v s K).Ok) (hk:Ok c T G Γ ρ s) (hx:ba c.nt T x (v.den ρ)):Lo c T G Γ ops i s ρ K:=by
 unfold Vg at h
 split at h
 · rename_i b
   refine Lo.here hk h ?_
   show aZ _ _ _ _ _ _ _ _ _ (.bool (b.not.ev ρ))
   rw [BE.AB]
   exact aZ.U7 hg ho hx
 · cases h
def Vh (cf:Cf) (t t':TypeId) (x:SV) (s:SS) (K:SV->SS->R):R:=match cf.P.underlying t,cf.P.underlying t',x with
 | some (.int ks),some (.int kt),.v false [.int k e]=>bif cD k ks then KO s kt (some e) K else .bad 81 s
 | _,_,_=>.bad 82 s
theorem OR {t t':TypeId} {x:Operand} {v:SV} {K:SV->SS->R} (ho:(ab ops i).op=.convert t t' x) (hg:(ab ops i).guard=none) (hP:cf.P=c.P) (h:(Vh cf t t' v s K).Ok) (hk:Ok c T G Γ ρ s) (hx:ba c.nt T x (v.den ρ)):Lo c T G Γ ops i s ρ K:=by
 unfold Vh at h
 rw [hP] at h
 split at h
 · rename_i ks kt k e hu hu'
   cases hb:cD k ks with
   | false=>rw [hb] at h; cases h
   | true =>
     rw [hb] at h
     have:k=ks:=of_decide_eq_true hb
     subst this
     simp only [cond_true] at h
     exact H3 h hk (fun e' he=>by cases he; rfl) (aZ.Mt hg ho hu hu' hx)
 · cases h
def y9:SC->Option LE
 | .str y=>some (.a (.sl y))
 | .lD l _=>some (.k l)
 | _=>none
theorem za {x:SC} {e:LE} (h:y9 x=some e) (ρ:bc):∃l m:Nat,x.den ρ=.str l m/\e.ev ρ=l:=by
 cases x<;>first | (cases h; done) | skip
 · cases h; exact⟨_,_,rfl,by rw [LE.a9]; rfl⟩
 · cases h; exact⟨_,_,rfl,by rw [LE.bp]⟩
def Vi (cf:Cf) (t:TypeId) (x y:SV) (s:SS) (K:SV->SS->R):R:=match cf.P.underlying t,x,y with
 | some .string,.v false [x],.v false [.int kd e]=>(match y9 x with
   | some l=>bif bq s e&&bq s ((l.sub e).aW (-1)) then fresh s fun z s=>K (sc (.int .u8 (.a (.n z)))) s else .bad 83 s
   | none=>.bad 84 s)
 | _,_,_=>.bad 85 s
theorem OS {t:TypeId} {x y:Operand} {v u:SV} {K:SV->SS->R} (ho:(ab ops i).op=.index t x y) (hg:(ab ops i).guard=none) (hP:cf.P=c.P) (h:(Vi cf t v u s K).Ok) (hk:Ok c T G Γ ρ s) (hx:ba c.nt T x (v.den ρ)) (hy:ba c.nt T y (u.den ρ)):Lo c T G Γ ops i s ρ K:=by
 unfold Vi at h
 rw [hP] at h
 split at h
 · rename_i x' kd e hu
   cases hl:y9 x' with
   | none=>rw [hl] at h; cases h
   | some le =>
     rw [hl] at h
     simp only at h
     obtain⟨l,m,e1,e2⟩:=za hl ρ
     cases hb:(bq s e&&bq s ((le.sub e).aW (-1))) with
     | false=>rw [hb] at h; cases h
     | true =>
       rw [hb] at h
       simp only [cond_true] at h
       rw [Bool.and_eq_true] at hb
       have k1:=ax hb.1 hk.sat
       have k2:=ax hb.2 hk.sat
       rw [LE.aJ,LE.aw,e2] at k2
       have hx:ba c.nt T x (.str l m):=by rw [<-e1]; exact hx
       have hy:ba c.nt T y (.int kd (.ofNat (e.ev ρ).toNat)):=by
        have:(SV.v false [.int kd e]).den ρ=.int kd (.ofNat (e.ev ρ).toNat):=by show AV.int kd (e.ev ρ)=_; congr 1; exact (Int.toNat_of_nonneg k1).symm
        rw [<-this]; exact hy
       have hlv:=aZ.HH hg ho hu hx hy (by omega) (P:=c.P) (n0:=c.n0) (hp:=.e) (nx:=z 0) (G:=G)
       obtain⟨h1,h2,h3,h4⟩:=az h hk (.n (Nat.mod (Nat.div m (lG (Nat.sub l ((e.ev ρ).toNat+1)))) 256))
       refine Lo.fr h3 h1 ?_
       have:(sc (.int .u8 (.a (.n s.nx)))).den (ρ.up s.nx (.n (Nat.mod (Nat.div m (lG (Nat.sub l ((e.ev ρ).toNat+1)))) 256)))=.int .u8 (.ofNat (Nat.mod (Nat.div m (lG (Nat.sub l ((e.ev ρ).toNat+1)))) 256)):=by
        show AV.int .u8 ((LE.a (.n s.nx)).ev _)=_
        rw [LE.a9]; show AV.int .u8 ((ρ.up s.nx _ s.nx).nn:Int)=_; rw [h4]; rfl
       rw [this]
       exact hlv
 · cases h
def Vj (cf:Cf) (t:TypeId) (x y:SV) (s:SS) (K:SV->SS->R):R:=match cf.P.underlying t,x,y with
 | some .string,.v false [x],.v false [.int kd e]=>(match y9 x with
   | some l=>bif bq s e&&(bq s (l.sub e)&&(e.lt s.nx&&bq s ((LE.k jJ).sub e))) then fresh s fun z s=>K (sc (.str z)) (aP (aP s ((LE.a (.sl z)).sub e)) (e.sub (.a (.sl z)))) else .bad 86 s
   | none=>.bad 87 s)
 | some (.slice el),.v false [.ref q],.v false [.int kd e]=>(match oi s.ty q with
   | some (cc,g)=>bif cf.Φ.fy cc&&(Nat.beq el (cf.Φ.ty cc)&&((cf.P.info? el).isSome&&(bq s e&&(bq s ((LE.a (.len q)).sub e)&&(bq s ((LE.a (.len q)).aW (-1))&&(e.lt s.nx&&bR s.nx g)))))) then
     fresh s fun z s=>K (sc (.ref z)) (aP (aP (bu s (.sl z cc g)) ((LE.a (.len z)).sub e)) (e.sub (.a (.len z)))) else .bad 88 s
   | none=>.bad 89 s)
 | _,_,_=>.bad 90 s
theorem AS {v:AV} {cc g:Nat} {ns:List Nat} (h:fx c.P c.Φ G Γ (.sl v cc g ns)) (hu:c.Φ.fy cc=true):ns.length<=kT/\((v=.aB/\ns=[])∨∃b cap L size C,v=.di b 0 ns.length cap/\Γ.m b=some (.cells cc g L)/\ns=L.take ns.length/\G b=some (.cells .data (c.Φ.ty cc) size C)/\cap*ae c.P (c.Φ.ty cc)<=size/\ns.length<=cap):=by
 obtain⟨hl,h⟩:=h
 refine⟨hl,?_⟩
 rcases h with h | ⟨_,h⟩ | h
 · exact .inl h
 · cases h with
   | nil=>exact .inl ⟨rfl,rfl⟩
   | emp hu'=>rw [hu] at hu'; cases hu'
   | aR _ hu' _ _=>rw [hu] at hu'; cases hu'
 · exact .inr h
theorem OT {t:TypeId} {x:Operand} {y:Nat} {v u:SV} {K:SV->SS->R} (ho:(ab ops i).op=.slice t x none (some (.tmp y)) none) (hg:(ab ops i).guard=none) (hP:cf.P=c.P) (hΦ:cf.Φ=c.Φ) (h:(Vj cf t v u s K).Ok) (hk:Ok c T G Γ ρ s) (hx:ba c.nt T x (v.den ρ)) (hy:T.at y=u.den ρ):Lo c T G Γ ops i s ρ K:=by
 unfold Vj at h
 rw [hP,hΦ] at h
 split at h
 · rename_i x' kd e hu
   cases hl:y9 x' with
   | none=>rw [hl] at h; cases h
   | some le =>
     rw [hl] at h
     simp only at h
     obtain⟨l,m,e1,e2⟩:=za hl ρ
     cases hb:(bq s e&&(bq s (le.sub e)&&(e.lt s.nx&&bq s ((LE.k jJ).sub e)))) with
     | false=>rw [hb] at h; cases h
     | true =>
       rw [hb] at h
       simp only [cond_true] at h
       simp only [Bool.and_eq_true] at hb
       obtain⟨b1,b2,b3,b4⟩:=hb
       have k1:=ax b1 hk.sat
       have k2:=ax b2 hk.sat
       have k3:=ax b4 hk.sat
       rw [LE.aw,e2] at k2
       rw [LE.aw,LE.bp] at k3
       have hlim:(e.ev ρ).toNat<=jJ:=by omega
       have hx:ba c.nt T x (.str l m):=by rw [<-e1]; exact hx
       have hy:T.at y=.int kd (.ofNat (e.ev ρ).toNat):=hy.trans (by show AV.int kd (e.ev ρ)=_; congr 1; exact (Int.toNat_of_nonneg k1).symm)
       have hlv:=aZ.Ru hg ho hu hx hy (by omega) (P:=c.P) (n0:=c.n0) (nt:=c.nt) (hp:=.e) (nx:=z 0) (G:=G)
       obtain⟨h1,h2,h3,h4⟩:=az h hk (.s (e.ev ρ).toNat (Nat.div m (lG (Nat.sub l (e.ev ρ).toNat))))
       have hsl:(LE.a (.sl s.nx)).ev (ρ.up s.nx (.s (e.ev ρ).toNat (Nat.div m (lG (Nat.sub l (e.ev ρ).toNat)))))=e.ev ρ:=by
        rw [LE.a9]; show ((ρ.up s.nx _ s.nx).sl:Int)=_; rw [h4,U.nB hlim]; exact Int.toNat_of_nonneg k1
       refine fa.mk h2 (Nat.le_succ _) ((h3.aP ?_).aP ?_) ⟨_,h1,?_⟩
       · rw [LE.aw,hsl,LE.bP h2 b3]; omega
       · rw [LE.aw,hsl,LE.bP h2 b3]; omega
       · show aZ _ _ _ _ _ _ _ _ _ (.str (ρ.up s.nx _ s.nx).sl (ρ.up s.nx _ s.nx).sm)
         rw [h4,U.nB hlim]; exact hlv
 · rename_i el q kd e hu
   cases hf:oi s.ty q with
   | none=>rw [hf] at h; cases h
   | some p =>
     obtain⟨cc,g⟩:=p
     rw [hf] at h
     simp only at h
     cases hb:(c.Φ.fy cc&&(Nat.beq el (c.Φ.ty cc)&&((c.P.info? el).isSome&&(bq s e&&(bq s ((LE.a (.len q)).sub e)&&(bq s ((LE.a (.len q)).aW (-1))&&(e.lt s.nx&&bR s.nx g))))))) with
     | false=>rw [hb] at h; cases h
     | true =>
       rw [hb] at h
       simp only [cond_true] at h
       simp only [Bool.and_eq_true] at hb
       obtain⟨b0,b1,b2,b3,b4,b5,b6,b7⟩:=hb
       have b1:=ai b1
       subst b1
       have k1:=ax b3 hk.sat
       have k2:=ax b4 hk.sat
       have k3:=ax b5 hk.sat
       rw [LE.aw,LE.a9] at k2
       rw [LE.aJ,LE.a9] at k3
       have k2:0<=((ρ q).ns.length:Int)-e.ev ρ:=k2
       have k3:0<=((ρ q).ns.length:Int)+-1:=k3
       have ht:=hk.ty (ia hf)
       obtain⟨hlim,ht⟩:=AS ht b0
       rcases ht with ⟨_,h0⟩ | ⟨b,cap,L,size,C,q1,q2,q3,q4,q5,q6⟩
       · rw [h0] at k3; simp at k3
       · have hx:ba c.nt T x (.di b 0 (ρ q).ns.length cap):=by have hx:ba c.nt T x (ρ q).vv:=hx; rw [q1] at hx; exact hx
         have hy:T.at y=.int kd (.ofNat (e.ev ρ).toNat):=hy.trans (by show AV.int kd (e.ev ρ)=_; congr 1; exact (Int.toNat_of_nonneg k1).symm)
         have hlv:=aZ.UZ hg ho hu b2 hx hy (by omega) (P:=c.P) (n0:=c.n0) (nt:=c.nt) (hp:=.e) (nx:=z 0) (G:=G)
         have hLL:=j3 q3
         have hlen:(L.take (e.ev ρ).toNat).length=(e.ev ρ).toNat:=by rw [List.length_take]; omega
         obtain⟨h1,h2,h3,h4⟩:=az h hk (.v (.di b 0 (e.ev ρ).toNat cap) (L.take (e.ev ρ).toNat))
         have e1:(ρ.up s.nx (.v (.di b 0 (e.ev ρ).toNat cap) (L.take (e.ev ρ).toNat)) s.nx).vv=.di b 0 (e.ev ρ).toNat cap:=by rw [h4]; rfl
         have e2:(ρ.up s.nx (.v (.di b 0 (e.ev ρ).toNat cap) (L.take (e.ev ρ).toNat)) s.nx).ns=L.take (e.ev ρ).toNat:=by rw [h4]; exact U.j4 (by rw [hlen]; omega)
         have hl2:(LE.a (.len s.nx)).ev (ρ.up s.nx (.v (.di b 0 (e.ev ρ).toNat cap) (L.take (e.ev ρ).toNat)))=e.ev ρ:=by
          rw [LE.a9]; show ((ρ.up s.nx _ s.nx).ns.length:Int)=_; rw [e2,hlen]; exact Int.toNat_of_nonneg k1
         refine fa.mk h2 (Nat.le_succ _) (((h3.bu (f:=.sl s.nx cc g) ?_).aP ?_).aP ?_) ⟨_,h1,?_⟩
         · show fx c.P c.Φ G Γ (.sl _ cc (ig _ g) _)
           rw [e1,e2,bV h2 b7]
           exact⟨by rw [hlen]; omega,.inr (.inr ⟨b,cap,L,size,C,by rw [hlen],q2,by rw [hlen],q4,q5,by rw [hlen]; omega⟩)⟩
         · rw [LE.aw,hl2,LE.bP h2 b6]; omega
         · rw [LE.aw,hl2,LE.bP h2 b6]; omega
         · show aZ _ _ _ _ _ _ _ _ _ (ρ.up s.nx _ s.nx).vv
           rw [e1]; exact hlv
 · cases h
end
end Go.Rd
namespace Go.Rd
open Go.aQ Go.RowKit Go.Rt
theorem vk {k v:AV}:∀{es:List (AV × AV)},cq k es=some v->∃p∈es,p.2=v/\aY k p.1=true
 | [],h=>by cases h
 | p::es,h=>by
   have h:(bif aY k p.1 then some p.2 else cq k es)=some v:=h
   cases hq:aY k p.1 with
   | true=>rw [hq] at h; exact⟨p,List.mem_cons_self ..,Option.some.inj h,hq⟩
   | false =>
     rw [hq] at h
     obtain⟨q,h1,h2⟩:=vk h
     exact⟨q,List.mem_cons_of_mem _ h1,h2⟩
def XF:KK->KK->Bool
 | .str,.str=>true | .pair,.pair=>true | .int,.int=>true | .iD,.iD=>true | .mf,.mf=>true | .u9,.u9=>true | _,_=>false
theorem OU {a b:KK} (h:XF a b=true):a=b:=by cases a<;>cases b<;>first | rfl | cases h
def gK (cf:Cf) (kt:TypeId) (pk:KK):Bool:=cf.keys.any fun p=>Nat.beq p.1 kt&&XF p.2 pk
def eo (cf:Cf):Prop:=∀p∈cf.keys,lC cf.P p.1 p.2
theorem ib {cf:Cf} {kt:TypeId} {pk:KK} (h:gK cf kt pk=true) (hk:eo cf):lC cf.P kt pk:=by
 obtain⟨p,h1,h2⟩:=List.any_eq_true.1 h
 rw [Bool.and_eq_true] at h2
 have:=Nat.eq_of_beq_eq_true h2.1
 subst this
 have:=OU h2.2
 subst this
 exact hk p h1
def fq (pk:KK) (x:SV):Bool:=match pk,x with
 | .str,.v false [x]=>(strOf x).isSome
 | .mf,.v false [x]=>(strOf x).isSome
 | .pair,.v true [x,y]=>(strOf x).isSome&&(strOf y).isSome
 | .int,.v false [.int k _]=>eW k
 | .iD,.v true [.int k _,.int k' _]=>eW k&&eW k'
 | .u9,.v true [x,.int k _,.bool _]=>(strOf x).isSome&&eW k
 | _,_=>false
theorem fg {pk:KK} {x:SV} (h:fq pk x=true) (ρ:bc):dK pk (x.den ρ):=by
 unfold fq at h
 split at h
 · rename_i x
   obtain⟨q,hq⟩:=Option.isSome_iff_exists.1 h
   obtain⟨l,m,e,_⟩:=ew hq ρ
   exact⟨l,m,e⟩
 · rename_i x
   obtain⟨q,hq⟩:=Option.isSome_iff_exists.1 h
   obtain⟨l,m,e,_⟩:=ew hq ρ
   exact⟨l,m,e,j5 h e⟩
 · rename_i x y
   rw [Bool.and_eq_true] at h
   obtain⟨q,hq⟩:=Option.isSome_iff_exists.1 h.1
   obtain⟨q',hq'⟩:=Option.isSome_iff_exists.1 h.2
   obtain⟨l,m,e,_⟩:=ew hq ρ
   obtain⟨l',m',e',_⟩:=ew hq' ρ
   exact⟨l,m,l',m',by show AV.agg [x.den ρ,y.den ρ]=_; rw [e,e']⟩
 · rename_i k e
   have:=dU h
   subst this
   exact⟨_,rfl⟩
 · rename_i k e k' e'
   rw [Bool.and_eq_true] at h
   have:=dU h.1
   have:=dU h.2
   subst_vars
   exact⟨_,_,rfl⟩
 · rename_i x k e b
   rw [Bool.and_eq_true] at h
   obtain⟨q,hq⟩:=Option.isSome_iff_exists.1 h.1
   obtain⟨l,m,e0,_⟩:=ew hq ρ
   have:=dU h.2
   subst this
   exact⟨l,m,_,_,by show AV.agg [x.den ρ,.int .i64 _,.bool _]=_; rw [e0]⟩
 · cases h
def wW:List (Nat × SC × LE)->Nat->SC->Option LE
 | [],_,_=>none
 | p::l,d,x=>bif Nat.beq p.1 d&&p.2.1.same x then some p.2.2 else wW l d x
theorem pz:∀{l:List (Nat × SC × LE)} {d:Nat} {x:SC} {e:LE},wW l d x=some e->∃x',(d,x',e)∈l/\∀ρ,x'.den ρ=x.den ρ
 | [],d,x,e,h=>by cases h
 | p::l,d,x,e,h=>by
   have h:(bif Nat.beq p.1 d&&p.2.1.same x then some p.2.2 else wW l d x)=some e:=h
   cases hb:(Nat.beq p.1 d&&p.2.1.same x) with
   | true =>
     rw [hb] at h; cases h
     rw [Bool.and_eq_true] at hb
     have:=Nat.eq_of_beq_eq_true hb.1; subst this
     exact⟨p.2.1,List.mem_cons_self ..,SC.bj hb.2⟩
   | false=>rw [hb] at h; obtain⟨x',h1,h2⟩:=pz h; exact⟨x',List.mem_cons_of_mem _ h1,h2⟩
def AW (ok:Bool) (x:Bool × List SC):SV:=bif ok then .cu [x,(false,[.bool (.k true)])] else .v x.1 x.2
def lz (ok:Bool) (x:Bool × List SC):SV:=bif ok then .cu [x,(false,[.bool (.k false)])] else .v x.1 x.2
def Uw (cf:Cf) (g b:Nat) (k:SV) (ok:Bool) (zr:Bool × List SC) (s:SS) (K:SV->SS->R):R:=match k,ghost s.gs g with
 | .v false [x],some d=>(match wW s.ats d x with
   | some e=>bif bq s e then K (AW ok (false,[.int .i64 e])) (aP s (((LE.a (.gn d b)).sub e).aW (-1))) else bif bq s ((LE.k (-1)).sub e) then K (lz ok zr) s else .bad 88 s
   | none=>bif x.lt s.nx&&Nat.blt d s.nx then (K (lz ok zr) (ly s (d,x,.k (-1)))).and (fresh s fun n s=>K (AW ok (false,[.int .i64 (.a (.n n))])) (ly (aP s (((LE.a (.gn d b)).sub (.a (.n n))).aW (-1))) (d,x,.a (.n n)))) else .bad 92 s)
 | _,_=>.bad 93 s
def Ux (cf:Cf) (g:Nat) (mv:MV) (k:SV) (ok:Bool) (zr:Bool × List SC) (s:SS) (K:SV->SS->R):R:=match mv with
 | .kd kd=>bif bR s.nx g&&JC s.nx (ghost s.gs g) then (K (lz ok zr) s).and (td cf g (ghost s.gs g) (.k 0) kd s fun x _ s=>K (AW ok (false,[x])) s) else .bad 91 s
 | .unit=>(K (lz ok zr) s).and (K (AW ok (true,[])) s)
 | .JB b=>Uw cf g b k ok zr s K
 | .HK=>(match k,ghost s.gs g with
   | .v true [x,_],some d=>bif x.lt s.nx&&Nat.blt d s.nx then (K (lz ok zr) s).and (fresh s fun j s=>fresh s fun f s=>fresh s fun n s=>K (AW ok (false,[.int .i64 (.a (.n n))])) (ve (ly (aP s (((LE.a (.n f)).sub (.a (.n n))).aW (-1))) (d,x,.a (.n j))) (d,.a (.n j),.a (.n f)))) else .bad 92 s
   | _,_=>.bad 93 s)
def Uy (cf:Cf) (t:TypeId) (m k:SV) (ok:Bool) (s:SS) (K:SV->SS->R):R:=match cf.P.underlying t with
 | some (.map kt et)=>(match (zeroOf cf.P et).bind vd with
   | some (.v ag cs)=>(match m with
     | .v false [.aV]=>bif gK cf kt .str&&fq .str k||(gK cf kt .pair&&fq .pair k||(gK cf kt .int&&fq .int k||gK cf kt .iD&&fq .iD k)) then K (lz ok (ag,cs)) s else .bad 94 s
     | .v false [.ref y]=>(match wP s.ty y with
       | some (cc,g)=>bif gK cf kt (cf.Φ.pk cc)&&fq (cf.Φ.pk cc) k then Ux cf g (cf.Φ.mv cc) k ok (ag,cs) s K else .bad 95 s
       | none=>.bad 96 s)
     | _=>.bad 97 s)
   | _=>.bad 98 s)
 | _=>.bad 99 s
section
variable {c:Cx} {T:Tm} {G:GH} {Γ:c8} {ρ ρ':bc} {s s':SS} {cf:Cf} {ops:Array Oper} {i:Nat}
theorem aZ.D7 {P:Program} {n0 nt:Nat} {hp:Tr AO} {nx:Pz} {t kt et:TypeId} {ym yk:Operand} {ok:Bool} {pk:KK} {z k:AV} (hg:(ab ops i).guard=none) (ho:(ab ops i).op=.lookup t ym yk ok) (hu:P.underlying t=some (.map kt et)) (hz:zeroOf P et=some z) (hM:lC P kt pk)
  (hm:ba nt T ym .aV) (hk:ba nt T yk k) (hkf:dK pk k):aZ P ops n0 nt i T hp nx G (if ok then .cu [z,.bool false] else z):=by
 refine bQ hg fun B w0 ι a w hs=>?_
 have hval:=(hs.1.2 ι (al.refl _ _)).1
 obtain⟨dd,hd⟩:=hM.Mp
 obtain⟨_,zv,_,_,_,hzero⟩:=cm hz
 simp only [execOp,ho,Sem.run_bind]
 rw [hm ι a hval,hk ι a hval]
 have hfind:(Instr.findKey kt (aj ι k) (#[]:Array MapEntry).toList).run P w=.ok none w:=by
  simp [Instr.findKey,av hd,Instr.findNow]
 simp only [aj,Instr.lookup,Sem.run_bind,av hu,Result.andThen_ok,Sem.run_pure,hM.zF k hkf,hfind,hzero ι]
 cases ok<;>simp [aj,ao]
theorem mZ (ok:Bool) (x:Bool × List SC) (ρ:bc):(AW ok x).den ρ=(if ok then .cu [dH ρ x,.bool true] else dH ρ x):=by cases ok<;>rfl
theorem j6 (ok:Bool) (x:Bool × List SC) (ρ:bc):(lz ok x).den ρ=(if ok then .cu [dH ρ x,.bool false] else dH ρ x):=by cases ok<;>rfl
theorem Ic {g b:Nat} {k:SV} {ok:Bool} {zr:Bool × List SC} {K:SV->SS->R} {es:List (AV × AV)} {z:AV} (h:(Uw cf g b k ok zr s K).Ok) (hk:Ok c T G Γ ρ s) (hz:∀ρ,dH ρ zr=z) (hks:fq .str k=true) (hat:∀l n,cq (.str l n) es=((Γ.gd (ig ρ g)).at_ l n).map fun j=>.int .i64 (.ofNat j)) (hb:∀l n j,(Γ.gd (ig ρ g)).at_ l n=some j->j<(Γ.gd (ig ρ g)).n b)
  (hl:aZ c.P ops c.n0 c.nt i T .e (aQ.z 0) G (match cq (k.den ρ) es with | some v=>(if ok then .cu [v,.bool true] else v) | none=>(if ok then .cu [z,.bool false] else z))):Lo c T G Γ ops i s ρ K:=by
 have miss:(K (lz ok zr) s).Ok->cq (k.den ρ) es=none->Lo c T G Γ ops i s ρ K:=fun h hf=>by
  rw [hf] at hl
  exact Lo.here hk h (by rw [j6,hz]; exact hl)
 unfold Uw at h
 split at h
 · rename_i x d hgd
   have hdd:=cE hgd hk
   rw [hdd] at hat hb
   obtain⟨l,m,ek⟩:=fg hks ρ
   have ek':x.den ρ=.str l m:=ek
   rw [ek,hat] at hl
   cases ha:wW s.ats d x with
   | some e =>
     rw [ha] at h
     simp only at h
     obtain⟨x',m1,m2⟩:=pz ha
     cases he:bq s e with
     | true =>
       rw [he] at h
       have hpos:=ax he hk.sat
       rcases hk.sat.ats _ m1 with ⟨q1,q2⟩ | ⟨q1,_⟩
       · have q2:zH (ρ d).gg (x'.den ρ)=some (e.ev ρ).toNat:=q2
         have q1:0<=e.ev ρ:=q1
         rw [m2 ρ,ek'] at q2
         have q2:(ρ d).gg.at_ l m=some (e.ev ρ).toNat:=q2
         rw [q2] at hl
         have hlt:=hb l m _ q2
         refine Lo.to (s':=aP s (((LE.a (.gn d b)).sub e).aW (-1))) rfl (Lo.here (hk.aP ?_) h ?_)
         · rw [LE.aJ,LE.aw,LE.a9]
           show 0<=(((ρ d).gg.n b:Nat):Int)-e.ev ρ+-1
           omega
         rw [mZ]
         have e1:dH ρ (false,[SC.int .i64 e])=.int .i64 (.ofNat (e.ev ρ).toNat):=by show AV.int .i64 (e.ev ρ)=_; congr 1; exact (Int.toNat_of_nonneg q1).symm
         rw [e1]; exact hl
       · have q1:e.ev ρ<0:=q1
         omega
     | false =>
       rw [he] at h
       simp only [cond_false] at h
       cases he2:bq s ((LE.k (-1)).sub e) with
       | false=>rw [he2] at h; cases h
       | true =>
         rw [he2] at h
         have hneg:=ax he2 hk.sat
         rw [LE.aw,LE.bp] at hneg
         rcases hk.sat.ats _ m1 with ⟨q1,_⟩ | ⟨_,q2⟩
         · have q1:0<=e.ev ρ:=q1
           omega
         · have q2:zH (ρ d).gg (x'.den ρ)=none:=q2
           rw [m2 ρ,ek'] at q2
           have q2:(ρ d).gg.at_ l m=none:=q2
           exact miss h (by rw [ek,hat,q2]; rfl)
   | none =>
     rw [ha] at h
     simp only at h
     cases hbb:(x.lt s.nx&&Nat.blt d s.nx) with
     | false=>rw [hbb] at h; cases h
     | true =>
       rw [hbb] at h
       simp only [cond_true] at h
       rw [Bool.and_eq_true] at hbb
       obtain⟨h1,h2⟩:=R.fV h
       cases hj:(ρ d).gg.at_ l m with
       | none =>
         rw [hj] at hl
         refine Lo.to (s':=ly s (d,x,.k (-1))) rfl (Lo.here (hk.ly (p:=(d,x,.k (-1))) (.inr ⟨by rw [LE.bp]; decide,?_⟩)) h1 (by rw [j6,hz]; exact hl))
         show zH (ρ d).gg (x.den ρ)=none
         rw [ek']; exact hj
       | some j =>
         rw [hj] at hl
         obtain⟨k1,k2,k3,k4⟩:=az h2 hk (.n j)
         have hev:(LE.a (.n s.nx)).ev (ρ.up s.nx (.n j))=j:=by rw [LE.a9]; show ((ρ.up s.nx (.n j) s.nx).nn:Int)=j; rw [k4]; rfl
         have hd2:=k2 d (au hbb.2)
         refine fa.mk k2 (Nat.le_succ _) ((k3.aP ?_).ly ?_) ⟨_,k1,?_⟩
         · rw [LE.aJ,LE.aw,hev,LE.a9]
           show 0<=(((ρ.up s.nx (.n j) d).gg.n b:Nat):Int)-j+-1
           rw [hd2]
           have:=hb l m j hj
           omega
         · refine .inl ?_
           show 0<=(LE.a (.n s.nx)).ev _/\zH (ρ.up s.nx (.n j) d).gg (x.den (ρ.up s.nx (.n j)))=some ((LE.a (.n s.nx)).ev _).toNat
           rw [hev,hd2,SC.bP k2 hbb.1,ek']
           exact⟨Int.natCast_nonneg _,hj⟩
         · rw [mZ]
           have e1:dH (ρ.up s.nx (.n j)) (false,[SC.int .i64 (.a (.n s.nx))])=.int .i64 (.ofNat j):=by show AV.int .i64 ((LE.a (.n s.nx)).ev _)=_; rw [hev]; rfl
           rw [e1]; exact hl
 · cases h
theorem Ie {g:Nat} {cc:Nat} {k:SV} {ok:Bool} {zr:Bool × List SC} {K:SV->SS->R} {es:List (AV × AV)} {z:AV} (hΦ:cf.Φ=c.Φ) (h:(Ux cf g (c.Φ.mv cc) k ok zr s K).Ok) (hk:Ok c T G Γ ρ s) (hz:∀ρ,dH ρ zr=z) (hks:fq (c.Φ.pk cc) k=true) (hM:eE c.P c.Φ G Γ cc (ig ρ g) es)
  (hl:aZ c.P ops c.n0 c.nt i T .e (aQ.z 0) G (match cq (k.den ρ) es with | some v=>(if ok then .cu [v,.bool true] else v) | none=>(if ok then .cu [z,.bool false] else z))):Lo c T G Γ ops i s ρ K:=by
 obtain⟨hkeys,hM⟩:=hM
 have miss:(K (lz ok zr) s).Ok->cq (k.den ρ) es=none->Lo c T G Γ ops i s ρ K:=fun h hf=>by
  rw [hf] at hl
  exact Lo.here hk h (by rw [j6,hz]; exact hl)
 unfold Ux at h
 cases hmv:c.Φ.mv cc with
 | kd kd =>
   rw [hmv] at h hM
   simp only at h hM
   cases hb:(bR s.nx g&&JC s.nx (ghost s.gs g)) with
   | false=>rw [hb] at h; cases h
   | true =>
     rw [hb] at h
     simp only [cond_true] at h
     rw [Bool.and_eq_true] at hb
     obtain⟨h1,h2⟩:=R.fV h
     cases hf:cq (k.den ρ) es with
     | none=>exact miss h1 hf
     | some v =>
       rw [hf] at hl
       obtain⟨p,m1,rfl⟩:=mU hf
       obtain⟨fs,kv,kf⟩:=hM p m1
       refine (AJ h2 hΦ hk hb.1 (J:=0) (fun dv hd=>?_) ⟨rfl,by rw [LE.bp]; exact Int.le_refl _,by rw [LE.bp]; rfl⟩ kv kf).mono fun ρ' s' a1 n1 o1 hh=>?_
       · have:=hb.2; rw [hd] at this; exact⟨au this,cE hd hk⟩
       · obtain⟨x,o,g1,g2,_⟩:=hh
         refine⟨_,g1,?_⟩
         rw [mZ]
         show aZ _ _ _ _ _ _ _ _ _ (if ok then .cu [x.den ρ',.bool true] else x.den ρ')
         rw [g2]; exact hl
 | unit =>
   rw [hmv] at h hM
   simp only at h hM
   obtain⟨h1,h2⟩:=R.fV h
   cases hf:cq (k.den ρ) es with
   | none=>exact miss h1 hf
   | some v =>
     rw [hf] at hl
     obtain⟨p,m1,rfl⟩:=mU hf
     rw [hM p m1] at hl
     exact Lo.here hk h2 (by rw [mZ]; exact hl)
 | JB b =>
   rw [hmv] at h hM
   simp only at h hM
   obtain⟨hpk,_,hat,hb⟩:=hM
   rw [hpk] at hks
   exact Ic h hk hz hks hat hb hl
 | HK =>
   rw [hmv] at h hM
   simp only at h hM
   obtain⟨hpk,_,hrs,hfi⟩:=hM
   split at h
   · rename_i x y d hgd
     have hdd:=cE hgd hk
     rw [hdd] at hrs hfi
     rw [hpk] at hks
     obtain⟨l,m,l2,m2,ek⟩:=fg hks ρ
     have ek0:AV.agg [x.den ρ,y.den ρ]=.agg [.str l m,.str l2 m2]:=ek
     have ek':x.den ρ=.str l m:=by injection ek0 with e; exact (List.cons.inj e).1
     cases hbb:(x.lt s.nx&&Nat.blt d s.nx) with
     | false=>rw [hbb] at h; cases h
     | true =>
       rw [hbb] at h
       simp only [cond_true] at h
       rw [Bool.and_eq_true] at hbb
       obtain⟨h1,h2⟩:=R.fV h
       cases hf:cq (SV.den ρ (SV.v true [x,y])) es with
       | none=>exact miss h1 hf
       | some v =>
         rw [hf] at hl
         obtain⟨p,m1,rfl,m3⟩:=vk hf
         obtain⟨a,an,b,bn,q,j,e1,e2,e3,e4,e5⟩:=hfi p m1
         rw [ek,e1] at m3
         have m3:(aO l m a an&&aO l2 m2 b bn)=true:=m3
         rw [Bool.and_eq_true] at m3
         have hat:(ρ d).gg.at_ l m=some j:=by rw [hrs l m a an m3.1]; exact e4
         obtain⟨k1,k2,k3,k4⟩:=az h2 hk (.n j)
         obtain⟨r1,r2,r3,r4⟩:=az k1 k3 (.n ((ρ d).gg.fl j))
         obtain⟨t1,t2,t3,t4⟩:=az r1 r3 (.n q)
         have hd:=au hbb.2
         have A:de s.nx ρ (((ρ.up s.nx (.n j)).up (s.nx+1) (.n ((ρ d).gg.fl j))).up (s.nx+2) (.n q)):=fun w hw=>by simp only [bc.up]; rw [if_neg (by omega),if_neg (by omega),if_neg (by omega)]
         have v1:(LE.a (.n s.nx)).ev (((ρ.up s.nx (.n j)).up (s.nx+1) (.n ((ρ d).gg.fl j))).up (s.nx+2) (.n q))=j:=by rw [LE.a9]; simp [At.ev,bc.up,U.nn]
         have v2:(LE.a (.n (s.nx+1))).ev (((ρ.up s.nx (.n j)).up (s.nx+1) (.n ((ρ d).gg.fl j))).up (s.nx+2) (.n q))=((ρ d).gg.fl j:Nat):=by rw [LE.a9]; simp [At.ev,bc.up,U.nn]
         have v3:(LE.a (.n (s.nx+2))).ev (((ρ.up s.nx (.n j)).up (s.nx+1) (.n ((ρ d).gg.fl j))).up (s.nx+2) (.n q))=q:=by rw [LE.a9]; simp [At.ev,bc.up,U.nn]
         refine fa.mk A (by show s.nx<=s.nx+1+1+1; omega) (((t3.aP (e:=((LE.a (.n (s.nx+1))).sub (.a (.n (s.nx+2)))).aW (-1)) ?_).ly (p:=(d,x,.a (.n s.nx))) ?_).ve (p:=(d,.a (.n s.nx),.a (.n (s.nx+1)))) ?_) ⟨_,t1,?_⟩
         · refine Eq.subst (motive:=fun y=>0<=y) (LE.aJ _ _ _).symm ?_
           rw [LE.aw]
           have v2':=v2
           have v3':=v3
           show 0<=(LE.a (.n (s.nx+1))).ev _-(LE.a (.n (s.nx+2))).ev _+-1
           refine le_of_le_of_eq (b:=((ρ d).gg.fl j:Int)-q+-1) (by omega) ?_
           congr 2
           · exact v2.symm
           · exact v3.symm
         · refine .inl ?_
           show 0<=(LE.a (.n s.nx)).ev _/\zH _ _=some ((LE.a (.n s.nx)).ev _).toNat
           refine⟨by show 0<=(LE.a (.n s.nx)).ev (((ρ.up s.nx (.n j)).up (s.nx+1) (.n ((ρ d).gg.fl j))).up (s.nx+2) (.n q)); rw [v1]; exact Int.natCast_nonneg _,?_⟩
           show zH ((((ρ.up s.nx (.n j)).up (s.nx+1) (.n ((ρ d).gg.fl j))).up (s.nx+2) (.n q)) d).gg (x.den (((ρ.up s.nx (.n j)).up (s.nx+1) (.n ((ρ d).gg.fl j))).up (s.nx+2) (.n q)))=some ((LE.a (.n s.nx)).ev (((ρ.up s.nx (.n j)).up (s.nx+1) (.n ((ρ d).gg.fl j))).up (s.nx+2) (.n q))).toNat
           rw [v1,A d hd,SC.bP A hbb.1,ek']
           exact hat
         · show 0<=(LE.a (.n s.nx)).ev (((ρ.up s.nx (.n j)).up (s.nx+1) (.n ((ρ d).gg.fl j))).up (s.nx+2) (.n q))/\((((ρ.up s.nx (.n j)).up (s.nx+1) (.n ((ρ d).gg.fl j))).up (s.nx+2) (.n q)) d).gg.fz=true/\((((((ρ.up s.nx (.n j)).up (s.nx+1) (.n ((ρ d).gg.fl j))).up (s.nx+2) (.n q)) d).gg.fl ((LE.a (.n s.nx)).ev (((ρ.up s.nx (.n j)).up (s.nx+1) (.n ((ρ d).gg.fl j))).up (s.nx+2) (.n q))).toNat:Nat):Int)=(LE.a (.n (s.nx+1))).ev (((ρ.up s.nx (.n j)).up (s.nx+1) (.n ((ρ d).gg.fl j))).up (s.nx+2) (.n q))
           rw [v1,v2,A d hd]
           exact⟨Int.natCast_nonneg _,e3,rfl⟩
         · rw [mZ]
           have ee:dH (((ρ.up s.nx (.n j)).up (s.nx+1) (.n ((ρ d).gg.fl j))).up (s.nx+2) (.n q)) (false,[SC.int .i64 (.a (.n (s.nx+2)))])=.int .i64 (.ofNat q):=by show AV.int .i64 ((LE.a (.n (s.nx+2))).ev _)=_; rw [v3]; rfl
           rw [e2] at hl
           show aZ _ _ _ _ _ _ _ _ _ (if ok then .cu [dH (((ρ.up s.nx (.n j)).up (s.nx+1) (.n ((ρ d).gg.fl j))).up (s.nx+2) (.n q)) (false,[SC.int .i64 (.a (.n (s.nx+2)))]),.bool true] else dH (((ρ.up s.nx (.n j)).up (s.nx+1) (.n ((ρ d).gg.fl j))).up (s.nx+2) (.n q)) (false,[SC.int .i64 (.a (.n (s.nx+2)))]))
           rw [ee]; exact hl
   · cases h
theorem Ig {t:TypeId} {x y:Operand} {v u:SV} {ok:Bool} {K:SV->SS->R} (ho:(ab ops i).op=.lookup t x y ok) (hg:(ab ops i).guard=none) (hP:cf.P=c.P) (hΦ:cf.Φ=c.Φ) (hK:eo cf) (h:(Uy cf t v u ok s K).Ok) (hk:Ok c T G Γ ρ s) (hx:ba c.nt T x (v.den ρ)) (hy:ba c.nt T y (u.den ρ)):Lo c T G Γ ops i s ρ K:=by
 unfold Uy at h
 rw [hP] at h
 split at h
 · rename_i kt et hu
   split at h
   · rename_i ag cs hz
     cases hzz:zeroOf c.P et with
     | none=>rw [hzz] at hz; cases hz
     | some zz =>
       rw [hzz] at hz
       have hz:vd zz=some (.v ag cs):=hz
       have hz1:∀ρ,dH ρ (ag,cs)=zz:=fun ρ=>mn hz ρ
       split at h
       · have key:∀pk,gK cf kt pk=true->fq pk u=true->(K (lz ok (ag,cs)) s).Ok->Lo c T G Γ ops i s ρ K:=fun pk h1 h2 h=>by
          have hMt:=ib h1 hK
          rw [hP] at hMt
          exact Lo.here hk h (by rw [j6,hz1]; exact aZ.D7 hg ho hu hzz hMt hx hy (fg h2 ρ))
         cases hb:(gK cf kt .str&&fq .str u||(gK cf kt .pair&&fq .pair u||(gK cf kt .int&&fq .int u||gK cf kt .iD&&fq .iD u))) with
         | false=>rw [hb] at h; cases h
         | true =>
           rw [hb] at h
           simp only [Bool.or_eq_true,Bool.and_eq_true] at hb
           rcases hb with ⟨h1,h2⟩ | ⟨h1,h2⟩ | ⟨h1,h2⟩ | ⟨h1,h2⟩
           · exact key _ h1 h2 h
           · exact key _ h1 h2 h
           · exact key _ h1 h2 h
           · exact key _ h1 h2 h
       · rename_i q
         cases hm:wP s.ty q with
         | none=>rw [hm] at h; cases h
         | some p =>
           obtain⟨cc,g⟩:=p
           rw [hm] at h
           simp only at h
           rw [hΦ] at h
           cases hb:(gK cf kt (c.Φ.pk cc)&&fq (c.Φ.pk cc) u) with
           | false=>rw [hb] at h; cases h
           | true =>
             rw [hb] at h
             rw [Bool.and_eq_true] at hb
             have hMt:=ib hb.1 hK
             rw [hP] at hMt
             obtain⟨b,q1,q2⟩:=hk.ty (iN hm)
             obtain⟨_,es,r1,r2,r3⟩:=hk.q.ht.b _ _ q2
             have hx:ba c.nt T x (.dG b):=by have hx:ba c.nt T x (ρ q).vv:=hx; rw [q1] at hx; exact hx
             exact Ie hΦ h hk hz1 hb.2 r3 (aZ.lookup hg ho hu hzz hMt hx hy (fg hb.2 ρ) r1 r3.1)
       · cases h
   · cases h
 · cases h
end
end Go.Rd
namespace Go.Rd
open Go.aQ Go.RowKit Go.Rt
def wv (s:SS) (x:Operand) (K:SV->R):R:=match KJ s x with | some v=>K v | none=>.bad 10 s
def Vk (cf:Cf) (o:Op) (s:SS) (K:SV->SS->R):R:=match o with
 | .move x=>wv s x fun v=>K v s
 | .assign x=>wv s x fun v=>K v s
 | .extract x k=>wv s x fun v=>Vc v k s K
 | .field t x f=>wv s x fun v=>Vd cf t v f s K
 | .pick x a b=>wv s x fun v=>Ve v (KJ s a) (KJ s b) s K
 | .build t ps=>Vf cf t ps.toList s K
 | .unOp .not _ x=>wv s x fun v=>Vg v s K
 | .binOp op t x y _=>wv s x fun v=>wv s y fun u=>Vb cf op t v u s K
 | .fieldAddr t (.tmp x) f=>wv s (.tmp x) fun v=>RF cf t v f s K
 | .nilCheck (.tmp x)=>wv s (.tmp x) fun v=>RG v s K
 | .load t (.tmp x)=>wv s (.tmp x) fun v=>RJ cf t v s K
 | .indexAddr t (.tmp x) y=>wv s (.tmp x) fun v=>wv s y fun u=>RH cf t v u s K
 | .lookup t x y ok=>wv s x fun v=>wv s y fun u=>Uy cf t v u ok s K
 | .index t x y=>wv s x fun v=>wv s y fun u=>Vi cf t v u s K
 | .slice t x none (some (.tmp y)) none=>wv s x fun v=>wv s (.tmp y) fun u=>Vj cf t v u s K
 | .convert t t' x=>wv s x fun v=>Vh cf t t' v s K
 | .call cl=>(match cl.callee,cl.args.toList,cl.argTypes.toList with
   | .builtin .len,[x],t::_=>wv s x fun v=>RK cf t v s K
   | _,_,_=>.bad 12 s)
 | _=>.bad 11 s
section
variable {c:Cx} {T:Tm} {G:GH} {Γ:c8} {ρ ρ':bc} {s s':SS} {cf:Cf} {ops:Array Oper} {i:Nat}
theorem bz {x:Operand} {K:SV->R} (h:(wv s x K).Ok) (hk:Ok c T G Γ ρ s):∃v,(K v).Ok/\KJ s x=some v/\ba c.nt T x (v.den ρ):=by
 unfold wv at h
 cases hx:KJ s x with
 | none=>rw [hx] at h; cases h
 | some v=>rw [hx] at h; exact⟨v,h,rfl,tb hx hk.q⟩
theorem OV {K:SV->SS->R} (hg:(ab ops i).guard=none) (hP:cf.P=c.P) (hΦ:cf.Φ=c.Φ) (hK:eo cf) (h:(Vk cf (ab ops i).op s K).Ok) (hk:Ok c T G Γ ρ s):Lo c T G Γ ops i s ρ K:=by
 unfold Vk at h
 split at h
 · rename_i x ho; obtain⟨v,h,_,e⟩:=bz h hk; exact Lo.here hk h (aZ.RA hg (.inl ho) e)
 · rename_i x ho; obtain⟨v,h,_,e⟩:=bz h hk; exact Lo.here hk h (aZ.RA hg (.inr ho) e)
 · rename_i ho; obtain⟨v,h,_,e⟩:=bz h hk; exact OM ho hg h hk e
 · rename_i ho; obtain⟨v,h,_,e⟩:=bz h hk; exact ON ho hg hP h hk e
 · rename_i ho; obtain⟨v,h,_,e⟩:=bz h hk; exact OO ho hg h hk e (fun u hu=>tb hu hk.q) (fun u hu=>tb hu hk.q)
 · rename_i ho; exact OP ho hg hP h hk
 · rename_i ho; obtain⟨v,h,_,e⟩:=bz h hk; exact OQ ho hg h hk e
 · rename_i ho; obtain⟨v,h,_,e⟩:=bz h hk; obtain⟨u,h,_,e'⟩:=bz h hk; exact OK ho hg hP h hk e e'
 · rename_i ho; obtain⟨v,h,e0,e⟩:=bz h hk; exact AK ho hg hP h hk (fN e0 hk.q)
 · rename_i ho; obtain⟨v,h,e0,e⟩:=bz h hk; exact AL ho hg h hk (fN e0 hk.q)
 · rename_i ho; obtain⟨v,h,e0,e⟩:=bz h hk; exact AQ ho hg hP hΦ h hk (fN e0 hk.q)
 · rename_i ho; obtain⟨v,h,e0,e⟩:=bz h hk; obtain⟨u,h,_,e'⟩:=bz h hk; exact AM ho hg hP hΦ h hk (fN e0 hk.q) e'
 · rename_i ho; obtain⟨v,h,_,e⟩:=bz h hk; obtain⟨u,h,_,e'⟩:=bz h hk; exact Ig ho hg hP hΦ hK h hk e e'
 · rename_i ho; obtain⟨v,h,_,e⟩:=bz h hk; obtain⟨u,h,_,e'⟩:=bz h hk; exact OS ho hg hP h hk e e'
 · rename_i ho; obtain⟨v,h,_,e⟩:=bz h hk; obtain⟨u,h,e0,e'⟩:=bz h hk; exact OT ho hg hP hΦ h hk e (fN e0 hk.q)
 · rename_i ho; obtain⟨v,h,_,e⟩:=bz h hk; exact OR ho hg hP h hk e
 · rename_i cl ho
   split at h
   · rename_i x t ats h1 h2 h3
     obtain⟨v,h,_,e⟩:=bz h hk
     exact AR ho h1 h3 h2 hg hP h hk e
   · cases h
 · cases h
theorem Lo.map {ops':Array Oper} {K:SV->SS->R} (h:Lo c T G Γ ops' i s ρ K) (hh:∀v,aZ c.P ops' c.n0 c.nt i T .e (z 0) G v->aZ c.P ops c.n0 c.nt i T .e (z 0) G v):Lo c T G Γ ops i s ρ K :=
 fa.mono h fun ρ' s' a n o hx=>by obtain⟨v,h1,h2⟩:=hx; exact⟨v,h1,hh _ h2⟩
theorem vl (ops:Array Oper) (i:Nat):(ab (wK ops) i).guard=none:=by rw [jj]
theorem Ih (ops:Array Oper) (i:Nat):(ab (wK ops) i).op=(ab ops i).op:=by rw [jj]
theorem B7 (ops:Array Oper) (i:Nat):(ab (wK ops) i).dst=(ab ops i).dst:=by rw [jj]
end
end Go.Rd
namespace Go.aQ
open Go.RowKit
section
variable {P:Program}
theorem qm {ts tx e:TypeId} {i:TypeInfo} {z:Value} {d:TypeDesc} (hT:JY P ts tx e i z d) {ty:TypeId} {w:World} {base:Option Addr} {len cap n:Nat} {x:Value} {old nw:List Value}
  (hx:(Builtin.lenOf x).run P w=.ok n w) (hf:(Builtin.firstCells (ae P e) n x).run P w.drew=.ok nw.toArray w.drew)
  (ho:(Builtin.firstCells (ae P e) len (.slice base len cap)).run P w.drew=.ok old.toArray w.drew) (hn:cap<len+n) (hsm:(16*(len+n)+12288)*i.bytes<=281474976710656) (hsl:len+n<=2199023255552) :
  ∃c rest,len+n<=c/\(Builtin.append_ #[ts,tx] ty #[.slice base len cap,x]).run P w=.ok (.slice (some ⟨w.heap.size,0,none⟩) (len+n) c) (w.drew.alloc (.cells (old++nw++rest).toArray e (0,0)))/\rest.length=(c-(len+n))*z.cells.size:=by
 have htx:=hT.tx
 have hni:=hT.ni
 have hcap:=rZ hn
 have hb:Builtin.nextslicecap (len+n) cap*i.bytes<=(16*(len+n)+12288)*i.bytes:=Nat.mul_le_mul_right _ hcap
 have hmax:¬(((len+n:Nat):Int) > IntKind.i64.max/\i.bytes=0):=by
  have:IntKind.i64.max=9223372036854775807:=by decide
  rw [this]
  omega
 have ee:∀Z:Array Value,old.toArray++nw.toArray++Z=(old++nw++Z.toList).toArray:=fun Z=>by apply Array.ext'; simp
 have hbig:¬Builtin.nextslicecap (len+n) cap*i.bytes > 2 ^ 48:=by omega
 refine⟨(Question.appendCap (len+n) cap e).cut (w.tape w.drawn (.appendCap (len+n) cap e)),(Builtin.zeroCells z.cells ((Question.appendCap (len+n) cap e).cut (w.tape w.drawn (.appendCap (len+n) cap e))-(len+n))).toList,?_,?_,?_⟩
 · simp only [Question.cut]; omega
 · cases d
   case int=>exact absurd rfl (hni _)
   all_goals
    simp only [Builtin.append_,List.getElem?_toArray,List.getElem?_cons_zero,List.getElem?_cons_succ]
    simp only [Sem.run_bind,av hT.ts,av htx,Result.andThen_ok,Sem.run_pure,cO hT.inf,Bool.false_eq_true,if_false,hx,Sem.run_ite]
    rw [if_neg (by omega)]
    simp only [Sem.run_bind,mD hT.inf,Result.andThen_ok,Sem.run_ite,false_or,if_neg hmax,if_neg hbig]
    simp only [Sem.run_bind,run_choose,Question.forced,Bool.false_eq_true,if_false,Result.andThen_ok,run_askRoom]
    have e1:({ w with drawn:=w.drawn+1 }:World)=w.drew:=rfl
    simp only [e1,Sem.run_pure,Result.andThen_ok,mD hT.inf,Bool.not_false,if_true,ho,hf,run_askRoom,Sem.run_bind,zeroValue,hT.Xw,newRow,run_newObj,ee]
    rfl
 · simp [Builtin.zeroCells]
end
section
variable {P:Program} {n0 nt:Nat} {T T2:Tm} {hp H:Tr AO} {nx X:Pz} {G:GH} {ops:Array Oper} {aG:List Nat} {i m d:Nat} {v u:AV}
theorem eZ.wX {c:Call} {ts tx e:TypeId} {ys yx:Operand} {len m:Nat} {E L:List AV} {d0:TypeDesc} {z:AV} {R:Tm->Tr AO->Pz->GH->Prop} (hg:(ab ops i).guard=none) (hd:(ab ops i).dst=some d) (hlt:d<nt)
  (ho:(ab ops i).op=.call c) (hc:c.callee=.builtin .append) (ht:c.argTypes.toList=[ts,tx]) (hx:c.args.toList=[ys,yx]) (hts:P.underlying ts=some (.slice e)) (htx:P.underlying tx=some d0) (hni:∀k,d0≠.int k)
  (hz:zeroOf P e=some z) (hgz:(Nat.ble (P.bytesOf e) 1000000&&(Nat.beq z.cells.length (ae P e)&&Nat.blt 0 (ae P e)))=true) (hsv:ba nt T ys v) (hxv:ba nt T yx u)
  (hs:Ext G v e (ae P e) len E) (hE:mP E) (hsrc:D0 P n0 nt T hp nx G (ae P e) m u L) (hsm:(16*(len+m)+12288)*P.bytesOf e<=281474976710656) (hsl:len+m<=2199023255552)
  (hr:∀v' G',Kx n0 G G' v v' e (ae P e) len m E L->nf v'->R (T.put d v') hp nx G'):eZ P n0 nt ops i T hp nx G R:=by
 intro B w0 ι a w hsat
 refine .inl ⟨by simp [Region.wanted,hg],?_⟩
 rw [hd]
 have hval:=(hsat.1.2 ι (al.refl _ _)).1
 obtain⟨j,zv,q1,q2,q3,q4⟩:=cm hz
 simp only [Bool.and_eq_true] at hgz
 obtain⟨g1,g2,g3⟩:=hgz
 have g1:=aL g1
 have g2:=ai g2
 have g3:=au g3
 have hbytes:P.bytesOf e=j.bytes:=by unfold Program.bytesOf; rw [q1]; rfl
 have hT:JY P ts tx e j zv d0:=⟨hts,htx,hni,q1,q2,by omega⟩
 have hzs:zv.cells.size=ae P e:=by rw [<-dQ 8 zv z q3 ι,bL]; simp [aq,g2]
 have hrun:(execOp a.eval (ab ops i)).run P w=((Builtin.append_ #[ts,tx] (ab ops i).type #[a.eval ys,a.eval yx]).run P w).andThen fun v w'=>.ok (.value v) w':=sf ho hc ht hx (fun _ _ _ _=>rfl)
 obtain⟨hL1,hL2,hL4,hL3⟩:=hsrc
 obtain⟨hl1,hl2⟩:=hL3 B w0 ι a w hsat
 obtain⟨hl3,hl4⟩:=hL3 B w0 ι a w.drew (u5 hsat)
 have hev:a.eval yx=aj ι u:=hxv ι a hval
 have hfl:∀v∈ao ι L,tU v=true:=iQ ι _ hL4
 -- a new block
 have grow:∀(base:Option Addr) (cap:Nat),a.eval ys=.slice base len cap->cap<len+m->E.length=len*ae P e->(Builtin.firstCells (ae P e) len (.slice base len cap)).run P w.drew=.ok (ao ι E).toArray w.drew ->
   dk P (execOp a.eval (ab ops i)) w fun cv w'=>∃T' hp' nx' G' ι2,R T' hp' nx' G'/\du n0 B w0 nt T' hp' nx' G' ι2 (a.put (some d) cv) w':=by
  intro base cap hsv hcap hEl hold
  obtain⟨c',rest,hc1,hc2,hc3⟩:=qm hT (ty:=(ab ops i).type) (base:=base) (len:=len) (cap:=cap) (x:=aj ι u) (old:=ao ι E) (nw:=ao ι L) hl1 hl4 hold hcap (by rw [hbytes] at hsm; exact hsm) hsl
  have hnew:=HE (kd:=.data) (A:=(ao ι E++ao ι L++rest).toArray) (el:=e) (C:=E++L) hsat (gV hE hL2) (by simp [aq]) (fun i hi=>by
   rw [<-gj,List.getElem?_toArray,List.getElem?_append_left (by rw [aq]; exact hi),bo])
  obtain⟨hsn,hn1,hn2⟩:=hnew
  have hlen:(E++L).length=(len+m)*ae P e:=by rw [List.length_append,hEl,hL1,Nat.add_mul]
  refine .inl ⟨.slice (some ⟨w.heap.size,0,none⟩) (len+m) c',_,.inl (by rw [hrun,hsv,hev,hc2]; rfl),T.put d (.di w.heap.size 0 (len+m) c'),hp,nx,eH G w.heap.size (.cells .data e (ao ι E++ao ι L++rest).toArray.size (E++L)),ι,hr _ _ (.inr (.inr ⟨w.heap.size,c',_,hn1,hn2,rfl,hc1,?_,rfl⟩)) (jd _ _ _ _),?_⟩
  · simp only [List.size_toArray,List.length_append,aq,hEl,hL1,hc3,hzs]
    rw [<-Nat.add_mul,<-Nat.add_mul]
    exact Nat.mul_le_mul_right _ (by omega)
  · exact dD hsn hlt (jd _ _ _ _) (by simp [aj,gh])
 rcases hs with ⟨rfl,rfl,rfl⟩ | ⟨b,o,cap,size,C,rfl,hb,hoC,hdrop,hsz,hlc⟩
 · have hsv:a.eval ys=.slice none 0 0:=by rw [hsv ι a hval]; simp [aj]
   by_cases hm0:m=0
   · subst hm0
     have hL0:L=[]:=List.length_eq_zero_iff.1 (by rw [hL1]; simp)
     subst hL0
     have:=lr hT (ty:=(ab ops i).type) (x:=aj ι u) (nw:=ao ι []) hl1 hl2
     refine .inl ⟨.slice none 0 0,w,.inl (by rw [hrun,hsv,hev,this]; rfl),T.put d .aB,hp,nx,G,ι,hr _ _ (.inl ⟨rfl,rfl,rfl,rfl,rfl⟩) kP,dD hsat hlt kP (by simp [aj,gh])⟩
   · exact grow none 0 hsv (by omega) (by simp) (by simp [Builtin.firstCells,ao])
 · have hsv:a.eval ys=.slice (some (oE b o len cap)) len cap:=by rw [hsv ι a hval]; simp [aj]
   obtain⟨hnC,A,fz,h1,h2,h3,h4,h5⟩:=hsat.2.1 b _ hb
   obtain⟨hnB,hfz⟩:=h5 (fun e=>by cases e)
   have hEl:E.length=len*ae P e:=by rw [<-hdrop,List.length_take,List.length_drop]; omega
   by_cases hcap:len+m<=cap
   · have Ml:(len+m)*ae P e<=cap*ae P e:=Nat.mul_le_mul_right _ hcap
     rw [Nat.add_mul] at Ml
     have hcan:kI w b (o+len*ae P e) (ao ι L).length:=by rw [aq,hL1]; exact jQ h1 (by omega) hfz
     have hrun2:=q8 hT (ty:=(ab ops i).type) (b:=b) (o:=o) (len:=len) (cap:=cap) (x:=aj ι u) (nw:=ao ι L) (by rw [aq,hL1]) hl1 hl2 hcap hfl hcan
     have hnb:∀id ob,hp.get id=some ob->own hp ob->ι.aR id≠b:=fun id ob hid hown e=>by
      have:=hsat.2.2.1 id ob hid hown
      rw [e,hb] at this; cases this
     have hk:Kept (fun k=>B k∨sM hp ι k) w (bg w b (o+len*ae P e) (ao ι L)):=dP _ _ _ _ (by
      rintro (hB | ⟨id,ob,hid,hown,e⟩)
      · exact hnB hB
      · exact hnb id ob hid hown e) (Kept.refl _ _)
     have hgh:nY B (bg w b (o+len*ae P e) (ao ι L)) b (.cells .data e size (me C (o+len*ae P e) L)):=by
      refine⟨gV (gV (yK _ hnC) hL2) (yL _ hnC),dB A (o+len*ae P e) (ao ι L),fz,cz (ao ι L) w b (o+len*ae P e) A e fz h1,by rw [bk]; exact h2,?_,fun k hk' _ ι'=>?_,fun _=>⟨hnB,by rw [bk]; exact hfz⟩⟩
      · rw [kS hoC,hL1]; omega
      · rw [kS hoC] at hk'
        rw [cX _ _ _ _ (by rw [aq,hL1]; omega),qa hoC,aq]
        by_cases hlo:o+len*ae P e<=k/\k<o+len*ae P e+L.length
        · rw [if_pos hlo,if_pos hlo,bo]
          cases hc':L[k-(o+len*ae P e)]? with
          | none=>rfl
          | some q=>exact congrArg some (hL2 q (List.mem_of_getElem? hc') ι ι')
        · rw [if_neg hlo,if_neg hlo]
          exact h4 k (by omega) (fun h=>by cases h) ι'
     have hsn:=j0 (b:=b) (g:=.cells .data e size (me C (o+len*ae P e) L)) hsat hk (fun k g' hne _=>gk _ _ _ _ _ hne) hgh hnb
     exact .inl ⟨.slice (some (oE b o (len+m) cap)) (len+m) cap,_,.inl (by rw [hrun,hsv,hev,hrun2]; rfl),T.put d (.di b o (len+m) cap),hp,nx,_,ι,hr _ _ (.inr (.inl ⟨b,o,cap,size,C,rfl,hb,rfl,hcap,hsz,hoC,rfl⟩)) (jd _ _ _ _),dD hsn hlt (jd _ _ _ _) (by simp [aj,gh])⟩
   · exact grow _ cap hsv (by omega) hEl (by
      rw [pT (l:=ao ι E) (by rw [aq,hEl]) fun j hj=>?_]
      show (w.drew).cell? _=_
      rw [show (w.drew).cell? ⟨b,o+j,none⟩=w.cell? ⟨b,o+j,none⟩ from rfl,gW hsat hb _ (by omega),bo,<-hdrop,List.getElem?_take_of_lt hj,List.getElem?_drop])
theorem pA {kd:BK} {el:TypeId} {C:List AV} {B:Nat->Prop} {w0 w:World} {ι:En} {a:Act} (hs:du n0 B w0 nt T hp nx G ι a w) (hC:mP C) :
  du n0 B w0 nt T hp nx (eH G w.heap.size (.cells kd el C.length C)) ι a (w.alloc (.cells (ao ι C).toArray el (0,0)))/\n0<=w.heap.size/\G w.heap.size=none:=by
 refine rm (g:=.cells kd el C.length C) (y:=.cells (ao ι C).toArray el (0,0)) hs fun hB=>?_
 refine⟨hC,_,(0,0),bJ w _,by simp [aq],Nat.le_refl _,fun q hq _ ι'=>?_,fun _=>⟨fun h=>absurd (hB _ h) (by omega),.inl rfl⟩⟩
 rw [List.getElem?_toArray,bo]
 cases hc':C[q]? with
 | none=>rfl
 | some x=>exact congrArg some (hC x (List.mem_of_getElem? hc') _ _)
theorem eZ.OW (kd:BK) {e:TypeId} {z:AV} {R:Tm->Tr AO->Pz->GH->Prop} (hg:(ab ops i).guard=none) (hd:(ab ops i).dst=some d) (hlt:d<nt) (ho:(ab ops i).op=.alloc e) (hz:zeroOf P e=some z) (hnf:mP z.cells)
  (hr:∀b,n0<=b->G b=none->R (T.put d (.bW b 0)) hp nx (eH G b (.cells kd e z.cells.length z.cells))):eZ P n0 nt ops i T hp nx G R:=by
 intro B w0 ι a w hs
 refine .inl ⟨by simp [Region.wanted,hg],?_⟩
 rw [hd]
 obtain⟨j,zv,h1,h2,h3,h4⟩:=cm hz
 have hrun:(execOp a.eval (ab ops i)).run P w=.ok (.value (.pointer (some ⟨w.heap.size,0,none⟩))) (w.alloc (.cells (ao ι z.cells).toArray e (0,0))):=by
  simp only [execOp,ho,Instr.alloc,Sem.run_bind,h4 ι,Result.andThen_ok,newVar,newRow,run_newObj,Sem.run_pure,bL]
  rfl
 obtain⟨q1,q2,q3⟩:=pA (kd:=kd) (el:=e) hs hnf
 exact .inl ⟨_,_,.inl hrun,_,_,_,_,ι,hr _ q2 q3,dD q1 hlt (kQ _ _) (by simp [aj,gh])⟩
theorem eZ.Vl (kd:BK) {e:TypeId} {x:Operand} {R:Tm->Tr AO->Pz->GH->Prop} (hg:(ab ops i).guard=none) (hd:(ab ops i).dst=some d) (hlt:d<nt) (ho:(ab ops i).op=.box e x) (hx:ba nt T x v) (hnf:mP v.cells)
  (hr:∀b,n0<=b->G b=none->R (T.put d (.bW b 0)) hp nx (eH G b (.cells kd e v.cells.length v.cells))):eZ P n0 nt ops i T hp nx G R:=by
 intro B w0 ι a w hs
 refine .inl ⟨by simp [Region.wanted,hg],?_⟩
 rw [hd]
 have hrun:(execOp a.eval (ab ops i)).run P w=.ok (.value (.pointer (some ⟨w.heap.size,0,none⟩))) (w.alloc (.cells (ao ι v.cells).toArray e (0,0))):=by
  simp only [execOp,ho]
  rw [hx ι a (hs.1.2 ι (al.refl _ _)).1]
  simp only [Instr.box,Sem.run_bind,Result.andThen_ok,newVar,newRow,run_newObj,Sem.run_pure,bL]
  rfl
 obtain⟨q1,q2,q3⟩:=pA (kd:=kd) (el:=e) hs hnf
 exact .inl ⟨_,_,.inl hrun,_,_,_,_,ι,hr _ q2 q3,dD q1 hlt (kQ _ _) (by simp [aj,gh])⟩
theorem eZ.qS (kd:BK) {t e:TypeId} {len:Nat} {z:AV} {ps:Array (Nat × Operand)} {vs:List (Nat × AV)} {cs:List AV} {R:Tm->Tr AO->Pz->GH->Prop} (hg:(ab ops i).guard=none) (hd:(ab ops i).dst=some d) (hlt:d<nt) (ho:(ab ops i).op=.buildSlice t len ps) (hu:P.underlying t=some (.slice e)) (hz:zeroOf P e=some z)
  (hgz:(Nat.ble len 10000&&(Nat.ble (ae P e) 1000&&(Nat.beq z.cells.length (ae P e)&&Nat.blt 0 (ae P e))))=true) (hv:Rt.KH nt T ps.toList vs) (h:Rt.s8 (fun i=>some (i*ae P e,ae P e)) vs (gv len z.cells)=some cs) (hnf:mP cs) (hcs:cs.length=len*ae P e)
  (hr:∀b,n0<=b->G b=none->R (T.put d (.di b 0 len len)) hp nx (eH G b (.cells kd e cs.length cs))):eZ P n0 nt ops i T hp nx G R:=by
 intro B w0 ι a w hs
 refine .inl ⟨by simp [Region.wanted,hg],?_⟩
 rw [hd]
 have ha:=(hs.1.2 ι (al.refl _ _)).1
 simp only [Bool.and_eq_true] at hgz
 obtain⟨g1,g2,g3,g4⟩:=hgz
 have g1:=aL g1
 have g2:=aL g2
 have g3:=ai g3
 have g4:=au g4
 obtain⟨j,zv,h1,h2,h3,h4⟩:=cm hz
 have hmul:len*ae P e<=10000*1000:=Nat.mul_le_mul g1 g2
 have hfl:=Rt.s9 ι h
 rw [<-Rt.KH.map ha hv] at hfl
 have hrun:(execOp a.eval (ab ops i)).run P w=.ok (.value (.slice (some ⟨w.heap.size,0,none⟩) len len)) (w.alloc (.cells (ao ι cs).toArray e (0,0))):=by
  simp only [execOp,ho,Instr.buildSlice,Sem.run_bind,av hu,Result.andThen_ok,cO h1]
  rw [show (ps.map fun x=>match x with | (i,x)=>(i,a.eval x))=ps.map fun x=>(x.1,a.eval x.2) from rfl]
  simp only [Sem.run_ite]
  rw [if_neg (by simp; omega)]
  by_cases h0:len*ae P e=0
  · have hl0:len=0:=by rcases Nat.mul_eq_zero.1 h0 with h | h<;>omega
    subst hl0
    have hfl0:Instr.fill (fun i=>some (i*ae P e,ae P e)) #[] (ps.map fun x=>(x.1,a.eval x.2)).toList=some (ao ι cs).toArray:=by rw [eR]; exact hfl
    simp only [Nat.zero_mul,if_true,Sem.run_bind,Sem.run_pure,Result.andThen_ok]
    rw [show (Array.range 0).map ((#[]:Array Value)[·%(#[]:Array Value).size]!)=#[] by simp]
    rw [hfl0]
    simp only [Sem.run_bind,newRow,run_newObj,Sem.run_pure,Result.andThen_ok]
    rfl
  · have hfl':Instr.fill (fun i=>some (i*ae P e,ae P e)) ((Array.range (len*ae P e)).map ((ao ι z.cells).toArray[·%(ao ι z.cells).toArray.size]!)) (ps.map fun x=>(x.1,a.eval x.2)).toList=some (ao ι cs).toArray:=by
     rw [eR,<-g3,oT ι z.cells (by omega) len,g3]; exact hfl
    simp only [if_neg h0,Sem.run_bind,h4 ι,Result.andThen_ok,bL,Sem.run_pure]
    rw [hfl']
    simp only [Sem.run_bind,newRow,run_newObj,Sem.run_pure,Result.andThen_ok]
    rfl
 obtain⟨q1,q2,q3⟩:=pA (kd:=kd) (el:=e) hs hnf
 exact .inl ⟨_,_,.inl hrun,_,_,_,_,ι,hr _ q2 q3,dD q1 hlt (jd _ _ _ _) (by simp [aj,gh])⟩
end
end Go.aQ
namespace Go.Rt
open Go.aQ Go.RowKit
theorem dZ (a b:List Own):eJ (a++b)=eJ a++eJ b:=List.filterMap_append
theorem ir {os:List Own} {b:Nat}:b∈eJ os ↔ ∃o∈os,o.aR=some b:=List.mem_filterMap
theorem cY.told {P:Program} {Φ:Forms} {G:GH} {Γ:c8} {o:Own} (h:cY P Φ G Γ o) {b:Nat} (hb:o.aR=some b):(G b).isSome=true:=by
 cases o with
 | loc b' el C=>cases hb; have h:G b=_:=h.1; rw [h]; rfl
 | map b' pk es=>cases hb; have h:G b=_:=h.1; rw [h]; rfl
 | iE v e ms =>
   rcases h.2.2 with ⟨rfl,_⟩ | ⟨b',cap,size,C,h1,h2,h3,h4⟩
   · cases hb
   · rw [h1] at hb; cases hb; rw [h3]; rfl
 | ul v c g n =>
   rcases h.2.2 with ⟨rfl,_⟩ | ⟨b',cap,size,C,h1,h2,h3,h4⟩
   · cases hb
   · rw [h1] at hb; cases hb; rw [h3]; rfl
 | am b' g k=>cases hb; obtain⟨_,_,_,es,h1,_⟩:=h; rw [h1]; rfl
 | im b' k=>cases hb; obtain⟨_,es,h1,_⟩:=h; rw [h1]; rfl
 | bl v el ms=>obtain⟨_,_,b',size,h1,h2,h3⟩:=h; rw [h1] at hb; cases hb; rw [h3]; rfl
 | km b' c g n=>cases hb; obtain⟨_,_,_,es,h1,_⟩:=h; rw [h1]; rfl
 | it b' m n r st ty=>cases hb; obtain⟨_,⟨mo,seen,_,h1,_⟩,_⟩:=h; rw [h1]; rfl
section
variable {c:Cx} {ops:Array Oper} {i m d f:Nat} {T:Tm} {G G':GH} {Γ Γ':c8} {st st':St} {v u:AV}
theorem Q.RL (hq:Q c T G Γ st) {b:Nat} (h:(c.G0 b).isSome=true):(G b).isSome=true:=hq.rl.QT b h
theorem Q.jz (hq:Q c T G Γ st) {b:Nat} (h:G b=none):c.G0 b=none:=by
 cases h0:c.G0 b with
 | none=>rfl
 | some g=>have:=hq.RL (b:=b) (by rw [h0]; rfl); rw [h] at this; cases this
theorem HT.told (h:HT c.P c.Φ G Γ) {b:Nat} {x:Ds} (hb:Γ.m b=some x):(G b).isSome=true:=(h.b b x hb).told
theorem HT.none (h:HT c.P c.Φ G Γ) {b:Nat} (hb:G b=none):Γ.m b=none:=by
 cases h0:Γ.m b with
 | none=>rfl
 | some x=>have:=h.told h0; rw [hb] at this; cases this
theorem Q.call (hq:Q c T G Γ st) {osA osB os':List Own} {tys':List TF} {gsA gs':List (Nat × Gd × Bool)} {Sg:List Nat} (ho:st.os.Perm (osA++osB)) (hr:Rl c.Φ (eJ osB) Sg G Γ G' Γ') (hgr:nc c.n0 G G') (ht:HT c.P c.Φ G' Γ') (h1:∀o∈os',cY c.P c.Φ G' Γ' o) (h2:(eJ os').Nodup)
  (h3:∀o∈os',∀b,o.aR=some b->b∈eJ osB∨G b=none) (h4:∀f∈tys',fx c.P c.Φ G' Γ' f) (hSg:∀g∈Sg,g∈c.Sg∨c.Γ0.ng<=g) (hgA:∀p∈gsA,p∈st.gs/\Γ'.gd p.1=Γ.gd p.1) (hgs':∀p∈gs',p.1<Γ'.ng/\Γ'.gd p.1=p.2.1/\(p.2.2=true->(p.1∈c.Sg∨c.Γ0.ng<=p.1)/\p.2.1.fz=false/\0<p.1)) (hin:∀o∈osA,∀g,o.inst=some g->Γ'.gd g=Γ.gd g) (hpin:∀o∈osA,o.Rx=true->∀b c g,Γ.m b=some (.map c g)->G' b=G b) :
  Q c T G' Γ' ⟨st.L,osA++os',tys'++st.dL,gs'++gsA⟩:=by
 have hnd:(eJ (osA++osB)).Nodup:=(ho.filterMap Own.aR).nodup_iff.1 hq.nd
 have hmem:∀o,o∈osA++osB->o∈st.os:=fun o h=>ho.mem_iff.2 h
 rw [dZ,List.nodup_append] at hnd
 obtain⟨n1,n2,n3⟩:=hnd
 have hB:∀b∈eJ osB,b∈c.S∨c.G0 b=none:=fun b hb=>by
  obtain⟨o,m1,m2⟩:=ir.1 hb
  exact hq.new o (hmem o (by simp [m1])) b m2
 have hA:∀o∈osA,o∈st.os:=fun o h=>hmem o (by simp [h])
 refine⟨hq.ml,hq.at_,hq.yT,hq.rl.trans (P:=c.P) hq.yT hr hB hSg,hq.grow.trans hgr,fun o h=>?_,fun o h b hb=>?_,?_,ht,fun f hf=>?_,fun p hp=>?_⟩
 · rcases List.mem_append.1 h with h | h
   · exact (hq.own o (hA o h)).br hr (fun b hb hm=>n3 b (ir.2 ⟨o,h,hb⟩) b hm rfl) (hin o h) (hpin o h)
   · exact h1 o h
 · rcases List.mem_append.1 h with h | h
   · exact hq.new o (hA o h) b hb
   · rcases h3 o h b hb with h | h
     · exact hB b h
     · exact .inr (hq.jz h)
 · show (eJ (osA++os')).Nodup
   rw [dZ]
   refine List.nodup_append.2 ⟨n1,h2,fun x hx y hy e=>?_⟩
   subst e
   obtain⟨o,m1,m2⟩:=ir.1 hy
   rcases h3 o m1 x m2 with h | h
   · exact n3 x hx x h rfl
   · obtain⟨o2,k1,k2⟩:=ir.1 hx
     have:=(hq.own o2 (hA o2 k1)).told k2
     rw [h] at this; cases this
 · rcases List.mem_append.1 hf with h | h
   · exact h4 f h
   · exact (hq.ty f h).le hr.r hr.le
 · rcases List.mem_append.1 hp with h | h
   · exact hgs' p h
   · obtain⟨h1,h2⟩:=hgA p h
     obtain⟨q1,q2,q3⟩:=hq.gs p h1
     exact⟨Nat.lt_of_lt_of_le q1 hr.le.ng,h2.trans q2,q3⟩
def updΓ (Γ:c8) (b:Nat) (x:Ds):c8:=⟨fun k=>if k=b then some x else Γ.m k,Γ.gd,Γ.ng⟩
theorem updΓ_same (Γ:c8) (b:Nat) (x:Ds):(updΓ Γ b x).m b=some x:=by simp [updΓ]
theorem updΓ_ne {b k:Nat} {x:Ds} (h:k≠b):(updΓ Γ b x).m k=Γ.m k:=by simp [updΓ,h]
theorem eE.le {P:Program} {Φ:Forms} {cc g:Nat} {es:List (AV × AV)} (h:eE P Φ G Γ cc g es) (hr:dE G G') (hl:dm Γ Γ') (hg:Γ'.gd g=Γ.gd g):eE P Φ G' Γ' cc g es:=by
 unfold eE at h ⊢
 refine⟨h.1,?_⟩
 have h:=h.2
 rw [hg]
 cases hm:Φ.mv cc with
 | kd k =>
   rw [hm] at h
   intro p hp
   obtain⟨fs,k1,k2⟩:=h p hp
   exact⟨fs,k1,fun f hf=>(k2 f hf).le hr hl⟩
 | unit=>rw [hm] at h; exact h
 | JB b=>rw [hm] at h; exact h
 | HK=>rw [hm] at h; exact h
theorem sX.same {P:Program} {Φ:Forms} {k:Nat} {x:Ds} (h:sX P Φ G Γ k x) (hG:G' k=G k) (hr:dE G G') (hl:dm Γ Γ') (hg:∀g,g<Γ.ng->Γ'.gd g=Γ.gd g):sX P Φ G' Γ' k x:=by
 cases x with
 | cells cc g L =>
   obtain⟨h1,h2,size,C,h3,h4,h5⟩:=h
   exact⟨⟨Nat.lt_of_lt_of_le h1.1 hl.ng,h1.2⟩,h2,size,C,by rw [hG]; exact h3,h4,fun j m hj=>(h5 j m hj).le hr hl h1.1⟩
 | map cc g =>
   obtain⟨h1,es,h3,h4,h5⟩:=h
   exact⟨Nat.lt_of_lt_of_le h1 hl.ng,es,by rw [hG]; exact h3,h4,h5.le hr hl (hg g h1)⟩
theorem HT.Ya {P:Program} {Φ:Forms} {b:Nat} (ht:HT P Φ G Γ) (hr:dE G G') (hl:dm Γ Γ') (hgd:Γ'.gd=Γ.gd) (hk:∀k,k≠b->Γ'.m k=Γ.m k) (hG:∀k,k≠b->G' k=G k) (hb:∀x,Γ'.m b=some x->sX P Φ G' Γ' b x):HT P Φ G' Γ':=by
 refine⟨by rw [hgd]; exact⟨ht.z.1,Nat.lt_of_lt_of_le ht.z.2 hl.ng⟩,fun k x h=>?_⟩
 by_cases e0:k=b
 · subst e0; exact hb x h
 · rw [hk k e0] at h
   exact (ht.b k x h).same (hG k e0) hr hl fun g _=>by rw [hgd]
theorem OX {Φ:Forms} {S:List Nat} {b:Nat} (hk:∀k,k≠b->Γ'.m k=Γ.m k) (hG:∀k,k≠b->G' k=G k) (hb:(G' b).isSome=true) (hraw:∀el size C,G b≠some (.cells .raw el size C)) (hdat:∀el size C,G b=some (.cells .data el size C)->∃C',G' b=some (.cells .data el size C')) (hle:∀x,Γ.m b=some x->∃y,Γ'.m b=some y/\nj x y) (hgd:Γ'.gd=Γ.gd) (hng:Γ'.ng=Γ.ng)
  (hS:b∈S∨G b=none∨∃x,Γ.m b=some x/\x.fixed Φ=false) (hm:∀x,Γ.m b=some x->(G b).isSome=true):Rl Φ S [] G Γ G' Γ':=by
 have hne:∀k,(G k).isSome=true->k ∉ S->Γ.m k=none->k≠b:=fun k hk' hn h0 e=>by
  subst e
  rcases hS with h | h | ⟨x,h,_⟩
  · exact hn h
  · rw [h] at hk'; cases hk'
  · rw [h0] at h; cases h
 refine⟨fun k h hn h0=>?_,⟨fun k el size C h=>?_,fun k el size C h=>?_⟩,fun k x h hx hn=>?_,⟨fun k x h=>?_,fun g _=>by rw [hgd]; exact Gd.Le.refl _,by rw [hng]; exact Nat.le_refl _⟩,fun g _ _=>by rw [hgd],fun k h=>?_⟩
 · have e:=hne k h hn h0
   exact⟨hG k e,by rw [hk k e]; exact h0⟩
 · exact hG k (by rintro rfl; exact hraw _ _ _ h)
 · by_cases e0:k=b
   · subst e0; exact hdat _ _ _ h
   · exact⟨C,by rw [hG k e0]; exact h⟩
 · rw [hk k ?_]; exact h
   rintro rfl
   rcases hS with h' | h' | ⟨y,h',hy⟩
   · exact hn h'
   · have:=hm x h; rw [h'] at this; cases this
   · rw [h] at h'; cases h'; rw [hx] at hy; cases hy
 · by_cases e0:k=b
   · subst e0; exact hle x h
   · exact⟨x,by rw [hk k e0]; exact h,nj.refl x⟩
 · by_cases e0:k=b
   · subst e0; exact hb
   · rw [hG k e0]; exact h
theorem cY.RM {P:Program} {Φ:Forms} {G:GH} {Γ:c8} {o:Own} (h:cY P Φ G Γ o) {b:Nat} (hb:o.aR=some b) (c g:Nat):Γ.m b≠some (.map c g):=by
 intro e
 cases o with
 | loc b' el C=>cases hb; rw [h.2] at e; cases e
 | map b' pk es=>cases hb; rw [h.2.1] at e; cases e
 | iE v c' ms =>
   obtain⟨_,_,⟨h1,_⟩ | ⟨b',cap,size,C,h1,h2,_⟩⟩:=h
   · rw [h1] at hb; cases hb
   · rw [h1] at hb; cases hb; rw [h2] at e; cases e
 | ul v c' g' n =>
   obtain⟨_,_,⟨h1,_⟩ | ⟨b',cap,size,C,h1,h2,_⟩⟩:=h
   · rw [h1] at hb; cases hb
   · rw [h1] at hb; cases hb; rw [h2] at e; cases e
 | am b' g' k=>cases hb; rw [h.1] at e; cases e
 | im b' k=>cases hb; rw [h.1] at e; cases e
 | bl v el ms =>
   obtain⟨_,_,b',size,h1,h2,_⟩:=h
   rw [h1] at hb; cases hb; rw [h2] at e; cases e
 | km b' c' g' n=>cases hb; rw [h.1] at e; cases e
 | it b' m n r st ty=>cases hb; rw [h.1] at e; cases e
theorem Q.nD (hq:Q c T G Γ st) {osA osB os':List Own} {tys':List TF} {b:Nat} (ho:st.os.Perm (osA++osB)) (hgr:nc c.n0 G G') (hk:∀k,k≠b->Γ'.m k=Γ.m k) (hG:∀k,k≠b->G' k=G k) (hb:(G' b).isSome=true) (hraw:∀el size C,G b≠some (.cells .raw el size C)) (hdat:∀el size C,G b=some (.cells .data el size C)->∃C',G' b=some (.cells .data el size C'))
  (hle:∀x,Γ.m b=some x->∃y,Γ'.m b=some y/\nj x y) (hgd:Γ'.gd=Γ.gd) (hng:Γ'.ng=Γ.ng) (hS:b∈eJ osB∨G b=none∨∃x,Γ.m b=some x/\x.fixed c.Φ=false)
  (hds:∀x,dE G G'->dm Γ Γ'->Γ'.m b=some x->sX c.P c.Φ G' Γ' b x) (h1:∀o∈os',dE G G'->dm Γ Γ'->cY c.P c.Φ G' Γ' o) (h2:(eJ os').Nodup) (h3:∀o∈os',∀b,o.aR=some b->b∈eJ osB∨G b=none) (h4:∀f∈tys',dE G G'->dm Γ Γ'->fx c.P c.Φ G' Γ' f) (hpin:∀cc g,Γ.m b=some (.map cc g)->∀o∈osA,o.Rx=false) :
  Q c T G' Γ' ⟨st.L,osA++os',tys'++st.dL,st.gs⟩:=by
 have hr:Rl c.Φ (eJ osB) [] G Γ G' Γ':=OX hk hG hb hraw hdat hle hgd hng hS fun x h=>hq.ht.told h
 have:=hq.call (gs':=[]) (gsA:=st.gs) ho hr hgr (hq.ht.Ya hr.r hr.le hgd hk hG fun x h=>hds x hr.r hr.le h) (fun o h=>h1 o h hr.r hr.le) h2 h3 (fun f h=>h4 f h hr.r hr.le) (fun g h=>by cases h) (fun p hp=>⟨hp,by rw [hgd]⟩) (fun p hp=>by cases hp) (fun o _ g _=>by rw [hgd]) (fun o ho2 hp k cc g hk2=>by
  by_cases e:k=b
  · subst e; rw [hpin cc g hk2 o ho2] at hp; cases hp
  · exact hG k e)
 exact this
theorem Q.AX (hq:Q c T G Γ st) {b:Nat} {g:Gh} (hn:c.n0<=b) (hb:G b=none) (o:Own) (ho:o.aR=some b) (hok:cY c.P c.Φ (eH G b g) Γ o):Q c T (eH G b g) Γ ⟨st.L,o::st.os,st.dL,st.gs⟩:=by
 have:=hq.nD (osA:=st.os) (osB:=[]) (os':=[o]) (tys':=[]) (b:=b) (G':=eH G b g) (Γ':=Γ) (by simp) (dC (.inr hn)) (fun _ _=>rfl) (fun k h=>db h) (by rw [ay]; rfl) (fun _ _ _ h=>by rw [hb] at h; cases h) (fun _ _ _ h=>by rw [hb] at h; cases h) (fun x h=>by rw [hq.ht.none hb] at h; cases h) rfl rfl (.inr (.inl hb))
  (fun x _ _ h=>by rw [hq.ht.none hb] at h; cases h) (fun o' h _ _=>by rw [List.mem_singleton.1 h]; exact hok) (by show (List.filterMap Own.aR [o]).Nodup; simp [ho]) (fun o' h b' hb'=>by rw [List.mem_singleton.1 h,ho] at hb'; cases hb'; exact .inr hb) (fun f h=>by cases h) (fun _ _ h=>by rw [hq.ht.none hb] at h; cases h)
 exact this.iq (fun _ _ h=>h) ⟨[],by simp⟩ (fun f h=>h) (fun p h=>h)
theorem Q.OY (hq:Q c T G Γ st) {b cc g size:Nat} {L:List Nat} {C:List AV} {tys':List TF} (hn:c.n0<=b) (hb:G b=none) (hg:g<Γ.ng) (hrw:c.Φ.raw cc=false) (hu:c.Φ.fy cc=true->∀m∈L,m=WU) (hl:C.length=L.length*ae c.P (c.Φ.ty cc)) (hel:∀j m,L[j]?=some m->eI c.P c.Φ G Γ m cc g j ((C.drop (j*ae c.P (c.Φ.ty cc))).take (ae c.P (c.Φ.ty cc))))
  (h4:∀f∈tys',fx c.P c.Φ (eH G b (.cells .data (c.Φ.ty cc) size C)) (updΓ Γ b (.cells cc g L)) f):Q c T (eH G b (.cells .data (c.Φ.ty cc) size C)) (updΓ Γ b (.cells cc g L)) ⟨st.L,st.os,tys'++st.dL,st.gs⟩:=by
 have:=hq.nD (osA:=st.os) (osB:=[]) (os':=[]) (tys':=tys') (b:=b) (G':=eH G b (.cells .data (c.Φ.ty cc) size C)) (Γ':=updΓ Γ b (.cells cc g L)) (by simp) (dC (.inr hn)) (fun k h=>updΓ_ne h) (fun k h=>db h) (by rw [ay]; rfl) (fun _ _ _ h=>by rw [hb] at h; cases h) (fun _ _ _ h=>by rw [hb] at h; cases h) (fun x h=>by rw [hq.ht.none hb] at h; cases h) rfl rfl (.inr (.inl hb))
  (fun x hr hl' h=>by rw [updΓ_same] at h; cases h; exact⟨⟨hg,hrw⟩,hu,size,C,ay _ _ _,hl,fun j m hj=>(hel j m hj).le hr hl' hg⟩) (fun o' h=>by cases h) (by show ([]:List Nat).Nodup; simp) (fun o' h=>by cases h) (fun f h _ _=>h4 f h) (fun _ _ h=>by rw [hq.ht.none hb] at h; cases h)
 exact this.iq (fun _ _ h=>h) ⟨[],by simp⟩ (fun f h=>h) (fun p h=>h)
theorem Q.Vm (hq:Q c T G Γ st) {b cc g:Nat} {tys':List TF} (hn:c.n0<=b) (hb:G b=none) (hg:g<Γ.ng) (hm:eE c.P c.Φ G Γ cc g [])
  (h4:∀f∈tys',fx c.P c.Φ (eH G b (.map [])) (updΓ Γ b (.map cc g)) f):Q c T (eH G b (.map [])) (updΓ Γ b (.map cc g)) ⟨st.L,st.os,tys'++st.dL,st.gs⟩:=by
 have:=hq.nD (osA:=st.os) (osB:=[]) (os':=[]) (tys':=tys') (b:=b) (G':=eH G b (.map [])) (Γ':=updΓ Γ b (.map cc g)) (by simp) (dC (.inr hn)) (fun k h=>updΓ_ne h) (fun k h=>db h) (by rw [ay]; rfl) (fun _ _ _ h=>by rw [hb] at h; cases h) (fun _ _ _ h=>by rw [hb] at h; cases h) (fun x h=>by rw [hq.ht.none hb] at h; cases h) rfl rfl (.inr (.inl hb))
  (fun x hr hl' h=>by rw [updΓ_same] at h; cases h; exact⟨hg,[],ay _ _ _,(fun p hp=>by cases hp),hm.le hr hl' rfl⟩) (fun o' h=>by cases h) (by show ([]:List Nat).Nodup; simp) (fun o' h=>by cases h) (fun f h _ _=>h4 f h) (fun _ _ h=>by rw [hq.ht.none hb] at h; cases h)
 exact this.iq (fun _ _ h=>h) ⟨[],by simp⟩ (fun f h=>h) (fun p h=>h)
theorem Q.wY (hq:Q c T G Γ st) {b:Nat} {osA:List Own} {o o':Own} {tys':List TF} (ho:st.os.Perm (osA++[o])) (hgr:nc c.n0 G G') (hk:∀k,k≠b->Γ'.m k=Γ.m k) (hG:∀k,k≠b->G' k=G k) (hb:(G' b).isSome=true) (hraw:∀el size C,G b≠some (.cells .raw el size C)) (hdat:∀el size C,G b=some (.cells .data el size C)->∃C',G' b=some (.cells .data el size C'))
  (hle:∀x,Γ.m b=some x->∃y,Γ'.m b=some y/\nj x y) (hgd:Γ'.gd=Γ.gd) (hng:Γ'.ng=Γ.ng) (hob:o.aR=some b∨G b=none) (ho':o'.aR=some b)
  (hds:∀x,dE G G'->dm Γ Γ'->Γ'.m b=some x->sX c.P c.Φ G' Γ' b x) (h1:dE G G'->dm Γ Γ'->cY c.P c.Φ G' Γ' o') (h4:∀f∈tys',dE G G'->dm Γ Γ'->fx c.P c.Φ G' Γ' f) :
  Q c T G' Γ' ⟨st.L,osA++[o'],tys'++st.dL,st.gs⟩:=by
 refine hq.nD (b:=b) ho hgr hk hG hb hraw hdat hle hgd hng ?_ hds (fun o2 h=>by rw [List.mem_singleton.1 h]; exact h1) (by show (List.filterMap Own.aR [o']).Nodup; simp [ho']) (fun o2 h b2 hb2=>?_) h4 (fun cc g hm=>?_)
 · rcases hob with h | h
   · exact .inl (ir.2 ⟨o,by simp,h⟩)
   · exact .inr (.inl h)
 · rw [List.mem_singleton.1 h,ho'] at hb2; cases hb2
   rcases hob with h | h
   · exact .inl (ir.2 ⟨o,by simp,h⟩)
   · exact .inr h
 · rcases hob with h | h
   · exact absurd hm ((hq.own o (ho.mem_iff.2 (by simp))).RM h cc g)
   · rw [hq.ht.none h] at hm; cases hm
theorem Q.OZ (hq:Q c T G Γ st) {b:Nat} {x y:Ds} {tys':List TF} {g':Gh} (hx:Γ.m b=some x) (hf:x.fixed c.Φ=false) (hxy:nj x y) (hdat:∀el size C,G b=some (.cells .data el size C)->∃C',g'=.cells .data el size C')
  (hds:dE G (eH G b g')->dm Γ (updΓ Γ b y)->sX c.P c.Φ (eH G b g') (updΓ Γ b y) b y) (h4:∀f∈tys',fx c.P c.Φ (eH G b g') (updΓ Γ b y) f) (hpin:∀cc g,x=.map cc g->∀o∈st.os,o.Rx=false) :
  Q c T (eH G b g') (updΓ Γ b y) ⟨st.L,st.os,tys'++st.dL,st.gs⟩:=by
 have htold:=hq.ht.told hx
 have:=hq.nD (osA:=st.os) (osB:=[]) (os':=[]) (tys':=tys') (b:=b) (G':=eH G b g') (Γ':=updΓ Γ b y) (by simp) (dC (.inl htold)) (fun k h=>updΓ_ne h) (fun k h=>db h) (by rw [ay]; rfl) (fun el size C h=>by
   have:=hq.ht.b b x hx
   cases x with
   | cells cc g L=>obtain⟨_,_,s2,C2,h2,_⟩:=this; rw [h] at h2; cases h2
   | map cc g=>obtain⟨_,es,h2,_⟩:=this; rw [h] at h2; cases h2)
  (fun el size C h=>by obtain⟨C',h'⟩:=hdat el size C h; exact⟨C',by rw [ay,h']⟩) (fun x' h=>by rw [hx] at h; cases h; exact⟨y,updΓ_same _ _ _,hxy⟩) rfl rfl (.inr (.inr ⟨x,hx,hf⟩))
  (fun x' hr hl' h=>by rw [updΓ_same] at h; cases h; exact hds hr hl') (fun o' h=>by cases h) (by show ([]:List Nat).Nodup; simp) (fun o' h=>by cases h) (fun f h _ _=>h4 f h) (fun cc g h=>by rw [hx] at h; cases h; exact hpin cc g rfl)
 exact this.iq (fun _ _ h=>h) ⟨[],by simp⟩ (fun f h=>h) (fun p h=>h)
end
end Go.Rt
namespace Go.Rd
open Go.aQ Go.RowKit Go.Rt
def vm (s:SS) (f:dw):Bool:=s.ty.any (dw.beq f)
theorem pB {s:SS} {f:dw} (h:vm s f=true):f∈s.ty:=by
 obtain⟨x,h1,h2⟩:=List.any_eq_true.1 h
 have:=dw.ai h2
 subst this; exact h1
def O0 (cf:Cf) (s:SS) (g cc:Nat) (x:SC) (K:LE->Option (Option Nat)):Option (Option Nat):=bif cf.Φ.via cc then none else match x with
 | .aB=>(K (.k 0)).map fun _=>none
 | .ref y=>bif vm s (.sl y cc (vf cf.Φ g cc)) then (K (.a (.len y))).map fun _=>plain cf.Φ cc y else none
 | _=>none
def okB (b:Bool):Option (Option Nat):=bif b then some none else none
def D8:List (Nat × Nat)->Nat->Option Nat
 | [],_=>none
 | p::l,d=>bif Nat.beq p.1 d then some p.2 else D8 l d
theorem wZ:∀{l:List (Nat × Nat)} {d e:Nat},D8 l d=some e->(d,e)∈l
 | [],_,_,h=>by cases h
 | p::l,d,e,h=>by
   have h:(bif Nat.beq p.1 d then some p.2 else D8 l d)=some e:=h
   cases hb:Nat.beq p.1 d with
   | true=>rw [hb] at h; cases h; have:=Nat.eq_of_beq_eq_true hb; subst this; exact List.mem_cons_self ..
   | false=>rw [hb] at h; exact List.mem_cons_of_mem _ (wZ h)
def XH (cf:Cf) (s:SS) (g:Nat) (d:Option Nat) (cc:Nat):Option Nat:=bif cf.Φ.via cc then (match d with | some d=>D8 s.sb d | none=>none) else some (vf cf.Φ g cc)
def QX (cf:Cf) (s:SS) (g:Nat) (d:Option Nat) (cc:Nat) (x:SC):Bool:=match x,XH cf s g d cc with
 | .ref y,some g'=>vm s (.pt y cc g')
 | _,_=>false
def QY (cf:Cf) (s:SS) (g cc:Nat) (x:SC):Bool:=match x with
 | .ref y=>!cf.Φ.via cc&&vm s (.mp y cc (vf cf.Φ g cc))
 | _=>false
def Ii:SC->Bool | .dq=>true | _=>false
def Ij:SC->Bool | .aV=>true | _=>false
def pC (cf:Cf) (s:SS) (g:Nat) (d:Option Nat) (j:LE) (k:K2) (x:SC):Option (Option Nat):=match k with
 | .int kd=>(match x with | .int k' _=>okB (cD k' kd) | _=>none)
 | .nat b=>(match x,d with | .int k' e,some d=>okB (eW k'&&(bq s e&&bq s (((LE.a (.gn d b)).sub e).aW (-1)))) | _,_=>none)
 | .str=>okB (strOf x).isSome
 | .qb=>(match d with | some d=>(match strOf x,wW s.ats d x with | some _,some e=>okB (e.same j) | _,_=>none) | none=>none)
 | .uc _=>none
 | .bool=>(match x with | .bool _=>some none | _=>none)
 | .n6 kd=>(match x with | .n6 k' _=>okB (n8 k' kd) | .wI k' _=>okB (n8 k' kd) | _=>none)
 | .sl cc=>O0 cf s g cc x fun _=>some none
 | .Ax cc b=>O0 cf s g cc x fun l=>okB (bq s ((LE.k b).sub l))
 | .zG cc b=>(match d with | some d=>O0 cf s g cc x fun l=>okB (bq s ((LE.a (.gn d b)).sub l)) | none=>none)
 | .xq cc b=>(match d with | some d=>O0 cf s g cc x fun l=>okB (s.fz.contains d&&(bq s ((LE.a (.gn d b)).sub l)&&bq s (l.sub (.a (.gn d b))))) | none=>none)
 | .yS cc=>(match d with | some d=>(match wN s.c9 d j with | some e=>O0 cf s g cc x fun l=>okB (bq s (e.sub l)&&bq s (l.sub e)) | none=>none) | none=>none)
 | .ptr cc=>okB (QX cf s g d cc x)
 | .D1 cc=>okB (Ii x||QX cf s g d cc x)
 | .mp cc=>okB (QY cf s g cc x)
 | .D2 cc=>okB (Ij x||QY cf s g cc x)
 | .bad=>none
section
variable {c:Cx} {T:Tm} {G:GH} {Γ:c8} {ρ ρ':bc} {s s':SS} {cf:Cf} {ops:Array Oper} {i d:Nat}
theorem dt {b:Bool} {o:Option Nat} (h:okB b=some o):b=true/\o=none:=by
 cases b with
 | true=>cases h; exact⟨rfl,rfl⟩
 | false=>cases h
theorem tj {g cc:Nat} {x:SC} {K:LE->Option (Option Nat)} {o:Option Nat} (h:O0 cf s g cc x K=some o) (hΦ:cf.Φ=c.Φ) (hk:Ok c T G Γ ρ s) (dd:Gd):∃ns le,(K le).isSome=true/\le.ev ρ=(ns.length:Int)/\fx c.P c.Φ G Γ (.sl (x.den ρ) cc (gi c.Φ dd (ig ρ g) cc) ns)/\HZ ρ o=iH c.Φ [.sl (x.den ρ) cc (gi c.Φ dd (ig ρ g) cc) ns]:=by
 unfold O0 at h
 rw [hΦ] at h
 cases hv:c.Φ.via cc with
 | true=>rw [hv] at h; cases h
 | false =>
   rw [hv] at h
   simp only [cond_false] at h
   split at h
   · obtain⟨q,hq⟩:=Option.isSome_iff_exists.1 (show (K (.k 0)).isSome=true by cases hK:K (.k 0) with | none=>rw [hK] at h; cases h | some q=>rfl)
     rw [hq] at h
     cases h
     exact⟨[],.k 0,by rw [hq]; rfl,by rw [LE.bp]; rfl,⟨Nat.zero_le _,.inl ⟨rfl,rfl⟩⟩,by simp [HZ,iH,sw]⟩
   · rename_i y
     cases hb:vm s (.sl y cc (vf c.Φ g cc)) with
     | false=>rw [hb] at h; cases h
     | true =>
       rw [hb] at h
       simp only [cond_true] at h
       obtain⟨q,hq⟩:=Option.isSome_iff_exists.1 (show (K (.a (.len y))).isSome=true by cases hK:K (.a (.len y)) with | none=>rw [hK] at h; cases h | some q=>rfl)
       rw [hq] at h
       cases h
       have ht:=hk.ty (pB hb)
       have ht:fx c.P c.Φ G Γ (.sl (ρ y).vv cc (ig ρ (vf c.Φ g cc)) (ρ y).ns):=ht
       rw [<-qg (d:=dd) hv] at ht
       exact⟨(ρ y).ns,.a (.len y),by rw [hq]; rfl,by rw [LE.a9]; rfl,ht,fI rfl⟩
   · cases h
theorem Ik {g cc:Nat} {dv:Option Nat} {x:SC} (h:QX cf s g dv cc x=true) (hΦ:cf.Φ=c.Φ) (hk:Ok c T G Γ ρ s) (hd:∀v,dv=some v->Γ.gd (ig ρ g)=(ρ v).gg):fx c.P c.Φ G Γ (.pt (x.den ρ) cc (gi c.Φ (Γ.gd (ig ρ g)) (ig ρ g) cc)):=by
 unfold QX at h
 split at h
 · rename_i y g' hg'
   have ht:=hk.ty (pB h)
   have ht:fx c.P c.Φ G Γ (.pt (ρ y).vv cc (ig ρ g')):=ht
   have:gi c.Φ (Γ.gd (ig ρ g)) (ig ρ g) cc=ig ρ g':=by
    unfold XH at hg'
    rw [hΦ] at hg'
    cases hv:c.Φ.via cc with
    | false=>rw [hv] at hg'; cases hg'; exact qg hv
    | true =>
      rw [hv] at hg'
      simp only [cond_true] at hg'
      cases dv with
      | none=>cases hg'
      | some v =>
        have:=hk.sat.sb _ (wZ hg')
        have this:(ρ v).gg.sub=ig ρ g':=this
        unfold gi
        rw [hv,hd v rfl]
        exact this
   rw [this]; exact ht
 · cases h
theorem Il {g cc:Nat} {x:SC} (h:QY cf s g cc x=true) (hΦ:cf.Φ=c.Φ) (hk:Ok c T G Γ ρ s) (dd:Gd):fx c.P c.Φ G Γ (.mp (x.den ρ) cc (gi c.Φ dd (ig ρ g) cc)):=by
 unfold QY at h
 split at h
 · rename_i y
   rw [hΦ,Bool.and_eq_true,Bool.not_eq_true'] at h
   have ht:=hk.ty (pB h.2)
   have ht:fx c.P c.Φ G Γ (.mp (ρ y).vv cc (ig ρ (vf c.Φ g cc))):=ht
   rw [qg h.1]; exact ht
 · cases h
theorem w5 {g J:Nat} {dv:Option Nat} {j:LE} {k:K2} {x:SC} {o:Option Nat} (h:pC cf s g dv j k x=some o) (hΦ:cf.Φ=c.Φ) (hk:Ok c T G Γ ρ s) (hd:∀v,dv=some v->Γ.gd (ig ρ g)=(ρ v).gg) (hj:0<=j.ev ρ/\J=(j.ev ρ).toNat) :
  ∃fs,Kv c.Φ (Γ.gd (ig ρ g)) (ig ρ g) J k (x.den ρ) fs/\HZ ρ o=iH c.Φ fs/\∀f∈fs,fx c.P c.Φ G Γ f:=by
 have jz:∀{b:Bool},okB b=some o->HZ ρ o=0:=fun h=>by rw [(dt h).2]; rfl
 cases k with
 | int kd =>
   unfold pC at h
   simp only at h
   split at h
   · have:=of_decide_eq_true (dt h).1
     subst this
     exact⟨[],⟨⟨_,rfl⟩,rfl⟩,jz h,fun f hf=>by cases hf⟩
   · cases h
 | nat b =>
   unfold pC at h
   simp only at h
   split at h
   · rename_i k' e v
     have h1:=(dt h).1
     simp only [Bool.and_eq_true] at h1
     have:=dU h1.1
     subst this
     have e1:=ax h1.2.1 hk.sat
     have e2:=ax h1.2.2 hk.sat
     rw [LE.aJ,LE.aw,LE.a9] at e2
     have e2:0<=(((ρ v).gg.n b:Nat):Int)-e.ev ρ+-1:=e2
     refine⟨[],⟨⟨(e.ev ρ).toNat,?_,?_⟩,rfl⟩,jz h,fun f hf=>by cases hf⟩
     · show AV.int .i64 (e.ev ρ)=_; congr 1; exact (Int.toNat_of_nonneg e1).symm
     · rw [hd v rfl]; omega
   · cases h
 | str =>
   have h0:okB (strOf x).isSome=some o:=h
   obtain⟨q,hq⟩:=Option.isSome_iff_exists.1 (dt h0).1
   obtain⟨l,m,e,_⟩:=ew hq ρ
   exact⟨[],⟨⟨l,m,e,j5 (dt h0).1 e⟩,rfl⟩,jz h0,fun f hf=>by cases hf⟩
 | qb =>
   unfold pC at h
   simp only at h
   split at h
   · rename_i v
     split at h
     · rename_i q e hq ha
       have hs:=(dt h).1
       obtain⟨l,m,ex,_⟩:=ew hq ρ
       obtain⟨x',m1,m2⟩:=pz ha
       have hej:e.ev ρ=j.ev ρ:=LE.bj hs ρ
       obtain⟨q1,q2⟩:=(hk.sat.ats _ m1).resolve_right fun hr=>by
        have hr:e.ev ρ<0:=hr.1
        have:=hj.1
        omega
       have q2:zH (ρ v).gg (x'.den ρ)=some (e.ev ρ).toNat:=q2
       rw [m2 ρ,ex,LE.bj hs ρ,<-hj.2] at q2
       exact⟨[],⟨⟨l,m,ex,j5 (by rw [hq]; rfl) ex,by rw [hd v rfl]; exact q2⟩,rfl⟩,jz h,fun f hf=>by cases hf⟩
     · cases h
   · cases h
 | uc b=>cases h
 | bool =>
   unfold pC at h
   simp only at h
   split at h
   · cases h; exact⟨[],⟨⟨_,rfl⟩,rfl⟩,rfl,fun f hf=>by cases hf⟩
   · cases h
 | n6 kd =>
   unfold pC at h
   simp only at h
   split at h
   · have:=of_decide_eq_true (dt h).1; subst this; exact⟨[],⟨⟨_,rfl⟩,rfl⟩,jz h,fun f hf=>by cases hf⟩
   · have:=of_decide_eq_true (dt h).1; subst this; exact⟨[],⟨⟨_,rfl⟩,rfl⟩,jz h,fun f hf=>by cases hf⟩
   · cases h
 | sl cc =>
   simp only [pC] at h
   obtain⟨ns,le,h1,h2,h3,h4⟩:=tj h hΦ hk (Γ.gd (ig ρ g))
   exact⟨_,⟨ns,rfl⟩,h4,fun f hf=>by rw [List.mem_singleton.1 hf]; exact h3⟩
 | Ax cc b =>
   simp only [pC] at h
   obtain⟨ns,le,h1,h2,h3,h4⟩:=tj h hΦ hk (Γ.gd (ig ρ g))
   obtain⟨q,hq⟩:=Option.isSome_iff_exists.1 h1
   have:=ax (dt hq).1 hk.sat
   rw [LE.aw,LE.bp,h2] at this
   exact⟨_,⟨ns,rfl,by omega⟩,h4,fun f hf=>by rw [List.mem_singleton.1 hf]; exact h3⟩
 | zG cc b =>
   unfold pC at h
   simp only at h
   cases dv with
   | none=>cases h
   | some v =>
     simp only at h
     obtain⟨ns,le,h1,h2,h3,h4⟩:=tj h hΦ hk (Γ.gd (ig ρ g))
     obtain⟨q,hq⟩:=Option.isSome_iff_exists.1 h1
     have:=ax (dt hq).1 hk.sat
     rw [LE.aw,LE.a9,h2] at this
     have this:0<=(((ρ v).gg.n b:Nat):Int)-(ns.length:Int):=this
     exact⟨_,⟨ns,rfl,by rw [hd v rfl]; omega⟩,h4,fun f hf=>by rw [List.mem_singleton.1 hf]; exact h3⟩
 | xq cc b =>
   unfold pC at h
   simp only at h
   cases dv with
   | none=>cases h
   | some v =>
     simp only at h
     obtain⟨ns,le,h1,h2,h3,h4⟩:=tj h hΦ hk (Γ.gd (ig ρ g))
     obtain⟨q,hq⟩:=Option.isSome_iff_exists.1 h1
     have hb:=(dt hq).1
     simp only [Bool.and_eq_true] at hb
     have a1:=ax hb.2.1 hk.sat
     have a2:=ax hb.2.2 hk.sat
     rw [LE.aw,LE.a9,h2] at a1 a2
     have a1:0<=(((ρ v).gg.n b:Nat):Int)-(ns.length:Int):=a1
     have a2:0<=(ns.length:Int)-(((ρ v).gg.n b:Nat):Int):=a2
     have hz:=hk.sat.fz v (List.contains_iff_mem.1 hb.1)
     exact⟨_,⟨ns,rfl,by rw [hd v rfl]; exact hz,by rw [hd v rfl]; omega⟩,h4,fun f hf=>by rw [List.mem_singleton.1 hf]; exact h3⟩
 | yS cc =>
   unfold pC at h
   simp only at h
   cases dv with
   | none=>cases h
   | some v =>
     simp only at h
     cases hl:wN s.c9 v j with
     | none=>rw [hl] at h; cases h
     | some e =>
       rw [hl] at h
       simp only at h
       obtain⟨ns,le,h1,h2,h3,h4⟩:=tj h hΦ hk (Γ.gd (ig ρ g))
       obtain⟨q,hq⟩:=Option.isSome_iff_exists.1 h1
       have hb:=(dt hq).1
       simp only [Bool.and_eq_true] at hb
       have a1:=ax hb.1 hk.sat
       have a2:=ax hb.2 hk.sat
       rw [LE.aw,h2] at a1 a2
       obtain⟨j',m1,m2⟩:=py hl
       obtain⟨_,r1,r2⟩:=hk.sat.c9 _ m1
       have r1:(ρ v).gg.fz=true:=r1
       have r2:(((ρ v).gg.fl (j'.ev ρ).toNat:Nat):Int)=e.ev ρ:=r2
       rw [m2 ρ,<-hj.2] at r2
       exact⟨_,⟨ns,rfl,by rw [hd v rfl]; exact r1,by rw [hd v rfl]; omega⟩,h4,fun f hf=>by rw [List.mem_singleton.1 hf]; exact h3⟩
 | ptr cc =>
   have h0:okB (QX cf s g dv cc x)=some o:=h
   exact⟨_,rfl,by rw [jz h0]; rfl,fun f hf=>by rw [List.mem_singleton.1 hf]; exact Ik (dt h0).1 hΦ hk hd⟩
 | D1 cc =>
   have h0:okB (Ii x||QX cf s g dv cc x)=some o:=h
   have hb:=(dt h0).1
   rw [Bool.or_eq_true] at hb
   rcases hb with hb | hb
   · cases x<;>first | (cases hb; done) | skip
     exact⟨[],.inl ⟨rfl,rfl⟩,by rw [jz h0]; rfl,fun f hf=>by cases hf⟩
   · exact⟨_,.inr rfl,by rw [jz h0]; rfl,fun f hf=>by rw [List.mem_singleton.1 hf]; exact Ik hb hΦ hk hd⟩
 | mp cc =>
   have h0:okB (QY cf s g cc x)=some o:=h
   exact⟨_,rfl,by rw [jz h0]; rfl,fun f hf=>by rw [List.mem_singleton.1 hf]; exact Il (dt h0).1 hΦ hk _⟩
 | D2 cc =>
   have h0:okB (Ij x||QY cf s g cc x)=some o:=h
   have hb:=(dt h0).1
   rw [Bool.or_eq_true] at hb
   rcases hb with hb | hb
   · cases x<;>first | (cases hb; done) | skip
     exact⟨[],.inl ⟨rfl,rfl⟩,by rw [jz h0]; rfl,fun f hf=>by cases hf⟩
   · exact⟨_,.inr rfl,by rw [jz h0]; rfl,fun f hf=>by rw [List.mem_singleton.1 hf]; exact Il hb hΦ hk _⟩
 | bad=>cases h
def qn (cf:Cf) (s:SS) (g:Nat) (d:Option Nat) (j:LE):List K2->List SC->Option (List Nat)
 | [],[]=>some []
 | k::ks,x::xs=>match pC cf s g d j k x,qn cf s g d j ks xs with
   | some o,some os=>some (o.toList++os)
   | _,_=>none
 | _,_=>none
theorem m6 {g J:Nat} {dv:Option Nat} {j:LE} (hΦ:cf.Φ=c.Φ) (hk:Ok c T G Γ ρ s) (hd:∀v,dv=some v->Γ.gd (ig ρ g)=(ρ v).gg) (hj:0<=j.ev ρ/\J=(j.ev ρ).toNat):∀{ks:List K2} {xs:List SC} {os:List Nat},qn cf s g dv j ks xs=some os ->
  ∃fs,gP c.Φ (Γ.gd (ig ρ g)) (ig ρ g) J ks (aE ρ xs) fs/\(iB os).ev ρ=(iH c.Φ fs:Nat)/\∀f∈fs,fx c.P c.Φ G Γ f
 | [],[],os,h=>by cases h; exact⟨[],⟨rfl,rfl⟩,by rw [iB,LE.bp]; rfl,fun f hf=>by cases hf⟩
 | k::ks,x::xs,os,h=>by
   unfold qn at h
   split at h
   · rename_i o os' h1 h2
     cases h
     obtain⟨f1,a1,a2,a3⟩:=w5 h1 hΦ hk hd hj
     obtain⟨f2,b1,b2,b3⟩:=m6 hΦ hk hd hj h2
     refine⟨f1++f2,⟨_,_,f1,f2,rfl,rfl,a1,b1⟩,?_,fun f hf=>(List.mem_append.1 hf).elim (a3 f) (b3 f)⟩
     rw [gY,<-a2]
     cases o with
     | none=>simp only [Option.toList,List.nil_append,HZ]; rw [b2]; omega
     | some y =>
       show (iB (y::os')).ev ρ=_
       rw [iB,LE.gF,LE.a9,b2]
       show (iH c.Φ f2:Int)+(((ρ y).ns.sum+(ρ y).ns.length:Nat):Int)=((HZ ρ (some y)+iH c.Φ f2:Nat):Int)
       simp only [HZ]; omega
   · cases h
 | [],_::_,_,h=>by cases h
 | _::_,[],_,h=>by cases h
def Hv (c:Cx) (T:Tm) (G:GH) (Γ:c8) (ops:Array Oper) (i:Nat) (s:SS) (ρ:bc) (K:SS->R):Prop :=
 eZ c.P c.n0 c.nt ops i T .e (z 0) G fun T' hp' nx' G'=>hp'=.e/\nx'=z 0/\∃Γ' ρ' s',(K s').Ok/\de s.nx ρ ρ'/\s.nx<=s'.nx/\Ok c T' G' Γ' ρ' s'
def dX (s:SS) (d:Nat) (v:SV):SS:=⟨s.nx,(d,v)::s.L,s.os,s.ty,s.gs,s.fs,s.bs,s.pw,s.ats,s.c9,s.ne,s.fz,s.sb⟩
theorem Ok.put {v:SV} (h:Ok c T G Γ ρ s) (d:Nat):Ok c (T.put d (v.den ρ)) G Γ ρ (dX s d v):=⟨⟨h.sat.fs,h.sat.bs,h.sat.pw,h.sat.ats,h.sat.c9,h.sat.ne,h.sat.fz,h.sat.sb⟩,h.q.put d (v.den ρ)⟩
def gw (s:SS) (o:SO):SS:=⟨s.nx,s.L,o::s.os,s.ty,s.gs,s.fs,s.bs,s.pw,s.ats,s.c9,s.ne,s.fz,s.sb⟩
def dV (s:SS) (os:List SO):SS:=⟨s.nx,s.L,os,s.ty,s.gs,s.fs,s.bs,s.pw,s.ats,s.c9,s.ne,s.fz,s.sb⟩
theorem Lo.hv {K:SS->R} (hd:(ab ops i).dst=some d) (hlt:d<c.nt) (h:Lo c T G Γ ops i s ρ fun v s=>K (dX s d v)):Hv c T G Γ ops i s ρ K:=by
 obtain⟨ρ',s',a,n,o,v,h1,h2⟩:=h
 exact aZ.st h2 hd hlt ⟨rfl,rfl,Γ,ρ',_,h1,a,n,o.put d⟩
def Vn (cf:Cf) (t:TypeId) (d:Nat) (s:SS) (K:SS->R):R:=match (zeroOf cf.P t).bind vd with
 | some v=>(match dx v with | some cs=>fresh s fun b s=>K (dX (gw s (.loc b t cs)) d (sc (.bW b 0))) | none=>.bad 100 s)
 | none=>.bad 101 s
theorem B8 {K:SS->R} {t:TypeId} {cs:List SC} (h:(fresh s (fun b s=>K (dX (gw s (.loc b t cs)) d (sc (.bW b 0))))).Ok) (hcs:BV s.nx cs=true) (hk:Ok c T G Γ ρ s) {b:Nat} (hb:c.n0<=b) (hb':G b=none) :
  ∃Γ' ρ' s',(K s').Ok/\de s.nx ρ ρ'/\s.nx<=s'.nx/\Ok c (T.put d (.bW b 0)) (eH G b (.cells .loc t (aE ρ cs).length (aE ρ cs))) Γ' ρ' s':=by
 obtain⟨h1,h2,h3,h4⟩:=az h hk (.n b)
 refine⟨Γ,_,_,h1,h2,Nat.le_succ _,?_⟩
 have e1:(ρ.up s.nx (.n b) s.nx).nn=b:=by rw [h4]; rfl
 have e2:aE (ρ.up s.nx (.n b)) cs=aE ρ cs:=mi h2 hcs
 have q:=h3.q.AX hb hb' (.loc b t (aE ρ cs)) rfl ⟨ay _ _ _,h3.q.ht.none hb'⟩
 have hq:Q c T (eH G b (.cells .loc t (aE ρ cs).length (aE ρ cs))) Γ ((gw (aC s) (.loc s.nx t cs)).den (ρ.up s.nx (.n b))):=by
  have:(gw (aC s) (.loc s.nx t cs)).den (ρ.up s.nx (.n b))=⟨((aC s).den (ρ.up s.nx (.n b))).L,.loc b t (aE ρ cs)::((aC s).den (ρ.up s.nx (.n b))).os,((aC s).den (ρ.up s.nx (.n b))).dL,((aC s).den (ρ.up s.nx (.n b))).gs⟩:=by
   unfold gw SS.den
   simp only [List.map_cons,SO.den,e1,e2]
  rw [this]; exact q
 have ok1:Ok c T (eH G b (.cells .loc t (aE ρ cs).length (aE ρ cs))) Γ (ρ.up s.nx (.n b)) (gw (aC s) (.loc s.nx t cs)):=⟨⟨h3.sat.fs,h3.sat.bs,h3.sat.pw,h3.sat.ats,h3.sat.c9,h3.sat.ne,h3.sat.fz,h3.sat.sb⟩,hq⟩
 have:=ok1.put (v:=sc (.bW s.nx 0)) d
 have e3:(sc (.bW s.nx 0)).den (ρ.up s.nx (.n b))=.bW b 0:=by show AV.bW (ρ.up s.nx (.n b) s.nx).nn 0=_; rw [e1]
 rw [e3] at this
 exact this
theorem Im {a:AV} {x:SC} (h:Mv a=some x) (n:Nat):x.lt n=true:=by
 unfold Mv at h
 split at h<;>first | (cases h; done) | (cases h; rfl)
theorem Io (n:Nat):∀{l:List AV} {xs:List SC},Mw l=some xs->BV n xs=true
 | [],xs,h=>by cases h; rfl
 | a::l,xs,h=>by
   unfold Mw at h
   split at h
   · rename_i x xs' h1 h2
     cases h
     show (SC.lt n x&&BV n xs')=true
     rw [Im h1,Io n h2]; rfl
   · cases h
theorem D9 {a:AV} {v:SV} {cs:List SC} (h:vd a=some v) (hc:dx v=some cs) (n:Nat):BV n cs=true:=by
 unfold vd at h
 split at h
 · rename_i l
   cases hl:Mw l with
   | none=>rw [hl] at h; cases h
   | some xs=>rw [hl] at h; cases h; cases hc; exact Io n hl
 · cases h; cases hc
 · cases hl:Mv a with
   | none=>rw [hl] at h; cases h
   | some x=>rw [hl] at h; cases h; cases hc; show (SC.lt n x&&true)=true; rw [Im hl]; rfl
theorem O3 {t:TypeId} {K:SS->R} (ho:(ab ops i).op=.alloc t) (hg:(ab ops i).guard=none) (hd:(ab ops i).dst=some d) (hlt:d<c.nt) (hP:cf.P=c.P) (h:(Vn cf t d s K).Ok) (hk:Ok c T G Γ ρ s):Hv c T G Γ ops i s ρ K:=by
 unfold Vn at h
 rw [hP] at h
 cases hz:zeroOf c.P t with
 | none=>rw [hz] at h; cases h
 | some zz =>
   rw [hz] at h
   simp only [Option.bind_some] at h
   cases hv:vd zz with
   | none=>rw [hv] at h; cases h
   | some v =>
     rw [hv] at h
     simp only at h
     cases hc:dx v with
     | none=>rw [hc] at h; cases h
     | some cs =>
       rw [hc] at h
       simp only at h
       have e1:=mn hv ρ
       have e2:zz.cells=aE ρ cs:=by rw [<-e1]; exact fe hc ρ
       refine eZ.OW .loc hg hd hlt ho hz (by rw [e2]; exact fO _ _) fun b hb hb'=>⟨rfl,rfl,?_⟩
       rw [e2]
       exact B8 h (D9 hv hc _) hk hb hb'
def AY (cf:Cf) (t:TypeId) (v:SV) (d:Nat) (s:SS) (K:SS->R):R:=match dx v with
 | some cs=>bif BV s.nx cs then fresh s fun b s=>K (dX (gw s (.loc b t cs)) d (sc (.bW b 0))) else .bad 102 s
 | none=>.bad 103 s
theorem O4 {t:TypeId} {x:Operand} {v:SV} {K:SS->R} (ho:(ab ops i).op=.box t x) (hg:(ab ops i).guard=none) (hd:(ab ops i).dst=some d) (hlt:d<c.nt) (h:(AY cf t v d s K).Ok) (hk:Ok c T G Γ ρ s) (hx:ba c.nt T x (v.den ρ)):Hv c T G Γ ops i s ρ K:=by
 unfold AY at h
 cases hc:dx v with
 | none=>rw [hc] at h; cases h
 | some cs =>
   rw [hc] at h
   simp only at h
   cases hl:BV s.nx cs with
   | false=>rw [hl] at h; cases h
   | true =>
     rw [hl] at h
     simp only [cond_true] at h
     have e2:=fe hc ρ
     refine eZ.Vl .loc hg hd hlt ho hx (by rw [e2]; exact fO _ _) fun b hb hb'=>⟨rfl,rfl,?_⟩
     rw [e2]
     exact B8 h hl hk hb hb'
def fW:List SO->Nat->List SC->List SO
 | [],_,_=>[]
 | .loc b el cs::l,x,cs'=>bif Nat.beq b x then .loc b el cs'::l else .loc b el cs::fW l x cs'
 | o::l,x,cs'=>o::fW l x cs'
theorem cx:∀{l:List SO} {x:Nat} {el:TypeId} {cs:List SC} (cs':List SC),jk l x=some (el,cs)->∃p q,l=p++.loc x el cs::q/\fW l x cs'=p++.loc x el cs'::q
 | [],_,_,_,_,h=>by cases h
 | .loc b el0 cs0::l,x,el,cs,cs',h=>by
   have h:(bif Nat.beq b x then some (el0,cs0) else jk l x)=some (el,cs):=h
   show ∃p q,SO.loc b el0 cs0::l=p++.loc x el cs::q/\(bif Nat.beq b x then SO.loc b el0 cs'::l else .loc b el0 cs0::fW l x cs')=p++.loc x el cs'::q
   cases hb:Nat.beq b x with
   | true =>
     rw [hb] at h; cases h
     have:=Nat.eq_of_beq_eq_true hb
     subst this
     exact⟨[],l,rfl,rfl⟩
   | false =>
     rw [hb] at h
     obtain⟨p,q,h1,h2⟩:=cx cs' h
     exact⟨_::p,q,by rw [h1]; rfl,by rw [cond_false,h2]; rfl⟩
 | .iE y c'::l,x,el,cs,cs',h=>by
   obtain⟨p,q,h1,h2⟩:=cx (l:=l) cs' h
   exact⟨.iE y c'::p,q,by rw [h1]; rfl,by show SO.iE y c'::fW l x cs'=_; rw [h2]; rfl⟩
 | .em y c'::l,x,el,cs,cs',h=>by
   obtain⟨p,q,h1,h2⟩:=cx (l:=l) cs' h
   exact⟨.em y c'::p,q,by rw [h1]; rfl,by show SO.em y c'::fW l x cs'=_; rw [h2]; rfl⟩
 | .ul y c' g'::l,x,el,cs,cs',h=>by
   obtain⟨p,q,h1,h2⟩:=cx (l:=l) cs' h
   exact⟨.ul y c' g'::p,q,by rw [h1]; rfl,by show SO.ul y c' g'::fW l x cs'=_; rw [h2]; rfl⟩
 | .am y c' g'::l,x,el,cs,cs',h=>by
   obtain⟨p,q,h1,h2⟩:=cx (l:=l) cs' h
   exact⟨.am y c' g'::p,q,by rw [h1]; rfl,by show SO.am y c' g'::fW l x cs'=_; rw [h2]; rfl⟩
 | .im y c'::l,x,el,cs,cs',h=>by
   obtain⟨p,q,h1,h2⟩:=cx (l:=l) cs' h
   exact⟨.im y c'::p,q,by rw [h1]; rfl,by show SO.im y c'::fW l x cs'=_; rw [h2]; rfl⟩
 | .bl y c' g'::l,x,el,cs,cs',h=>by
   obtain⟨p,q,h1,h2⟩:=cx (l:=l) cs' h
   exact⟨.bl y c' g'::p,q,by rw [h1]; rfl,by show SO.bl y c' g'::fW l x cs'=_; rw [h2]; rfl⟩
 | .km y c' g' n::l,x,el,cs,cs',h=>by
   obtain⟨p,q,h1,h2⟩:=cx (l:=l) cs' h
   exact⟨.km y c' g' n::p,q,by rw [h1]; rfl,by show SO.km y c' g' n::fW l x cs'=_; rw [h2]; rfl⟩
 | .it y m n r st ty::l,x,el,cs,cs',h=>by
   obtain⟨p,q,h1,h2⟩:=cx (l:=l) cs' h
   exact⟨.it y m n r st ty::p,q,by rw [h1]; rfl,by show SO.it y m n r st ty::fW l x cs'=_; rw [h2]; rfl⟩
theorem zb {α:Type} (p q:List α) (a:α):(p++a::q).Perm ((p++q)++[a]):=by
 have:=List.perm_middle (a:=a) (l₁:=p) (l₂:=q)
 exact this.trans (List.perm_append_singleton a (p++q)).symm
def xP (cf:Cf) (t:TypeId) (b o:Nat) (v:SV) (s:SS) (K:SS->R):R:=match jk s.os b,dx v with
 | some (_,cs),some l=>bif (cf.P.info? t).isSome&&(Nat.beq (ae cf.P t) l.length&&Nat.ble (o+l.length) cs.length) then K (dV s (fW s.os b (qe o l cs))) else .bad 104 s
 | _,_=>.bad 105 s
theorem zc (C l:List AV) (o:Nat):ub C o l=qe o l C:=rfl
theorem O5 {t:TypeId} {x:Nat} {y:Operand} {b o:Nat} {v:SV} {K:SS->R} (ho:(ab ops i).op=.store t (.tmp x) y) (hg:(ab ops i).guard=none) (hd:(ab ops i).dst=none) (hP:cf.P=c.P) (h:(xP cf t b o v s K).Ok) (hk:Ok c T G Γ ρ s) (hx:T.at x=.bW (ρ b).nn o) (hy:ba c.nt T y (v.den ρ)):Hv c T G Γ ops i s ρ K:=by
 unfold xP at h
 rw [hP] at h
 split at h
 · rename_i el cs l hl hv
   cases hb:((c.P.info? t).isSome&&(Nat.beq (ae c.P t) l.length&&Nat.ble (o+l.length) cs.length)) with
   | false=>rw [hb] at h; cases h
   | true =>
     rw [hb] at h
     simp only [cond_true] at h
     simp only [Bool.and_eq_true] at hb
     obtain⟨b1,b2,b3⟩:=hb
     have e2:=fe hv ρ
     have hG:=hk.loc hl
     have kX:(aE ρ cs).length=cs.length:=by simp [aE]
     have hll:(aE ρ l).length=l.length:=by simp [aE]
     have hle:=aL b3
     refine eZ.wE (fun e=>by cases e) hg hd ho hx hy b1 rfl (by rw [e2,hll]; exact (ai b2).symm) (by rw [e2]; exact qk _ _) (by rw [e2]; exact fO _ _) hG (by rw [kX,ai b2]; exact hle) ⟨rfl,rfl,Γ,ρ,_,h,de.refl _ _,Nat.le_refl _,?_⟩
     rw [e2]
     obtain⟨p,q,h1,h2⟩:=cx (qe o l cs) hl
     have hnm:Γ.m (ρ b).nn=none:=(hk.own (dT hl)).2
     have e3:ub (aE ρ cs) o (aE ρ l)=aE ρ (qe o l cs):=(BZ (SC.den ρ) o l cs).symm
     have e4:(qe o l cs).length=cs.length:=rn hle
     have hos:(s.den ρ).os=p.map (SO.den ρ)++(SO.den ρ (.loc b el cs))::q.map (SO.den ρ):=by show s.os.map _=_; rw [h1]; simp
     have hQ:=hk.q.wY (b:=(ρ b).nn) (G':=eH G (ρ b).nn (.cells .loc el cs.length (aE ρ (qe o l cs)))) (Γ':=Γ) (osA:=p.map (SO.den ρ)++q.map (SO.den ρ)) (o:=SO.den ρ (.loc b el cs)) (o':=SO.den ρ (.loc b el (qe o l cs))) (tys':=[]) (by rw [hos]; exact zb _ _ _) (dC (.inl (by rw [hG]; rfl))) (fun _ _=>rfl) (fun k h=>db h) (by rw [ay]; rfl)
      (fun _ _ _ h=>by rw [hG] at h; cases h) (fun _ _ _ h=>by rw [hG] at h; cases h) (fun x h=>by rw [hnm] at h; cases h) rfl rfl (.inl rfl) rfl (fun x _ _ h=>by rw [hnm] at h; cases h) (fun _ _=>⟨by rw [ay]; simp [aE,e4],hnm⟩) (fun f h=>by cases h)
     rw [e3]
     refine⟨⟨hk.sat.fs,hk.sat.bs,hk.sat.pw,hk.sat.ats,hk.sat.c9,hk.sat.ne,hk.sat.fz,hk.sat.sb⟩,hQ.iq (fun _ _ h=>h) ⟨[],?_⟩ (fun f h=>h) (fun p h=>h)⟩
     show List.Perm _ ((fW s.os b (qe o l cs)).map (SO.den ρ)++[])
     rw [h2,List.append_nil,List.map_append,List.map_cons]
     exact (zb _ _ _).symm
 · cases h
end
end Go.Rd
namespace Go.Rd
open Go.aQ Go.RowKit Go.Rt
theorem m7 {C:List AV} {a s k:Nat} (h:k<s):((C.drop a).take s)[k]?=C[a+k]?:=by rw [List.getElem?_take_of_lt h,List.getElem?_drop]
theorem ru {X Y:List AV} {a b s:Nat} (h:∀k,k<s->X[a+k]?=Y[b+k]?):(X.drop a).take s=(Y.drop b).take s:=by
 apply List.ext_getElem?
 intro k
 by_cases hk:k<s
 · rw [m7 hk,m7 hk]; exact h k hk
 · rw [List.getElem?_eq_none (by rw [List.length_take]; omega),List.getElem?_eq_none (by rw [List.length_take]; omega)]
theorem Ip {C l:List AV} {J o sz k n:Nat} (hC:C.length=n*sz) (hJ:J<n) (hl:o+l.length<=sz):((qe (J*sz+o) l C).drop (k*sz)).take sz=if k=J then qe o l ((C.drop (J*sz)).take sz) else (C.drop (k*sz)).take sz:=by
 have h1:(J+1)*sz<=n*sz:=Nat.mul_le_mul_right _ hJ
 rw [Nat.succ_mul] at h1
 have hle:J*sz+o+l.length<=C.length:=by omega
 by_cases e:k=J
 · subst e
   rw [if_pos rfl]
   have hlen:((C.drop (k*sz)).take sz).length=sz:=by rw [List.length_take,List.length_drop]; omega
   apply List.ext_getElem?
   intro q
   by_cases hq:q<sz
   · rw [m7 hq,rp hle,rp (by omega),m7 hq]
     by_cases h2:o<=q/\q<o+l.length
     · rw [if_pos ⟨by omega,by omega⟩,if_pos h2]; congr 1; omega
     · rw [if_neg (by omega),if_neg h2]
   · rw [List.getElem?_eq_none (by rw [List.length_take]; omega),List.getElem?_eq_none (by rw [rn (by omega)]; omega)]
 · rw [if_neg e]
   refine ru fun q hq=>?_
   rw [rp hle,if_neg]
   rintro⟨h2,h3⟩
   rcases Nat.lt_or_gt_of_ne e with h | h
   · have:(k+1)*sz<=J*sz:=Nat.mul_le_mul_right _ h
     rw [Nat.succ_mul] at this; omega
   · have:(J+1)*sz<=k*sz:=Nat.mul_le_mul_right _ h
     rw [Nat.succ_mul] at this; omega
section
variable {c:Cx} {T:Tm} {G:GH} {Γ:c8} {ρ ρ':bc} {s s':SS} {cf:Cf} {ops:Array Oper} {i d:Nat}
theorem B9 {Φ:Forms} {dd:Gd} {g j:Nat} {ks:List K2} {cs l:List AV} {fs fl:List TF} {o:Nat} (h:gP Φ dd g j ks cs fs) (hl:gP Φ dd g j ((ks.drop o).take l.length) l fl) (hle:o+l.length<=ks.length):∃fs',gP Φ dd g j ks (qe o l cs) fs'/\iH Φ fs'<=iH Φ fs+iH Φ fl/\(∀f∈fs',f∈fs∨f∈fl)/\(o=0/\l.length=ks.length->iH Φ fs'=iH Φ fl):=by
 have hk:ks=ks.take o++((ks.drop o).take l.length++(ks.drop o).drop l.length):=by rw [List.take_append_drop,List.take_append_drop]
 have h0:=h
 rw [hk] at h
 obtain⟨f1,f',e1,w1,w2⟩:=gP.split h
 obtain⟨f2,f3,e2,w3,w4⟩:=gP.split w2
 have hto:(ks.take o).length=o:=by rw [List.length_take]; omega
 have htl:((ks.drop o).take l.length).length=l.length:=by rw [List.length_take,List.length_drop]; omega
 rw [hto] at w1 w3 w4
 rw [htl,List.drop_drop] at w4
 have:=gP.join (gP.join w1 hl) w4
 refine⟨(f1++fl)++f3,?_,?_,?_,?_⟩
 · rw [hk]
   rw [<-List.append_assoc,List.drop_drop]
   rw [List.drop_drop] at this
   exact this
 · rw [e1,e2]; simp only [gY]; omega
 · intro f hf
   rw [e1,e2]
   simp only [List.mem_append] at hf ⊢
   rcases hf with (hf | hf) | hf
   · exact .inl (.inl hf)
   · exact .inr hf
   · exact .inl (.inr (.inr hf))
 · rintro⟨rfl,hll⟩
   have hf1:f1=[]:=by
    have:ks.take 0=[]:=rfl
    rw [this] at w1
    exact w1.2
   have hf3:f3=[]:=by
    have:ks.drop (0+l.length)=[]:=List.drop_of_length_le (by omega)
    rw [this] at w4
    exact w4.2
   rw [hf1,hf3]; simp
theorem Iq {t:TypeId} {x b J o g cc:Nat} {y:Operand} {v:SV} {l:List SC} {os:List Nat} {L:List Nat} {e:LE} {K:SS->R} (ho:(ab ops i).op=.store t (.tmp x) y) (hg:(ab ops i).guard=none) (hd:(ab ops i).dst=none) (hΦ:cf.Φ=c.Φ) (hk:Ok c T G Γ ρ s) (hK:(K s).Ok)
  (hb:Γ.m b=some (.cells cc (ig ρ g) L)) (hJ:J<L.length) (hu:c.Φ.fy cc=true) (hx:T.at x=.bW b (J*ae c.P (c.Φ.ty cc)+o)) (hy:ba c.nt T y (v.den ρ)) (hv:dx v=some l) (hi:(c.P.info? t).isSome=true) (hn:ae c.P t=l.length) (hle:o+l.length<=(c.Φ.ks cc).length)
  (hc:qn cf s g (ghost s.gs g) e (((c.Φ.ks cc).drop o).take l.length) l=some os) (he:0<=e.ev ρ/\J=(e.ev ρ).toNat) (hos:os=[]∨(o=0/\l.length=(c.Φ.ks cc).length/\(iB os).ev ρ<=WU)):Hv c T G Γ ops i s ρ K:=by
 obtain⟨d1,d2,size,C,d3,d4,d5⟩:=hk.q.ht.b _ _ hb
 have e2:=fe hv ρ
 have hll:(aE ρ l).length=l.length:=by simp [aE]
 obtain⟨fl,c1,c2,c3⟩:=m6 hΦ hk (fun dv h=>cE h hk) he hc
 have hL:L[J]?=some L[J]:=List.getElem?_eq_getElem hJ
 have hLW:=d2 hu _ (List.mem_of_getElem? hL)
 obtain⟨fs0,w1,w2,w3⟩:=d5 J _ hL
 have hks:(c.Φ.ks cc).length=ae c.P (c.Φ.ty cc):=by
  have h1:(J+1)*ae c.P (c.Φ.ty cc)<=L.length*ae c.P (c.Φ.ty cc):=Nat.mul_le_mul_right _ hJ
  rw [Nat.succ_mul] at h1
  rw [<-w1.len,List.length_take,List.length_drop]; omega
 have hfit:J*ae c.P (c.Φ.ty cc)+o+l.length<=C.length:=by
  have h1:(J+1)*ae c.P (c.Φ.ty cc)<=L.length*ae c.P (c.Φ.ty cc):=Nat.mul_le_mul_right _ hJ
  rw [Nat.succ_mul] at h1
  omega
 refine eZ.wE (fun e=>by cases e) hg hd ho hx hy hi rfl (by rw [e2,hll,hn]) (by rw [e2]; exact qk _ _) (by rw [e2]; exact fO _ _) d3 (by rw [hn]; exact hfit) ⟨rfl,rfl,updΓ Γ b (.cells cc (ig ρ g) L),ρ,s,hK,de.refl _ _,Nat.le_refl _,hk.sat,?_⟩
 rw [e2,zc]
 have hQ:=hk.q.OZ (x:=.cells cc (ig ρ g) L) (y:=.cells cc (ig ρ g) L) (tys':=[]) (g':=.cells .data (c.Φ.ty cc) size (qe (J*ae c.P (c.Φ.ty cc)+o) (aE ρ l) C)) hb (by show (!c.Φ.fy cc)=false; rw [hu]; rfl) (nj.refl _) (fun el size' C' h=>by rw [d3] at h; cases h; exact⟨_,rfl⟩)
  (fun hr hl'=>⟨d1,d2,size,_,ay _ _ _,by rw [rn (by rw [hll]; exact hfit)]; exact d4,fun k m hkm=>?_⟩) (fun f h=>by cases h) (fun _ _ h=>by cases h)
 · exact hQ.iq (fun _ _ h=>h) ⟨[],by simp⟩ (fun f h=>h) (fun p h=>h)
 · rw [Ip d4 hJ (by rw [hll]; omega)]
   by_cases ek:k=J
   · subst ek
     rw [if_pos rfl]
     rw [hL] at hkm
     cases hkm
     obtain⟨fs',p1,p2,p3,p4⟩:=B9 (o:=o) w1 (l:=aE ρ l) (by rw [hll]; exact c1) (by rw [hll]; exact hle)
     refine eI.le ⟨fs',p1,?_,fun f hf=>(p3 f hf).elim (w3 f) (c3 f)⟩ hr hl' d1.1
     rcases hos with rfl | ⟨ho0,hlk,hW⟩
     · rw [iB,LE.bp] at c2
       have:iH c.Φ fl=0:=by omega
       omega
     · have:=p4 ⟨ho0,by rw [hll]; exact hlk⟩
       rw [this,hLW]
       omega
   · rw [if_neg ek]
     exact (d5 k m hkm).le hr hl' d1.1
def Ea (s:SS) (os:List Nat) (o n m:Nat):Bool:=os.isEmpty||(Nat.beq o 0&&(Nat.beq n m&&bq s ((LE.k WU).sub (iB os))))
theorem Ca {os:List Nat} {o n m:Nat} (h:Ea s os o n m=true) (hs:Sat ρ s):os=[]∨(o=0/\n=m/\(iB os).ev ρ<=WU):=by
 unfold Ea at h
 simp only [Bool.or_eq_true,Bool.and_eq_true] at h
 rcases h with h | ⟨h1,h2,h3⟩
 · exact .inl (List.isEmpty_iff.1 h)
 · refine .inr ⟨ai h1,ai h2,?_⟩
   have:=ax h3 hs
   rw [LE.aw,LE.bp] at this
   omega
def QZ (cf:Cf) (t:TypeId) (cc g:Nat) (e:LE) (o:Nat) (v:SV) (s:SS) (K:SS->R):R:=match dx v with
 | some l=>bif cf.Φ.fy cc&&((cf.P.info? t).isSome&&(Nat.beq (ae cf.P t) l.length&&Nat.ble (o+l.length) (cf.Φ.ks cc).length)) then
   (match qn cf s g (ghost s.gs g) e (((cf.Φ.ks cc).drop o).take l.length) l with
    | some os=>bif Ea s os o l.length (cf.Φ.ks cc).length then K s else .bad 106 s
    | none=>.bad 107 s)
   else .bad 108 s
 | none=>.bad 109 s
def Uz (cf:Cf) (t:TypeId) (x v:SV) (s:SS) (K:SS->R):R:=match x with
 | .v false [.bW b o]=>xP cf t b o v s K
 | .v false [.og y e sz o]=>(match oi s.ty y with
   | some (cc,g)=>bif B4 s y e&&Nat.beq sz (ae cf.P (cf.Φ.ty cc)) then QZ cf t cc g e o v s K else .bad 110 s
   | none=>.bad 111 s)
 | .v false [.ref y]=>(match nF s.ty y with | some (cc,g)=>QZ cf t cc g (.k 0) 0 v s K | none=>.bad 112 s)
 | .v false [.tM y o]=>(match nF s.ty y with | some (cc,g)=>QZ cf t cc g (.k 0) o v s K | none=>.bad 112 s)
 | _=>.bad 113 s
theorem Ir {t:TypeId} {x:Nat} {y:Operand} {u v:SV} {K:SS->R} (ho:(ab ops i).op=.store t (.tmp x) y) (hg:(ab ops i).guard=none) (hd:(ab ops i).dst=none) (hP:cf.P=c.P) (hΦ:cf.Φ=c.Φ) (h:(Uz cf t u v s K).Ok) (hk:Ok c T G Γ ρ s) (hx:T.at x=u.den ρ) (hy:ba c.nt T y (v.den ρ)):Hv c T G Γ ops i s ρ K:=by
 have typed:∀{cc g o:Nat} {e:LE} {b J:Nat} {L:List Nat},(QZ cf t cc g e o v s K).Ok->0<=e.ev ρ->J=(e.ev ρ).toNat->(c.Φ.fy cc=true->Γ.m b=some (.cells cc (ig ρ g) L)/\J<L.length/\T.at x=.bW b (J*ae c.P (c.Φ.ty cc)+o))->Hv c T G Γ ops i s ρ K:=fun {cc g o e b J L} h he hJ hh=>by
  unfold QZ at h
  rw [hP,hΦ] at h
  cases hc:dx v with
  | none=>rw [hc] at h; cases h
  | some l =>
    rw [hc] at h
    simp only at h
    cases hb:(c.Φ.fy cc&&((c.P.info? t).isSome&&(Nat.beq (ae c.P t) l.length&&Nat.ble (o+l.length) (c.Φ.ks cc).length))) with
    | false=>rw [hb] at h; cases h
    | true =>
      rw [hb] at h
      simp only [cond_true] at h
      simp only [Bool.and_eq_true] at hb
      obtain⟨b1,b2,b3,b4⟩:=hb
      obtain⟨q1,q2,q3⟩:=hh b1
      cases kX:qn cf s g (ghost s.gs g) e (((c.Φ.ks cc).drop o).take l.length) l with
      | none=>rw [kX] at h; cases h
      | some os =>
        rw [kX] at h
        simp only at h
        cases hos:Ea s os o l.length (c.Φ.ks cc).length with
        | false=>rw [hos] at h; cases h
        | true =>
          rw [hos] at h
          exact Iq ho hg hd hΦ hk h q1 q2 b1 q3 hy hc b2 (ai b3) (aL b4) kX ⟨he,hJ⟩ (Ca hos hk.sat)
 unfold Uz at h
 split at h
 · exact O5 ho hg hd hP h hk hx hy
 · rename_i q e sz o
   cases hf:oi s.ty q with
   | none=>rw [hf] at h; cases h
   | some p =>
     obtain⟨cc,g⟩:=p
     rw [hf] at h
     simp only at h
     rw [hP,hΦ] at h
     cases hb:(B4 s q e&&Nat.beq sz (ae c.P (c.Φ.ty cc))) with
     | false=>rw [hb] at h; cases h
     | true =>
       rw [hb] at h
       simp only [cond_true] at h
       rw [Bool.and_eq_true] at hb
       obtain⟨cc',g',b0,o0,cp0,r1,r2,r3,r4,r5⟩:=qh hb.1 hk
       rw [hf] at r1
       simp only [Option.some.injEq,Prod.mk.injEq] at r1
       obtain⟨rfl,rfl⟩:=r1
       have hsz:=ai hb.2
       have hu:c.Φ.fy cc=true:=by
        have h':=h
        unfold QZ at h'
        rw [hΦ] at h'
        cases hu:c.Φ.fy cc with
        | true=>rfl
        | false =>
          rw [hu] at h'
          cases hc:dx v with
          | none=>rw [hc] at h'; cases h'
          | some l=>rw [hc] at h'; cases h'
       obtain⟨_,ht⟩:=AS r5 hu
       rcases ht with ⟨_,h0⟩ | ⟨b,cap,L,size,C,q1,q2,q3,q4,q5,q6⟩
       · rw [h0] at r4; simp at r4
       · refine typed (b:=b) (J:=(e.ev ρ).toNat) (L:=L) h r3 rfl fun _=>⟨q2,by have:=j3 q3; omega,?_⟩
         rw [hx,hsz]
         show n7 (ρ q).vv _=_
         rw [kW q1,Nat.zero_add]
 · rename_i q
   cases hf:nF s.ty q with
   | none=>rw [hf] at h; cases h
   | some p =>
     obtain⟨cc,g⟩:=p
     rw [hf] at h
     obtain⟨b,L,q1,q2,q3⟩:=hk.ty (iM hf)
     refine typed (b:=b) (J:=0) (L:=L) h (by rw [LE.bp]; exact Int.le_refl _) (by rw [LE.bp]; rfl) fun _=>⟨q2,q3,?_⟩
     rw [hx,Nat.zero_mul,Nat.add_zero]
     exact q1
 · rename_i q o
   cases hf:nF s.ty q with
   | none=>rw [hf] at h; cases h
   | some p =>
     obtain⟨cc,g⟩:=p
     rw [hf] at h
     obtain⟨b,L,q1,q2,q3⟩:=hk.ty (iM hf)
     refine typed (b:=b) (J:=0) (L:=L) h (by rw [LE.bp]; exact Int.le_refl _) (by rw [LE.bp]; rfl) fun _=>⟨q2,q3,?_⟩
     rw [hx,Nat.zero_mul]
     show lE (ρ q).vv o=_
     rw [show (ρ q).vv=.bW b 0 from q1]
     rfl
 · cases h
end
end Go.Rd
namespace Go.Rt
open Go.aQ Go.RowKit
def C1 (v:AV):Prop:=nf v/\qV v=true
def CL (l:List AV):Prop:=∀v∈l,C1 v
theorem mr:CL []:=fun v h=>by simp at h
theorem CL.nf {l:List AV} (h:CL l):mP l:=fun v hv=>(h v hv).1
theorem CL.flat {l:List AV} (h:CL l):flat l=true:=yQ fun v hv=>(h v hv).2
theorem O6 {v:AV} (h:Rd.bZ v=true):C1 v:=by
 cases v<;>first | (cases h; done) | skip
 · exact⟨mQ,rfl⟩
 · exact⟨kP,rfl⟩
 · exact⟨mR,rfl⟩
 · exact⟨jd _ _ _ _,rfl⟩
 · exact⟨kQ _ _,rfl⟩
 · exact⟨wz _,rfl⟩
section
variable {c:Cx} {ops:Array Oper} {i m d f:Nat} {T:Tm} {G G':GH} {Γ Γ':c8} {st st':St} {v u:AV} {P:Program} {Φ:Forms} {n0 nt:Nat}
theorem tk {f:TF} (h:fx P Φ G Γ f):Rd.bZ f.v=true:=Rd.rq (c:=⟨P,Φ,0,0,[],[],G,Γ⟩) h
theorem Kv.c1 {dd:Gd} {g j:Nat} {k:K2} {f:List TF} (h:Kv Φ dd g j k v f) (hf:∀x∈f,fx P Φ G Γ x):C1 v:=by
 have one:∀x,f=[x]->x.v=v->C1 v:=fun x e ev=>by subst e; subst ev; exact O6 (tk (hf x (List.mem_singleton_self _)))
 cases k with
 | int k=>obtain⟨⟨z,rfl⟩,_⟩:=h; exact⟨mc _ _,rfl⟩
 | nat b=>obtain⟨⟨n,rfl,_⟩,_⟩:=h; exact⟨mc _ _,rfl⟩
 | str=>obtain⟨⟨l,n,rfl,_⟩,_⟩:=h; exact⟨jc _ _,rfl⟩
 | qb=>obtain⟨⟨l,n,rfl,_⟩,_⟩:=h; exact⟨jc _ _,rfl⟩
 | uc b=>obtain⟨⟨l,n,rfl,_⟩,_⟩:=h; exact⟨jc _ _,rfl⟩
 | bool=>obtain⟨⟨b,rfl⟩,_⟩:=h; exact⟨iL _,rfl⟩
 | n6 k=>obtain⟨⟨b,rfl⟩,_⟩:=h; exact⟨pj _ _,rfl⟩
 | sl c=>obtain⟨ns,h⟩:=h; exact one _ h rfl
 | Ax c b=>obtain⟨ns,h,_⟩:=h; exact one _ h rfl
 | zG c b=>obtain⟨ns,h,_⟩:=h; exact one _ h rfl
 | xq c b=>obtain⟨ns,h,_⟩:=h; exact one _ h rfl
 | yS c=>obtain⟨ns,h,_⟩:=h; exact one _ h rfl
 | ptr c=>exact one _ h rfl
 | D1 c=>rcases h with ⟨rfl,_⟩ | h
         · exact⟨mQ,rfl⟩
         · exact one _ h rfl
 | mp c=>exact one _ h rfl
 | D2 c=>rcases h with ⟨rfl,_⟩ | h
         · exact⟨mR,rfl⟩
         · exact one _ h rfl
 | bad=>exact h.elim
theorem gP.cl {dd:Gd} {g j:Nat}:∀{ks:List K2} {cs:List AV} {fs:List TF},gP Φ dd g j ks cs fs->(∀f∈fs,fx P Φ G Γ f)->CL cs
 | [],_,_,⟨h,_⟩,hf=>by subst h; exact mr
 | k::ks,_,_,⟨v,cs',f,fs',h1,h2,h3,h4⟩,hf=>by
   subst h1 h2
   intro x hx
   rcases List.mem_cons.1 hx with rfl | hx
   · exact h3.c1 fun y hy=>hf y (List.mem_append_left _ hy)
   · exact gP.cl h4 (fun y hy=>hf y (List.mem_append_right _ hy)) x hx
theorem eI.cl {m cc g j:Nat} {cs:List AV} (h:eI P Φ G Γ m cc g j cs):CL cs:=by
 obtain⟨fs,h1,_,h3⟩:=h
 exact h1.cl h3
theorem zd {sz b o len cap size:Nat} {wr:BK} {el:TypeId} {C:List AV} (hv:v=.di b o len cap) (hb:G b=some (.cells wr el size C)) (hle:o+len*sz<=C.length) (hn:CL ((C.drop o).take (len*sz))) :
  D0 P n0 nt T .e (z 0) G sz len v ((C.drop o).take (len*sz)):=by
 subst hv
 have hlen:((C.drop o).take (len*sz)).length=len*sz:=by rw [List.length_take,List.length_drop]; omega
 refine⟨hlen,hn.nf,hn.flat,fun B w0 ι a w hs=>⟨by simp [aj,Builtin.lenOf],?_⟩⟩
 simp only [aj]
 refine pT (by rw [aq,hlen]) fun j hj=>?_
 rw [gW hs hb _ (by omega) (fun _ he=>by
  have:=(hn _ (List.mem_of_getElem? (i:=j) (by rw [List.getElem?_take_of_lt (by first | exact hj | (rw [aq,hlen] at hj; exact hj)),List.getElem?_drop]; exact he))).2
  cases this),bo,List.getElem?_take_of_lt hj,List.getElem?_drop]
theorem O7 {e n o j:Nat} {C:List AV} (hj:j<n) (hle:o+n*e<=C.length):(((C.drop o).take (n*e)).drop (j*e)).take e=(C.drop (o+j*e)).take e:=by
 have h1:(j+1)*e<=n*e:=Nat.mul_le_mul_right _ hj
 rw [Nat.succ_mul] at h1
 rw [List.drop_take,List.take_take,List.drop_drop,Nat.min_eq_left (by omega)]
theorem w6 {e n:Nat} {E:List AV} (hlen:E.length=n*e) (hE:∀j,j<n->CL ((E.drop (j*e)).take e)):CL E:=fun x hx=>by
 obtain⟨k,hk,rfl⟩:=List.getElem_of_mem hx
 have hk':=hk
 rw [hlen] at hk
 have hpos:0<e:=by
  rcases Nat.eq_zero_or_pos e with h0 | h0
  · rw [h0] at hk; omega
  · exact h0
 have hj:k/e<n:=Nat.div_lt_of_lt_mul (by rw [Nat.mul_comm]; exact hk)
 have hd:=Nat.div_add_mod k e
 have hm:=Nat.mod_lt k hpos
 rw [Nat.mul_comm] at hd
 refine hE (k/e) hj _ ?_
 refine List.mem_of_getElem? (i:=k%e) ?_
 rw [List.getElem?_take_of_lt hm,List.getElem?_drop,hd]
 exact List.getElem?_eq_getElem hk'
theorem Cb {cc g:Nat} {ns:List Nat} {b o cap size:Nat} {wr:BK} {el:TypeId} {C:List AV} (hv:v=.di b o ns.length cap) (hb:G b=some (.cells wr el size C)) (hle:o+ns.length*ae P (Φ.ty cc)<=C.length) (hel:∀j m,ns[j]?=some m->eI P Φ G Γ m cc g j ((C.drop (o+j*ae P (Φ.ty cc))).take (ae P (Φ.ty cc)))) :
  ∃E,D0 P n0 nt T .e (z 0) G (ae P (Φ.ty cc)) ns.length v E/\CL E/\∀j m,ns[j]?=some m->eI P Φ G Γ m cc g j ((E.drop (j*ae P (Φ.ty cc))).take (ae P (Φ.ty cc))):=by
 have hE:∀j m,ns[j]?=some m->eI P Φ G Γ m cc g j ((((C.drop o).take (ns.length*ae P (Φ.ty cc))).drop (j*ae P (Φ.ty cc))).take (ae P (Φ.ty cc))):=fun j m hj=>by
  rw [O7 (List.getElem?_eq_some_iff.1 hj).1 hle]
  exact hel j m hj
 have kX:=w6 (n:=ns.length) (e:=ae P (Φ.ty cc)) (E:=(C.drop o).take (ns.length*ae P (Φ.ty cc))) (by rw [List.length_take,List.length_drop]; omega) fun j hj=>(hE j _ (List.getElem?_eq_getElem hj)).cl
 exact⟨_,zd hv hb hle kX,kX,hE⟩
theorem fx.src {cc g:Nat} {ns:List Nat} (h:fx P Φ G Γ (.sl v cc g ns)) (ht:HT P Φ G Γ):∃E,D0 P n0 nt T .e (z 0) G (ae P (Φ.ty cc)) ns.length v E/\CL E/\∀j m,ns[j]?=some m->eI P Φ G Γ m cc g j ((E.drop (j*ae P (Φ.ty cc))).take (ae P (Φ.ty cc))):=by
 obtain⟨_,h⟩:=h
 rcases h with ⟨rfl,rfl⟩ | ⟨rfl,h⟩ | ⟨b,cap,L,size0,C0,h1,h2,h3,_⟩
 · exact⟨[],sO rfl,mr,fun j m hj=>by simp at hj⟩
 · cases h with
   | nil=>exact⟨[],sO rfl,mr,fun j m hj=>by simp at hj⟩
   | @emp _ b o cp hu=>exact⟨[],⟨by simp,hY,rfl,fun B w0 ι a w hs=>⟨by simp [aj,Builtin.lenOf],by simp only [aj]; exact pT (l:=ao ι []) (by simp [ao]) fun j hj=>by simp at hj⟩⟩,mr,fun j m hj=>by simp at hj⟩
   | aR hb hu hl h=>exact Cb rfl hb hl fun j m hj=>(h j m hj).el ht.z.1 j
 · obtain⟨_,_,size,C,q1,q2,q3⟩:=ht.b _ _ h2
   have hle:=j3 h3
   refine Cb h1 q1 (by rw [q2,Nat.zero_add]; exact Nat.mul_le_mul_right _ hle) fun j m hj=>?_
   rw [Nat.zero_add]
   refine q3 j m ?_
   have hlt:j<ns.length:=(List.getElem?_eq_some_iff.1 hj).1
   rw [h3,List.getElem?_take,if_pos hlt] at hj
   exact hj
theorem vn {C l:List AV} {p:Nat} (h:p=C.length):me C p l=C++l:=by
 subst h; unfold me; rw [List.take_length,List.drop_of_length_le (by omega),List.append_nil]
theorem m7 {C:List AV} {a s k:Nat} (h:k<s):((C.drop a).take s)[k]?=C[a+k]?:=Rd.m7 h
theorem Q.Eb (hq:Q c T G Γ st) {cc:Nat} {ms ns:List Nat} {E2:List AV} {osA:List Own} (ho:st.os.Perm (osA++[.iE v cc ms])) (hrw:c.Φ.raw cc=false) (hsz:0<ae c.P (c.Φ.ty cc)) (hE2:E2.length=ns.length*ae c.P (c.Φ.ty cc)) (kX:CL E2) (hel:∀j m,ns[j]?=some m->eI c.P c.Φ G Γ m cc 0 (ms.length+j) ((E2.drop (j*ae c.P (c.Φ.ty cc))).take (ae c.P (c.Φ.ty cc)))) (hlim:ms.length+ns.length<=kT) :
  ∃E1,Ext G v (c.Φ.ty cc) (ae c.P (c.Φ.ty cc)) ms.length E1/\mP E1/\(∀G' v',Kx c.n0 G G' v v' (c.Φ.ty cc) (ae c.P (c.Φ.ty cc)) ms.length ns.length E1 E2->∃Γ',Q c T G' Γ' ⟨st.L,osA++[.iE v' cc (ms++ns)],.sl v' cc 0 (ms++ns)::st.dL,st.gs⟩):=by
 have hown:cY c.P c.Φ G Γ (.iE v cc ms):=hq.own _ (ho.mem_iff.2 (by simp))
 obtain⟨huni,hlm,hown'⟩:=hown
 obtain⟨E1,t1,t2,t3,t4⟩:∃E1,Ext G v (c.Φ.ty cc) (ae c.P (c.Φ.ty cc)) ms.length E1/\CL E1/\E1.length=ms.length*ae c.P (c.Φ.ty cc)/\(∀j m,ms[j]?=some m->eI c.P c.Φ G Γ m cc 0 j ((E1.drop (j*ae c.P (c.Φ.ty cc))).take (ae c.P (c.Φ.ty cc)))):=by
  rcases hown' with ⟨h1,rfl⟩ | ⟨b,cap,size,C,h1,h2,h3,h4,h5⟩
  · exact⟨[],.inl ⟨h1,rfl,rfl⟩,mr,by simp,fun j m hj=>(by simp at hj)⟩
  · obtain⟨_,_,size',C',q1,q2,q3⟩:=hq.ht.b _ _ h2
    rw [h3] at q1
    simp only [Option.some.injEq,Gh.cells.injEq,true_and] at q1
    obtain⟨_,rfl⟩:=q1
    exact⟨C,.inr ⟨b,0,cap,size,C,h1,h3,by omega,by rw [List.drop_zero,<-q2,List.take_length],by omega,h5⟩,w6 q2 fun j hj=>(q3 j _ (List.getElem?_eq_getElem hj)).cl,q2,q3⟩
 refine⟨E1,t1,t2.nf,fun G' v' ha'=>?_⟩
 have fin:∀(b c' size:Nat),G'=eH G b (.cells .data (c.Φ.ty cc) size (E1++E2))->v'=.di b 0 (ms.length+ns.length) c'->c'*ae c.P (c.Φ.ty cc)<=size->ms.length+ns.length<=c'->((Own.iE v cc ms).aR=some b∨G b=none)->(Γ.m b=some (.cells cc 0 ms)∨Γ.m b=none)->((G b).isSome=true∨c.n0<=b)->(∀el size C,G b≠some (.cells .raw el size C))->(∀el size' C,G b=some (.cells .data el size' C)->el=c.Φ.ty cc/\size'=size) ->
   ∃Γ',Q c T G' Γ' ⟨st.L,osA++[.iE v' cc (ms++ns)],.sl v' cc 0 (ms++ns)::st.dL,st.gs⟩:=by
  intro b c' size hG hv hcs hlc hob hΓ hgr hraw hdat
  subst hG hv
  have hll:(ms++ns).length=ms.length+ns.length:=List.length_append
  refine⟨updΓ Γ b (.cells cc 0 (ms++ns)),?_⟩
  have:=hq.wY (b:=b) (G':=eH G b (.cells .data (c.Φ.ty cc) size (E1++E2))) (Γ':=updΓ Γ b (.cells cc 0 (ms++ns))) (o':=.iE (.di b 0 (ms.length+ns.length) c') cc (ms++ns)) (tys':=[.sl (.di b 0 (ms.length+ns.length) c') cc 0 (ms++ns)]) ho (dC hgr) (fun k h=>updΓ_ne h) (fun k h=>db h) (by rw [ay]; rfl) hraw (fun el size' C' h=>⟨E1++E2,by obtain⟨r1,r2⟩:=hdat _ _ _ h; subst r1 r2; exact ay _ _ _⟩)
   (fun x h=>by
    rcases hΓ with h0 | h0
    · rw [h0] at h; cases h; exact⟨_,updΓ_same _ _ _,rfl,rfl,ns,rfl⟩
    · rw [h0] at h; cases h) rfl rfl hob rfl
   (fun x hr hl h=>by
    rw [updΓ_same] at h; cases h
    refine⟨⟨hq.ht.z.2,hrw⟩,fun h=>(by rw [huni] at h; cases h),size,E1++E2,ay _ _ _,by rw [List.length_append,t3,hE2,hll,Nat.add_mul],fun k m hk=>?_⟩
    by_cases hlt:k<ms.length
    · have h1:(k+1)*ae c.P (c.Φ.ty cc)<=ms.length*ae c.P (c.Φ.ty cc):=Nat.mul_le_mul_right _ hlt
      rw [Nat.succ_mul] at h1
      rw [List.drop_append_of_le_length (by omega),List.take_append_of_le_length (by rw [List.length_drop]; omega)]
      rw [List.getElem?_append_left hlt] at hk
      exact (t4 k m hk).le hr hl hq.ht.z.2
    · rw [List.getElem?_append_right (by omega)] at hk
      have h1:k*ae c.P (c.Φ.ty cc)=ms.length*ae c.P (c.Φ.ty cc)+(k-ms.length)*ae c.P (c.Φ.ty cc):=by rw [<-Nat.add_mul]; congr 1; omega
      rw [h1,<-t3,List.drop_append]
      rw [List.drop_of_length_le (by omega),List.nil_append,Nat.add_sub_cancel_left]
      have:=hel _ m hk
      rw [show ms.length+(k-ms.length)=k by omega] at this
      exact this.le hr hl hq.ht.z.2)
   (fun _ _=>⟨huni,by rw [hll]; exact hlim,.inr ⟨b,c',size,E1++E2,by rw [hll],updΓ_same _ _ _,ay _ _ _,hcs,by rw [hll]; omega⟩⟩)
   (fun f hf _ _=>by
    rw [List.mem_singleton.1 hf]
    exact⟨by rw [hll]; exact hlim,.inr (.inr ⟨b,c',ms++ns,size,E1++E2,by rw [hll],updΓ_same _ _ _,(List.take_length (l:=ms++ns)).symm,ay _ _ _,hcs,by rw [hll]; omega⟩)⟩)
  exact this
 rcases ha' with ⟨rfl,rfl,h1,h2,rfl⟩ | ⟨b,o,cap,size,C,rfl,h2,h3,h4,h5,h6,h7⟩ | ⟨b,c',size,h1,h2,h3,h4,h5,h6⟩
 · obtain⟨rfl,rfl⟩:ms=[]/\ns=[]:=⟨List.length_eq_zero_iff.1 h1,List.length_eq_zero_iff.1 h2⟩
   refine⟨Γ,?_⟩
   have h0:=hq.iq (st':=⟨st.L,osA++[.iE .aB cc []],st.dL,st.gs⟩) (fun _ _ h=>h) ⟨[],by simpa using ho⟩ (fun f h=>h) (fun p h=>h)
   exact⟨h0.ml,h0.at_,h0.yT,h0.rl,h0.grow,h0.own,h0.new,h0.nd,h0.ht,fun f hm=>by
    rcases List.mem_cons.1 hm with rfl | hm
    · exact⟨Nat.zero_le _,.inl ⟨rfl,rfl⟩⟩
    · exact h0.ty f hm,h0.gs⟩
 · rcases hown' with ⟨h,_⟩ | ⟨b',cap2,size2,C2,k1,k2,k3,k4,k5⟩
   · cases h
   · cases k1
     rw [h2] at k3; cases k3
     obtain⟨_,_,size',C',q1,q2,q3⟩:=hq.ht.b _ _ k2
     rw [h2] at q1; cases q1
     have hC:C=E1:=by
      rcases t1 with ⟨h,_⟩ | ⟨_,_,_,_,_,g1,g2,g3,g4,_⟩
      · cases h
      · cases g1; rw [h2] at g2; cases g2
        rw [<-g4,List.drop_zero,<-q2,List.take_length]
     subst hC
     exact fin b cap size (by rw [h7,vn (by omega)]) h3 (by omega) h4 (.inl rfl) (.inl k2) (.inl (by rw [h2]; rfl)) (fun _ _ _ h=>by rw [h2] at h; cases h) fun el size' C' h=>by rw [h2] at h; cases h; exact⟨rfl,rfl⟩
 · exact fin b c' size h6 h3 h5 h4 (.inr h2) (.inr (hq.ht.none h2)) (.inr h1) (fun _ _ _ h=>by rw [h2] at h; cases h) fun _ _ _ h=>by rw [h2] at h; cases h
theorem KV {C E:List AV} {n k j sz:Nat} (hE:E.length=k*sz) (hC:n*sz<=C.length):((me C (n*sz) E).drop (j*sz)).take sz=if n<=j/\j<n+k then (E.drop ((j-n)*sz)).take sz else (C.drop (j*sz)).take sz:=by
 by_cases h:n<=j/\j<n+k
 · rw [if_pos h]
   refine Rd.ru fun q hq=>?_
   have h1:n*sz<=j*sz:=Nat.mul_le_mul_right _ h.1
   have h2:(j+1)*sz<=(n+k)*sz:=Nat.mul_le_mul_right _ h.2
   rw [Nat.succ_mul,Nat.add_mul] at h2
   rw [qa hC,if_pos ⟨by omega,by rw [hE]; omega⟩,Nat.sub_mul]
   congr 1; omega
 · rw [if_neg h]
   refine Rd.ru fun q hq=>?_
   rw [qa hC,if_neg]
   rintro⟨h1,h2⟩
   refine h ⟨?_,?_⟩
   · rcases Nat.lt_or_ge j n with h3 | h3
     · have h4:(j+1)*sz<=n*sz:=Nat.mul_le_mul_right _ h3
       rw [Nat.succ_mul] at h4; omega
     · exact h3
   · rcases Nat.lt_or_ge j (n+k) with h3 | h3
     · exact h3
     · have h4:(n+k)*sz<=j*sz:=Nat.mul_le_mul_right _ h3
       rw [Nat.add_mul] at h4; rw [hE] at h2; omega
theorem O8 {l:List Nat} (h:∀m∈l,m=WU):l=List.replicate l.length WU:=List.eq_replicate_iff.2 ⟨rfl,h⟩
theorem Cc {cc g:Nat} {ns:List Nat} (h:fx c.P c.Φ G Γ (.sl v cc g ns)) (hu:c.Φ.fy cc=true):ns.length<=kT/\((v=.aB/\ns=[])∨∃b cap L size C,v=.di b 0 ns.length cap/\Γ.m b=some (.cells cc g L)/\ns=L.take ns.length/\G b=some (.cells .data (c.Φ.ty cc) size C)/\cap*ae c.P (c.Φ.ty cc)<=size/\ns.length<=cap):=Rd.AS h hu
theorem Q.Ec (hq:Q c T G Γ st) {cc g n:Nat} {ns:List Nat} {E2:List AV} (hv:fx c.P c.Φ G Γ (.sl v cc g ns)) (hun:c.Φ.fy cc=true) (hrw:c.Φ.raw cc=false) (hg:g<Γ.ng) (hE2:E2.length=n*ae c.P (c.Φ.ty cc)) (kX:CL E2) (hel:∀j,j<n->eI c.P c.Φ G Γ WU cc g (ns.length+j) ((E2.drop (j*ae c.P (c.Φ.ty cc))).take (ae c.P (c.Φ.ty cc)))) (hlim:ns.length+n<=kT) :
  ∃E1,Ext G v (c.Φ.ty cc) (ae c.P (c.Φ.ty cc)) ns.length E1/\mP E1/\(∀G' v',Kx c.n0 G G' v v' (c.Φ.ty cc) (ae c.P (c.Φ.ty cc)) ns.length n E1 E2->∃Γ',Q c T G' Γ' ⟨st.L,st.os,.sl v' cc g (List.replicate (ns.length+n) WU)::st.dL,st.gs⟩):=by
 obtain⟨hlm,htd⟩:=Cc hv hun
 obtain⟨E1,t1,t2,t3,t4⟩:∃E1,Ext G v (c.Φ.ty cc) (ae c.P (c.Φ.ty cc)) ns.length E1/\CL E1/\E1.length=ns.length*ae c.P (c.Φ.ty cc)/\(∀j,j<ns.length->eI c.P c.Φ G Γ WU cc g j ((E1.drop (j*ae c.P (c.Φ.ty cc))).take (ae c.P (c.Φ.ty cc)))):=by
  rcases htd with ⟨h1,rfl⟩ | ⟨b,cap,L,size,C,h1,h2,h3,h4,h5,h6⟩
  · exact⟨[],.inl ⟨h1,rfl,rfl⟩,mr,by simp,fun j hj=>(by simp at hj)⟩
  · obtain⟨_,q5,size',C',q1,q2,q3⟩:=hq.ht.b _ _ h2
    rw [h4] at q1; cases q1
    have hle:=j3 h3
    have hle2:ns.length*ae c.P (c.Φ.ty cc)<=C.length:=by rw [q2]; exact Nat.mul_le_mul_right _ hle
    have hlen:(C.take (ns.length*ae c.P (c.Φ.ty cc))).length=ns.length*ae c.P (c.Φ.ty cc):=by rw [List.length_take]; omega
    have hel:∀j,j<ns.length->eI c.P c.Φ G Γ WU cc g j (((C.take (ns.length*ae c.P (c.Φ.ty cc))).drop (j*ae c.P (c.Φ.ty cc))).take (ae c.P (c.Φ.ty cc))):=fun j hlt=>by
     have h8:(j+1)*ae c.P (c.Φ.ty cc)<=ns.length*ae c.P (c.Φ.ty cc):=Nat.mul_le_mul_right _ hlt
     rw [Nat.succ_mul] at h8
     rw [Rd.ru (X:=C.take (ns.length*ae c.P (c.Φ.ty cc))) (Y:=C) (b:=j*ae c.P (c.Φ.ty cc)) fun k hk=>by rw [List.getElem?_take_of_lt (by omega)]]
     have hL:L[j]?=some L[j]:=List.getElem?_eq_getElem (by omega)
     have:=q3 j _ hL
     rwa [q5 hun _ (List.mem_of_getElem? hL)] at this
    exact⟨C.take (ns.length*ae c.P (c.Φ.ty cc)),.inr ⟨b,0,cap,size,C,h1,h4,by omega,by rw [List.drop_zero],by omega,h6⟩,w6 hlen fun j hj=>(hel j hj).cl,hlen,hel⟩
 refine⟨E1,t1,t2.nf,fun G' v' ha'=>?_⟩
 rcases ha' with ⟨rfl,rfl,h1,h2,rfl⟩ | ⟨b,o,cap,size,C,rfl,h2,h3,h4,h5,h6,h7⟩ | ⟨b,c',size,h1,h2,h3,h4,h5,h6⟩
 · rw [h1,h2]
   refine⟨Γ,hq.ml,hq.at_,hq.yT,hq.rl,hq.grow,hq.own,hq.new,hq.nd,hq.ht,fun f hm=>?_,hq.gs⟩
   rcases List.mem_cons.1 hm with rfl | hm
   · exact⟨Nat.zero_le _,.inl ⟨rfl,rfl⟩⟩
   · exact hq.ty f hm
 · rcases htd with ⟨h,_⟩ | ⟨b',cap2,L,size2,C2,k1,k2,k3,k4,k5,k6⟩
   · cases h
   · cases k1
     rw [h2] at k4; cases k4
     obtain⟨q0,q5,size',C',q1,q2,q3⟩:=hq.ht.b _ _ k2
     rw [h2] at q1; cases q1
     have hle:=j3 k3
     have hle2:ns.length*ae c.P (c.Φ.ty cc)<=C.length:=by rw [q2]; exact Nat.mul_le_mul_right _ hle
     rw [Nat.zero_add] at h7
     have hLL:(L++List.replicate (ns.length+n-L.length) WU).length=max L.length (ns.length+n):=by rw [List.length_append,List.length_replicate]; omega
     have hLu:∀m∈L++List.replicate (ns.length+n-L.length) WU,m=WU:=fun m hm=>(List.mem_append.1 hm).elim (q5 hun m) fun h=>List.eq_of_mem_replicate h
     subst h7 h3
     refine⟨updΓ Γ b (.cells cc g (L++List.replicate (ns.length+n-L.length) WU)),?_⟩
     have:=hq.OZ (b:=b) (x:=.cells cc g L) (y:=.cells cc g (L++List.replicate (ns.length+n-L.length) WU)) (g':=.cells .data (c.Φ.ty cc) size (me C (ns.length*ae c.P (c.Φ.ty cc)) E2)) (tys':=[.sl (.di b 0 (ns.length+n) cap) cc g (List.replicate (ns.length+n) WU)]) k2 (by show (!c.Φ.fy cc)=false; rw [hun]; rfl) ⟨rfl,rfl,_,rfl⟩ (fun el size' C' h=>by rw [h2] at h; cases h; exact⟨_,rfl⟩)
      (fun hr hl=>⟨q0,fun _=>hLu,size,_,ay _ _ _,by
       rw [kS hle2,hLL,q2,hE2,<-Nat.add_mul]
       rcases Nat.le_total L.length (ns.length+n) with h | h
       · rw [Nat.max_eq_right h,Nat.max_eq_right (Nat.mul_le_mul_right _ h)]
       · rw [Nat.max_eq_left h,Nat.max_eq_left (Nat.mul_le_mul_right _ h)],fun j m hj=>by
       rw [KV hE2 hle2]
       have hm:m=WU:=hLu m (List.mem_of_getElem? hj)
       subst hm
       by_cases h:ns.length<=j/\j<ns.length+n
       · rw [if_pos h]
         have:=hel (j-ns.length) (by omega)
         rw [show ns.length+(j-ns.length)=j by omega] at this
         exact this.le hr hl hg
       · rw [if_neg h]
         have hj':=(List.getElem?_eq_some_iff.1 hj).1
         rw [hLL] at hj'
         have hL:L[j]?=some L[j]:=List.getElem?_eq_getElem (by omega)
         have:=q3 j _ hL
         rw [q5 hun _ (List.mem_of_getElem? hL)] at this
         exact this.le hr hl hg⟩)
      (fun f hf=>by
       rw [List.mem_singleton.1 hf]
       refine⟨by rw [List.length_replicate]; exact hlim,.inr (.inr ⟨b,cap,_,size,_,by rw [List.length_replicate],updΓ_same _ _ _,?_,ay _ _ _,by omega,by rw [List.length_replicate]; omega⟩)⟩
       rw [O8 hLu,List.take_replicate,List.length_replicate,hLL]
       congr 1; omega) (fun _ _ h=>by cases h)
     rw [<-Nat.zero_add (ns.length*ae c.P (c.Φ.ty cc))] at this ⊢
     exact this
 · subst h6 h3
   refine⟨updΓ Γ b (.cells cc g (List.replicate (ns.length+n) WU)),?_⟩
   have:=hq.OY (b:=b) (cc:=cc) (g:=g) (L:=List.replicate (ns.length+n) WU) (size:=size) (C:=E1++E2) (tys':=[.sl (.di b 0 (ns.length+n) c') cc g (List.replicate (ns.length+n) WU)]) h1 h2 hg hrw (fun _ m hm=>List.eq_of_mem_replicate hm) (by rw [List.length_append,t3,hE2,List.length_replicate,Nat.add_mul]) (fun k m hk=>?_) (fun f hf=>?_)
   · exact this
   · have hm:m=WU:=List.eq_of_mem_replicate (List.mem_of_getElem? hk)
     have hkn:=(List.getElem?_eq_some_iff.1 hk).1
     rw [List.length_replicate] at hkn
     subst hm
     by_cases hlt:k<ns.length
     · have h1:(k+1)*ae c.P (c.Φ.ty cc)<=ns.length*ae c.P (c.Φ.ty cc):=Nat.mul_le_mul_right _ hlt
       rw [Nat.succ_mul] at h1
       rw [List.drop_append_of_le_length (by omega),List.take_append_of_le_length (by rw [List.length_drop]; omega)]
       exact t4 k hlt
     · have h1:k*ae c.P (c.Φ.ty cc)=ns.length*ae c.P (c.Φ.ty cc)+(k-ns.length)*ae c.P (c.Φ.ty cc):=by rw [<-Nat.add_mul]; congr 1; omega
       rw [h1,<-t3,List.drop_append]
       rw [List.drop_of_length_le (by omega),List.nil_append,Nat.add_sub_cancel_left]
       have:=hel (k-ns.length) (by omega)
       rw [show ns.length+(k-ns.length)=k by omega] at this
       exact this
   · rw [List.mem_singleton.1 hf]
     exact⟨by rw [List.length_replicate]; exact hlim,.inr (.inr ⟨b,c',_,size,_,by rw [List.length_replicate],updΓ_same _ _ _,by rw [List.length_replicate,List.take_of_length_le (by rw [List.length_replicate]; omega)],ay _ _ _,h5,by rw [List.length_replicate]; omega⟩)⟩
end
end Go.Rt
namespace Go.Rd
open Go.aQ Go.RowKit Go.Rt
def O9:K2->K2->Bool
 | .int a,.int b=>cD a b
 | .nat a,.nat b=>Nat.beq a b
 | .str,.str=>true
 | .qb,.qb=>true
 | .bool,.bool=>true
 | .n6 a,.n6 b=>n8 a b
 | .sl a,.sl b=>Nat.beq a b
 | .Ax a a',.Ax b b'=>Nat.beq a b&&Nat.beq a' b'
 | .zG a a',.zG b b'=>Nat.beq a b&&Nat.beq a' b'
 | .xq a a',.xq b b'=>Nat.beq a b&&Nat.beq a' b'
 | .yS a,.yS b=>Nat.beq a b
 | .ptr a,.ptr b=>Nat.beq a b
 | .D1 a,.D1 b=>Nat.beq a b
 | .mp a,.mp b=>Nat.beq a b
 | .D2 a,.D2 b=>Nat.beq a b
 | _,_=>false
theorem Is {a b:K2} (h:O9 a b=true):a=b:=by
 cases a<;>cases b<;>simp only [O9,Bool.false_eq_true,Bool.and_eq_true,cD,n8,decide_eq_true_eq] at h
 all_goals first
  | rfl
  | (subst h; rfl)
  | (have:=Nat.eq_of_beq_eq_true h; subst this; rfl)
  | (obtain⟨h1,h2⟩:=h; have:=Nat.eq_of_beq_eq_true h1; have:=Nat.eq_of_beq_eq_true h2; subst_vars; rfl)
def Q0:List K2->List K2->Bool
 | [],[]=>true
 | a::as,b::bs=>O9 a b&&Q0 as bs
 | _,_=>false
theorem AZ:∀{a b:List K2},Q0 a b=true->a=b
 | [],[],_=>rfl
 | a::as,b::bs,h=>by
   have h:(O9 a b&&Q0 as bs)=true:=h
   rw [Bool.and_eq_true] at h
   rw [Is h.1,AZ h.2]
 | [],_::_,h=>by cases h
 | _::_,[],h=>by cases h
def Vo (Φ:Forms):K2->Bool
 | .int _=>true | .str=>true | .bool=>true | .n6 _=>true
 | .sl c=>!Φ.dep c&&!Φ.via c
 | .Ax c _=>!Φ.dep c&&!Φ.via c
 | .ptr c=>!Φ.dep c&&!Φ.via c
 | .D1 c=>!Φ.dep c&&!Φ.via c
 | .mp c=>!Φ.dep c&&!Φ.via c
 | .D2 c=>!Φ.dep c&&!Φ.via c
 | _=>false
def RN:K2->Bool | .qb=>false | .yS _=>false | _=>true
theorem Cd:∀{l:List Nat} {m:Nat},m∈l->m<=l.sum
 | [],_,h=>by cases h
 | a::l,m,h=>by
   rw [List.sum_cons]
   rcases List.mem_cons.1 h with rfl | h
   · omega
   · have:=Cd h; omega
theorem vo {Φ:Forms} {cc:Nat} (h:(!Φ.dep cc&&!Φ.via cc)=true) (d:Gd) (g:Nat):gi Φ d g cc=0:=by
 rw [Bool.and_eq_true,Bool.not_eq_true',Bool.not_eq_true'] at h
 unfold gi; rw [h.1,h.2]; rfl
theorem KW {Φ:Forms} {d d':Gd} {g g' j j':Nat} {k:K2} {v:AV} {f:List TF} (hk:Vo Φ k=true) (h:Kv Φ d g j k v f):Kv Φ d' g' j' k v f:=by
 cases k with
 | int k=>exact h
 | str=>exact h
 | bool=>exact h
 | n6 k=>exact h
 | sl c=>obtain⟨ns,h⟩:=h; exact⟨ns,by rw [vo hk] at h ⊢; exact h⟩
 | Ax c b=>obtain⟨ns,h,h'⟩:=h; exact⟨ns,by rw [vo hk] at h ⊢; exact h,h'⟩
 | ptr c=>have h:f=[.pt v c (gi Φ d g c)]:=h; show f=_; rw [vo hk] at h ⊢; exact h
 | D1 c=>rcases h with h | h
         · exact .inl h
         · exact .inr (by rw [vo hk] at h ⊢; exact h)
 | mp c=>have h:f=[.mp v c (gi Φ d g c)]:=h; show f=_; rw [vo hk] at h ⊢; exact h
 | D2 c=>rcases h with h | h
         · exact .inl h
         · exact .inr (by rw [vo hk] at h ⊢; exact h)
 | _=>cases hk
theorem It {Φ:Forms} {d:Gd} {g j j':Nat} {k:K2} {v:AV} {f:List TF} (hk:RN k=true) (h:Kv Φ d g j k v f):Kv Φ d g j' k v f:=by
 cases k<;>first | exact h | cases hk
theorem ze {Φ:Forms} {d d':Gd} {g g' j j':Nat}:∀{ks:List K2} {cs:List AV} {fs:List TF},ks.all (Vo Φ)=true->gP Φ d g j ks cs fs->gP Φ d' g' j' ks cs fs
 | [],_,_,_,h=>h
 | k::ks,_,_,hk,⟨v,cs',f,fs',h1,h2,h3,h4⟩=>by
   rw [List.all_cons,Bool.and_eq_true] at hk
   exact⟨v,cs',f,fs',h1,h2,KW hk.1 h3,ze hk.2 h4⟩
theorem qo {Φ:Forms} {d:Gd} {g j j':Nat}:∀{ks:List K2} {cs:List AV} {fs:List TF},ks.all RN=true->gP Φ d g j ks cs fs->gP Φ d g j' ks cs fs
 | [],_,_,_,h=>h
 | k::ks,_,_,hk,⟨v,cs',f,fs',h1,h2,h3,h4⟩=>by
   rw [List.all_cons,Bool.and_eq_true] at hk
   exact⟨v,cs',f,fs',h1,h2,It hk.1 h3,qo hk.2 h4⟩
def KX (Φ:Forms) (cc g cc' g':Nat):Bool:=Q0 (Φ.ks cc) (Φ.ks cc')&&((Φ.ks cc).all (Vo Φ)||(Nat.beq g g'&&(Φ.ks cc).all RN))
section
variable {c:Cx} {T:Tm} {G:GH} {Γ:c8} {ρ ρ':bc} {s s':SS} {cf:Cf} {ops:Array Oper} {i d:Nat}
theorem Pa {cc g cc' g' m j j':Nat} {cs:List AV} (h:KX c.Φ cc g cc' g'=true) (he:eI c.P c.Φ G Γ m cc' (ig ρ g') j' cs):eI c.P c.Φ G Γ m cc (ig ρ g) j cs:=by
 unfold KX at h
 rw [Bool.and_eq_true,Bool.or_eq_true,Bool.and_eq_true] at h
 obtain⟨h1,h2⟩:=h
 have h1:=AZ h1
 obtain⟨fs,e1,e2,e3⟩:=he
 rw [<-h1] at e1
 refine⟨fs,?_,e2,e3⟩
 rcases h2 with h2 | ⟨h2,h3⟩
 · exact ze h2 e1
 · have:=ai h2
   subst this
   exact qo h3 e1
def Ed (cf:Cf) (s:SS) (g cc:Nat) (sz:Nat) (j:LE):Nat->List SC->Option (List LE)
 | 0,_=>some []
 | n+1,cs=>match qn cf s g (ghost s.gs g) j (cf.Φ.ks cc) (cs.take sz),Ed cf s g cc sz (j.aW 1) n (cs.drop sz) with
   | some os,some l=>some (iB os::l)
   | _,_=>none
def w7:List LE->LE
 | []=>.k 0
 | e::l=>(e.add (w7 l)).aW 1
theorem Ee (ρ:bc) (cs:List SC) (n:Nat):aE ρ (cs.drop n)=(aE ρ cs).drop n:=by simp [aE,List.map_drop]
theorem KY (ρ:bc) (cs:List SC) (n:Nat):aE ρ (cs.take n)=(aE ρ cs).take n:=by simp [aE,List.map_take]
theorem w8 {g cc sz:Nat} (hΦ:cf.Φ=c.Φ) (hk:Ok c T G Γ ρ s):∀{n:Nat} {cs:List SC} {j:LE} {q:Nat} {l:List LE},Ed cf s g cc sz j n cs=some l->0<=j.ev ρ->q=(j.ev ρ).toNat ->
  ∃ns:List Nat,ns.length=n/\((ns.sum+ns.length:Nat):Int)=(w7 l).ev ρ/\(∀k m,ns[k]?=some m->eI c.P c.Φ G Γ m cc (ig ρ g) (q+k) (((aE ρ cs).drop (k*sz)).take sz))/\∀m∈ns,∃e∈l,e.ev ρ=(m:Int)
 | 0,cs,j,q,l,h,_,_=>by cases h; exact⟨[],rfl,by rw [w7,LE.bp]; rfl,fun k m h=>by simp at h,fun m h=>by cases h⟩
 | n+1,cs,j,q,l,h,hj,hJ=>by
   unfold Ed at h
   split at h
   · rename_i os l' h1 h2
     cases h
     rw [hΦ] at h1
     obtain⟨fs,a1,a2,a3⟩:=m6 hΦ hk (fun dv h=>cE h hk) ⟨hj,hJ⟩ h1
     obtain⟨ns,b1,b2,b3,b4⟩:=w8 hΦ hk h2 (by rw [LE.aJ]; omega) rfl
     rw [KY] at a1
     refine⟨iH c.Φ fs::ns,by simp [b1],?_,fun k m hkm=>?_,fun m hm=>?_⟩
     · rw [w7,LE.aJ,LE.gF,<-b2,a2]; simp only [List.sum_cons,List.length_cons]; omega
     · cases k with
       | zero=>cases hkm; rw [Nat.zero_mul,List.drop_zero,Nat.add_zero]; exact⟨fs,a1,Nat.le_refl _,a3⟩
       | succ k =>
         have:=b3 k m hkm
         rw [Ee,List.drop_drop,LE.aJ] at this
         rw [show q+(k+1)=(j.ev ρ+1).toNat+k by omega,show (k+1)*sz=sz+k*sz by rw [Nat.succ_mul,Nat.add_comm]]
         exact this
     · rcases List.mem_cons.1 hm with rfl | hm
       · exact⟨_,List.mem_cons_self ..,a2⟩
       · obtain⟨e,h1,h2⟩:=b4 m hm; exact⟨e,List.mem_cons_of_mem _ h1,h2⟩
   · cases h
def zf (cf:Cf) (s:SS) (cc g:Nat) (j:LE) (u:SV):Option (LE × LE):=match u with
 | .v false [.aB]=>some (.k 0,.k 0)
 | .v false [.ref y]=>(match oi s.ty y with
   | some (c',g')=>bif Nat.beq (cf.Φ.ty cc) (cf.Φ.ty c')&&(KX cf.Φ cc g c' g'&&(!cf.Φ.fy cc||(cf.Φ.fy c'||bq s ((LE.k WU).sub (.a (.wt y)))))) then some (.a (.len y),.a (.wt y)) else none
   | none=>none)
 | .v false [.wJ b n]=>(match jk s.os b with
   | some (el,cs)=>bif Nat.beq cs.length (n*ae cf.P (cf.Φ.ty cc))&&bq s j then
     (match Ed cf s g cc (ae cf.P (cf.Φ.ty cc)) j n cs with
      | some l=>bif !cf.Φ.fy cc||l.all (fun e=>bq s ((LE.k WU).sub e)) then some (.k n,w7 l) else none
      | none=>none)
     else none
   | none=>none)
 | _=>none
theorem w9 {cc g q:Nat} {j:LE} {u:SV} {n w:LE} (hP:cf.P=c.P) (hΦ:cf.Φ=c.Φ) (h:zf cf s cc g j u=some (n,w)) (hk:Ok c T G Γ ρ s) (hJ:q=(j.ev ρ).toNat) (hsz:0<ae c.P (c.Φ.ty cc)) :
  ∃(ns:List Nat) (E:List AV),D0 c.P c.n0 c.nt T .e (z 0) G (ae c.P (c.Φ.ty cc)) ns.length (u.den ρ) E/\CL E/\n.ev ρ=(ns.length:Int)/\w.ev ρ=((ns.sum+ns.length:Nat):Int)/\E.length=ns.length*ae c.P (c.Φ.ty cc)/\(∀k m,ns[k]?=some m->eI c.P c.Φ G Γ m cc (ig ρ g) (q+k) ((E.drop (k*ae c.P (c.Φ.ty cc))).take (ae c.P (c.Φ.ty cc))))/\(c.Φ.fy cc=true->∀m∈ns,m<=WU):=by
 unfold zf at h
 rw [hP,hΦ] at h
 split at h
 · cases h
   exact⟨[],[],sO rfl,mr,by rw [LE.bp]; rfl,by rw [LE.bp]; rfl,by simp,fun k m h=>by simp at h,fun _ m h=>by cases h⟩
 · rename_i y
   split at h
   · rename_i c' g' hf
     cases hb:(Nat.beq (c.Φ.ty cc) (c.Φ.ty c')&&(KX c.Φ cc g c' g'&&(!c.Φ.fy cc||(c.Φ.fy c'||bq s ((LE.k WU).sub (.a (.wt y))))))) with
     | false=>rw [hb] at h; cases h
     | true =>
       rw [hb] at h
       cases h
       rw [Bool.and_eq_true,Bool.and_eq_true] at hb
       obtain⟨b1,b2,b3⟩:=hb
       have b1:=ai b1
       have ht:fx c.P c.Φ G Γ (.sl (ρ y).vv c' (ig ρ g') (ρ y).ns):=hk.ty (ia hf)
       obtain⟨E,e1,e2,e3⟩:=ht.src (n0:=c.n0) (nt:=c.nt) (T:=T) hk.q.ht
       rw [<-b1] at e1 e3
       refine⟨(ρ y).ns,E,e1,e2,by rw [LE.a9]; rfl,by rw [LE.a9]; rfl,e1.1,fun k m hkm=>Pa b2 (e3 k m hkm),fun hu m hm=>?_⟩
       rw [hu] at b3
       simp only [Bool.not_true,Bool.false_or,Bool.or_eq_true] at b3
       rcases b3 with b3 | b3
       · obtain⟨_,htd⟩:=Cc ht b3
         rcases htd with ⟨_,h0⟩ | ⟨b,cap,L,size,C,h1,h2,h3,_⟩
         · rw [h0] at hm; cases hm
         · obtain⟨_,q5,_⟩:=hk.q.ht.b _ _ h2
           rw [h3] at hm
           exact Nat.le_of_eq (q5 b3 _ (List.mem_of_mem_take hm))
       · have:=ax b3 hk.sat
         rw [LE.aw,LE.bp,LE.a9] at this
         have this:0<=(WU:Int)-(((ρ y).ns.sum+(ρ y).ns.length:Nat):Int):=this
         have h5:m<=(ρ y).ns.sum:=Cd hm
         omega
   · cases h
 · rename_i b n0
   split at h
   · rename_i el cs hl
     cases hb:(Nat.beq cs.length (n0*ae c.P (c.Φ.ty cc))&&bq s j) with
     | false=>rw [hb] at h; cases h
     | true =>
       rw [hb] at h
       simp only [cond_true] at h
       rw [Bool.and_eq_true] at hb
       obtain⟨b1,b2⟩:=hb
       have b1:=ai b1
       split at h
       · rename_i l hel
         cases hb3:(!c.Φ.fy cc||l.all (fun e=>bq s ((LE.k WU).sub e))) with
         | false=>rw [hb3] at h; cases h
         | true =>
           rw [hb3] at h
           cases h
           obtain⟨ns,k1,k2,k3,k4⟩:=w8 hΦ hk hel (ax b2 hk.sat) hJ
           have hG:=hk.loc hl
           have hlen:(aE ρ cs).length=cs.length:=by simp [aE]
           have hw:(((aE ρ cs).drop 0).take (ns.length*ae c.P (c.Φ.ty cc)))=aE ρ cs:=by rw [List.drop_zero,k1,<-b1,<-hlen,List.take_length]
           have kX:CL (aE ρ cs):=fun v hv=>by
            obtain⟨x,_,rfl⟩:=List.mem_map.1 hv
            exact⟨(y7 x ρ).1,(y7 x ρ).2.1⟩
           have hs:=zd (P:=c.P) (n0:=c.n0) (nt:=c.nt) (T:=T) (sz:=ae c.P (c.Φ.ty cc)) (v:=(SV.v false [SC.wJ b n0]).den ρ) (len:=ns.length) (cap:=n0) (o:=0) (by rw [k1]; rfl) hG (by rw [hlen,b1,k1]; omega) (by rw [hw]; exact kX)
           rw [hw] at hs
           refine⟨ns,_,hs,kX,by rw [LE.bp,k1],k2.symm,hs.1,k3,fun hu m hm=>?_⟩
           rw [hu] at hb3
           simp only [Bool.not_true,Bool.false_or] at hb3
           obtain⟨e,e1,e2⟩:=k4 m hm
           have:=ax (List.all_eq_true.1 hb3 e e1) hk.sat
           rw [LE.aw,LE.bp,e2] at this
           omega
       · cases h
   · cases h
 · cases h
def A0 (P:Program) (e:TypeId):Nat:=Nat.min ((281474976710656/P.bytesOf e-12288)/16) kT
theorem xa {P:Program} {e n:Nat} (h:n<=A0 P e) (hb:P.bytesOf e<=1000000):(16*n+12288)*P.bytesOf e<=281474976710656/\n<=kT:=by
 have h1:n<=(281474976710656/P.bytesOf e-12288)/16:=Nat.le_trans h (Nat.min_le_left _ _)
 refine⟨?_,Nat.le_trans h (Nat.min_le_right _ _)⟩
 rcases Nat.eq_zero_or_pos (P.bytesOf e) with h0 | h0
 · rw [h0,Nat.mul_zero]; omega
 · have h2:281474976<=281474976710656/P.bytesOf e:=(Nat.le_div_iff_mul_le h0).2 (by
    have:=Nat.mul_le_mul_left 281474976 hb
    omega)
   have h3:281474976710656/P.bytesOf e*P.bytesOf e<=281474976710656:=Nat.div_mul_le_self _ _
   have h4:16*n+12288<=281474976710656/P.bytesOf e:=by omega
   exact Nat.le_trans (Nat.mul_le_mul_right _ h4) h3
def m8 (s:SS) (a b:LE):SS:=aP (aP s (a.sub b)) (b.sub a)
theorem Ok.m8 {a b:LE} (h:Ok c T G Γ ρ s) (he:a.ev ρ=b.ev ρ):Ok c T G Γ ρ (m8 s a b):=(h.aP (by rw [LE.aw]; omega)).aP (by rw [LE.aw]; omega)
def eX:List SO->Nat->Nat->Option (List SO)
 | [],_,_=>none
 | .iE y c::l,x,cc=>bif Nat.beq y x&&Nat.beq c cc then some l else (eX l x cc).map (.iE y c::·)
 | o::l,x,cc=>(eX l x cc).map (o::·)
theorem fJ:∀{l l':List SO} {x cc:Nat},eX l x cc=some l'->l.Perm (l'++[.iE x cc])
 | [],_,_,_,h=>by cases h
 | .iE y c'::l,l',x,cc,h=>by
   have h:(bif Nat.beq y x&&Nat.beq c' cc then some l else (eX l x cc).map (.iE y c'::·))=some l':=h
   cases hb:(Nat.beq y x&&Nat.beq c' cc) with
   | true =>
     rw [hb] at h; cases h
     rw [Bool.and_eq_true] at hb
     have:=ai hb.1; have:=ai hb.2; subst_vars
     exact (List.perm_append_singleton _ _).symm
   | false =>
     rw [hb] at h
     cases hr:eX l x cc with
     | none=>rw [hr] at h; cases h
     | some l2=>rw [hr] at h; cases h; exact (fJ hr).cons _
 | .loc b el cs::l,l',x,cc,h=>by
   have h:(eX l x cc).map (.loc b el cs::·)=some l':=h
   cases hr:eX l x cc with
   | none=>rw [hr] at h; cases h
   | some l2=>rw [hr] at h; cases h; exact (fJ hr).cons _
 | .em y c'::l,l',x,cc,h=>by
   have h:(eX l x cc).map (.em y c'::·)=some l':=h
   cases hr:eX l x cc with
   | none=>rw [hr] at h; cases h
   | some l2=>rw [hr] at h; cases h; exact (fJ hr).cons _
 | .ul y c' g'::l,l',x,cc,h=>by
   have h:(eX l x cc).map (.ul y c' g'::·)=some l':=h
   cases hr:eX l x cc with
   | none=>rw [hr] at h; cases h
   | some l2=>rw [hr] at h; cases h; exact (fJ hr).cons _
 | .am y c' g'::l,l',x,cc,h=>by
   have h:(eX l x cc).map (.am y c' g'::·)=some l':=h
   cases hr:eX l x cc with
   | none=>rw [hr] at h; cases h
   | some l2=>rw [hr] at h; cases h; exact (fJ hr).cons _
 | .im y c'::l,l',x,cc,h=>by
   have h:(eX l x cc).map (.im y c'::·)=some l':=h
   cases hr:eX l x cc with
   | none=>rw [hr] at h; cases h
   | some l2=>rw [hr] at h; cases h; exact (fJ hr).cons _
 | .bl y c' g'::l,l',x,cc,h=>by
   have h:(eX l x cc).map (.bl y c' g'::·)=some l':=h
   cases hr:eX l x cc with
   | none=>rw [hr] at h; cases h
   | some l2=>rw [hr] at h; cases h; exact (fJ hr).cons _
 | .km y c' g' n::l,l',x,cc,h=>by
   have h:(eX l x cc).map (.km y c' g' n::·)=some l':=h
   cases hr:eX l x cc with
   | none=>rw [hr] at h; cases h
   | some l2=>rw [hr] at h; cases h; exact (fJ hr).cons _
 | .it y m n r st ty::l,l',x,cc,h=>by
   have h:(eX l x cc).map (.it y m n r st ty::·)=some l':=h
   cases hr:eX l x cc with
   | none=>rw [hr] at h; cases h
   | some l2=>rw [hr] at h; cases h; exact (fJ hr).cons _
def A1 (P:Program) (ts tx:TypeId):Option TypeId:=match P.underlying ts,P.underlying tx with
 | some (.slice e),some (.slice _)=>(match ((zeroOf P e).bind vd).bind dx with
   | some z=>bif Nat.ble (P.bytesOf e) 1000000&&(Nat.beq z.length (ae P e)&&Nat.blt 0 (ae P e)) then some e else none
   | none=>none)
 | _,_=>none
theorem xb {P:Program} {ts tx e:TypeId} (h:A1 P ts tx=some e):P.underlying ts=some (.slice e)/\(∃e',P.underlying tx=some (.slice e'))/\∃z,zeroOf P e=some z/\(Nat.ble (P.bytesOf e) 1000000&&(Nat.beq z.cells.length (ae P e)&&Nat.blt 0 (ae P e)))=true:=by
 unfold A1 at h
 split at h
 · rename_i e0 e1 h1 h2
   cases hz:zeroOf P e0 with
   | none=>rw [hz] at h; cases h
   | some z =>
     rw [hz] at h
     simp only [Option.bind_some] at h
     cases hv:vd z with
     | none=>rw [hv] at h; cases h
     | some w =>
       rw [hv] at h
       simp only [Option.bind_some] at h
       cases hc:dx w with
       | none=>rw [hc] at h; cases h
       | some cs =>
         rw [hc] at h
         simp only at h
         have hz2:z.cells.length=cs.length:=by
          rw [<-mn hv (fun _=>.n 0),fe hc]; simp [aE]
         cases hb:(Nat.ble (P.bytesOf e0) 1000000&&(Nat.beq cs.length (ae P e0)&&Nat.blt 0 (ae P e0))) with
         | false=>rw [hb] at h; cases h
         | true=>rw [hb] at h; cases h; exact⟨h1,⟨e1,h2⟩,z,hz,by rw [hz2]; exact hb⟩
 · cases h
def Eb (cf:Cf) (e:TypeId) (d cc:Nat) (osA:List SO) (len wt:LE) (u:SV) (s:SS) (K:SS->R):R:=bif Nat.beq (cf.Φ.ty cc) e&&!cf.Φ.raw cc then
    (match zf cf s cc 0 len u with
     | some (n,w)=>bif bq s ((LE.k (A0 cf.P e)).sub (len.add n))&&((len.add n).lt s.nx&&((wt.add w).lt s.nx&&osA.all (SO.lt s.nx))) then
       fresh s fun x s=>K (dX (m8 (m8 (bu (dV s (osA++[.iE x cc])) (.sl x cc 0)) (.a (.len x)) (len.add n)) (.a (.wt x)) (wt.add w)) d (sc (.ref x)))
       else .bad 120 s
     | none=>.bad 121 s)
 else .bad 122 s
def ud (s:SS) (g:Nat):Bool:=Nat.beq g 0||(ghost s.gs g).isSome
theorem kY {g:Nat} (h:ud s g=true) (hk:Ok c T G Γ ρ s):ig ρ g<Γ.ng:=by
 unfold ud at h
 rw [Bool.or_eq_true] at h
 rcases h with h | h
 · have:=ai h; subst this; exact hk.q.ht.z.2
 · obtain⟨d,hd⟩:=Option.isSome_iff_exists.1 h
   obtain⟨w,hw⟩:=qf hd
   exact (hk.q.gs (ig ρ g,(ρ d).gg,w) (List.mem_map.2 ⟨(g,d,w),hw,rfl⟩)).1
def Ec (cf:Cf) (e:TypeId) (d cc g:Nat) (len:LE) (u:SV) (s:SS) (K:SS->R):R:=bif Nat.beq (cf.Φ.ty cc) e&&(ud s g&&!cf.Φ.raw cc) then
    (match zf cf s cc g len u with
     | some (n,_)=>bif bq s ((LE.k (A0 cf.P e)).sub (len.add n))&&((len.add n).lt s.nx&&bR s.nx g) then
       fresh s fun x s=>K (dX (m8 (bu s (.sl x cc g)) (.a (.len x)) (len.add n)) d (sc (.ref x)))
       else .bad 123 s
     | none=>.bad 124 s)
 else .bad 125 s
def n9 (cf:Cf) (ts tx:TypeId) (d:Nat) (v u:SV) (an:Option (Nat × Nat)) (s:SS) (K:SS->R):R:=match A1 cf.P ts tx,v with
 | some e,.v false [.aB]=>(match an with
   | some (cc,g)=>bif cf.Φ.fy cc then Ec cf e d cc g (.k 0) u s K else Eb cf e d cc s.os (.k 0) (.k 0) u s K
   | none=>.bad 126 s)
 | some e,.v false [.ref x]=>(match oi s.ty x with
   | some (cc,g)=>bif cf.Φ.fy cc then Ec cf e d cc g (.a (.len x)) u s K else
     (match eX s.os x cc with | some osA=>Eb cf e d cc osA (.a (.len x)) (.a (.wt x)) u s K | none=>.bad 127 s)
   | none=>.bad 128 s)
 | _,_=>.bad 129 s
theorem St.ext' {a b:St} (h1:a.L=b.L) (h2:a.os=b.os) (h3:a.dL=b.dL) (h4:a.gs=b.gs):a=b:=by cases a; cases b; cases h1; cases h2; cases h3; cases h4; rfl
theorem dh {K:Nat->SS->R} (h:(fresh s K).Ok):s.ok=true:=by
 unfold fresh at h
 cases hs:s.ok with
 | true=>rfl
 | false=>rw [hs] at h; cases h
theorem Ce {cl:Call} {ts tx e:TypeId} {ys yx:Operand} {cc:Nat} {osA:List SO} {len wt:LE} {v u:SV} {ms:List Nat} {K:SS->R} (hg:(ab ops i).guard=none) (hd:(ab ops i).dst=some d) (hlt:d<c.nt) (ho:(ab ops i).op=.call cl) (hc:cl.callee=.builtin .append) (ht:cl.argTypes.toList=[ts,tx]) (hx:cl.args.toList=[ys,yx])
  (hP:cf.P=c.P) (hΦ:cf.Φ=c.Φ) (n9:A1 c.P ts tx=some e) (h:(Eb cf e d cc osA len wt u s K).Ok) (hk:Ok c T G Γ ρ s) (hv:ba c.nt T ys (v.den ρ)) (hu:ba c.nt T yx (u.den ρ)) (hq:Q c T G Γ ⟨(s.den ρ).L,osA.map (SO.den ρ)++[.iE (v.den ρ) cc ms],(s.den ρ).dL,(s.den ρ).gs⟩) (hl:len.ev ρ=(ms.length:Int)) (hw:wt.ev ρ=((ms.sum+ms.length:Nat):Int)):Hv c T G Γ ops i s ρ K:=by
 unfold Eb at h
 rw [hP,hΦ] at h
 cases hb:(Nat.beq (c.Φ.ty cc) e&&!c.Φ.raw cc) with
 | false=>rw [hb] at h; cases h
 | true =>
   rw [hb] at h
   rw [Bool.and_eq_true,Bool.not_eq_true'] at hb
   obtain⟨hb,hrw⟩:=hb
   have hb:=ai hb
   subst hb
   simp only [cond_true] at h
   cases hsr:zf cf s cc 0 len u with
   | none=>rw [hsr] at h; cases h
   | some p =>
     obtain⟨n,w⟩:=p
     rw [hsr] at h
     simp only at h
     cases hf:(bq s ((LE.k (A0 c.P (c.Φ.ty cc))).sub (len.add n))&&((len.add n).lt s.nx&&((wt.add w).lt s.nx&&osA.all (SO.lt s.nx)))) with
     | false=>rw [hf] at h; cases h
     | true =>
       rw [hf] at h
       simp only [cond_true] at h
       simp only [Bool.and_eq_true] at hf
       obtain⟨f1,f2,f3,f4⟩:=hf
       obtain⟨h1,⟨e',h2⟩,zz,h3,h4⟩:=xb n9
       have h5:=h4
       simp only [Bool.and_eq_true] at h5
       have hsz:=au h5.2.2
       have hJ:ms.length=(len.ev ρ).toNat:=by rw [hl]; rfl
       obtain⟨ns,E,k1,k2,k3,k4,k5,k6,k7⟩:=w9 hP hΦ hsr hk hJ hsz
       have hcap:=ax f1 hk.sat
       rw [LE.aw,LE.bp,LE.gF,hl,k3] at hcap
       obtain⟨c1,c2⟩:=xa (P:=c.P) (e:=c.Φ.ty cc) (n:=ms.length+ns.length) (by omega) (aL h5.1)
       have e0:ig ρ 0=0:=rfl
       rw [e0] at k6
       obtain⟨E1,x1,x2,x3⟩:=hq.Eb (ns:=ns) (E2:=E) (osA:=osA.map (SO.den ρ)) (ms:=ms) (v:=v.den ρ) (cc:=cc) (List.Perm.refl _) hrw hsz k5 k2 k6 c2
       refine eZ.wX hg hd hlt ho hc ht hx h1 h2 (fun k h=>by cases h) h3 h4 hv hu x1 x2 k1 c1 (Nat.le_trans c2 (by unfold kT; omega)) fun v' G' ha hnf=>?_
       obtain⟨Γ',hq'⟩:=x3 G' v' ha
       have href:bZ v'=true:=tk (hq'.ty _ (List.mem_cons_self ..))
       have hlim:(ms++ns).length<=kT:=by rw [List.length_append]; exact c2
       obtain⟨r1,r2,r3,r4⟩:=az h hk (.v v' (ms++ns))
       have hv':(ρ.up s.nx (.v v' (ms++ns)) s.nx).vv=v':=by rw [r4]; exact U.jy href
       have hn':(ρ.up s.nx (.v v' (ms++ns)) s.nx).ns=ms++ns:=by rw [r4]; exact U.j4 hlim
       have eD:=(SS.bP (dh h) r2).1
       have eO:osA.map (SO.den (ρ.up s.nx (.v v' (ms++ns))))=osA.map (SO.den ρ):=List.map_congr_left fun o ho=>SO.bP r2 (List.all_eq_true.1 f4 o ho)
       refine⟨rfl,rfl,Γ',_,_,r1,r2,Nat.le_succ _,?_⟩
       have hbase:Ok c T G' Γ' (ρ.up s.nx (.v v' (ms++ns))) (bu (dV (aC s) (osA++[.iE s.nx cc])) (.sl s.nx cc 0)):=by
        refine⟨⟨r3.sat.fs,r3.sat.bs,r3.sat.pw,r3.sat.ats,r3.sat.c9,r3.sat.ne,r3.sat.fz,r3.sat.sb⟩,?_⟩
        have:(bu (dV (aC s) (osA++[.iE s.nx cc])) (.sl s.nx cc 0)).den (ρ.up s.nx (.v v' (ms++ns)))=⟨(s.den ρ).L,osA.map (SO.den ρ)++[.iE v' cc (ms++ns)],.sl v' cc 0 (ms++ns)::(s.den ρ).dL,(s.den ρ).gs⟩:=by
         refine St.ext' (by have:=congrArg St.L eD; exact this) ?_ ?_ (by have:=congrArg St.gs eD; exact this)
         · show (osA++[SO.iE s.nx cc]).map (SO.den _)=_
           rw [List.map_append,eO,List.map_singleton]
           simp only [SO.den]; rw [hv',hn']
         · show dw.den _ (.sl s.nx cc 0)::s.ty.map (dw.den _)=_
           rw [show s.ty.map (dw.den (ρ.up s.nx (.v v' (ms++ns))))=(s.den ρ).dL from congrArg St.dL eD]
           simp only [dw.den]; rw [hv',hn']; rfl
        rw [this]
        exact hq'
       have a1:(LE.a (.len s.nx)).ev (ρ.up s.nx (.v v' (ms++ns)))=(len.add n).ev (ρ.up s.nx (.v v' (ms++ns))):=by
        rw [LE.bP r2 f2,LE.gF,hl,k3,LE.a9]
        show (((ρ.up s.nx (.v v' (ms++ns)) s.nx).ns.length:Nat):Int)=_
        rw [hn',List.length_append]; omega
       have a2:(LE.a (.wt s.nx)).ev (ρ.up s.nx (.v v' (ms++ns)))=(wt.add w).ev (ρ.up s.nx (.v v' (ms++ns))):=by
        rw [LE.bP r2 f3,LE.gF,hw,k4,LE.a9]
        show (((ρ.up s.nx (.v v' (ms++ns)) s.nx).ns.sum+(ρ.up s.nx (.v v' (ms++ns)) s.nx).ns.length:Nat):Int)=_
        rw [hn',List.length_append,List.sum_append]; omega
       have:=((hbase.m8 a1).m8 a2).put (v:=sc (.ref s.nx)) d
       rw [show (sc (.ref s.nx)).den (ρ.up s.nx (.v v' (ms++ns)))=v' from hv'] at this
       exact this
theorem Cg {cl:Call} {ts tx e:TypeId} {ys yx:Operand} {cc g:Nat} {len:LE} {v u:SV} {ms:List Nat} {K:SS->R} (hg:(ab ops i).guard=none) (hd:(ab ops i).dst=some d) (hlt:d<c.nt) (ho:(ab ops i).op=.call cl) (hc:cl.callee=.builtin .append) (ht:cl.argTypes.toList=[ts,tx]) (hx:cl.args.toList=[ys,yx])
  (hP:cf.P=c.P) (hΦ:cf.Φ=c.Φ) (n9:A1 c.P ts tx=some e) (h:(Ec cf e d cc g len u s K).Ok) (hk:Ok c T G Γ ρ s) (hv:ba c.nt T ys (v.den ρ)) (hu:ba c.nt T yx (u.den ρ)) (hun:c.Φ.fy cc=true) (htv:fx c.P c.Φ G Γ (.sl (v.den ρ) cc (ig ρ g) ms)) (hl:len.ev ρ=(ms.length:Int)):Hv c T G Γ ops i s ρ K:=by
 unfold Ec at h
 rw [hP,hΦ] at h
 cases hb:(Nat.beq (c.Φ.ty cc) e&&(ud s g&&!c.Φ.raw cc)) with
 | false=>rw [hb] at h; cases h
 | true =>
   rw [hb] at h
   rw [Bool.and_eq_true,Bool.and_eq_true,Bool.not_eq_true'] at hb
   obtain⟨hb,hgi,hrw⟩:=hb
   have hb:=ai hb
   subst hb
   simp only [cond_true] at h
   cases hsr:zf cf s cc g len u with
   | none=>rw [hsr] at h; cases h
   | some p =>
     obtain⟨n,w⟩:=p
     rw [hsr] at h
     simp only at h
     cases hf:(bq s ((LE.k (A0 c.P (c.Φ.ty cc))).sub (len.add n))&&((len.add n).lt s.nx&&bR s.nx g)) with
     | false=>rw [hf] at h; cases h
     | true =>
       rw [hf] at h
       simp only [cond_true] at h
       simp only [Bool.and_eq_true] at hf
       obtain⟨f1,f2,f3⟩:=hf
       obtain⟨h1,⟨e',h2⟩,zz,h3,h4⟩:=xb n9
       have h5:=h4
       simp only [Bool.and_eq_true] at h5
       have hsz:=au h5.2.2
       have hJ:ms.length=(len.ev ρ).toNat:=by rw [hl]; rfl
       obtain⟨ns,E,k1,k2,k3,k4,k5,k6,k7⟩:=w9 hP hΦ hsr hk hJ hsz
       have hcap:=ax f1 hk.sat
       rw [LE.aw,LE.bp,LE.gF,hl,k3] at hcap
       obtain⟨c1,c2⟩:=xa (P:=c.P) (e:=c.Φ.ty cc) (n:=ms.length+ns.length) (by omega) (aL h5.1)
       obtain⟨E1,x1,x2,x3⟩:=hk.q.Ec (n:=ns.length) (E2:=E) (v:=v.den ρ) (cc:=cc) htv hun hrw (kY hgi hk) k5 k2 (fun j hj=>(k6 j _ (List.getElem?_eq_getElem hj)).more (k7 hun _ (List.getElem_mem hj))) c2
       refine eZ.wX hg hd hlt ho hc ht hx h1 h2 (fun k h=>by cases h) h3 h4 hv hu x1 x2 k1 c1 (Nat.le_trans c2 (by unfold kT; omega)) fun v' G' ha hnf=>?_
       obtain⟨Γ',hq'⟩:=x3 G' v' ha
       have href:bZ v'=true:=tk (hq'.ty _ (List.mem_cons_self ..))
       have hlim:(List.replicate (ms.length+ns.length) WU).length<=kT:=by rw [List.length_replicate]; exact c2
       obtain⟨r1,r2,r3,r4⟩:=az h hk (.v v' (List.replicate (ms.length+ns.length) WU))
       have hv':(ρ.up s.nx (.v v' (List.replicate (ms.length+ns.length) WU)) s.nx).vv=v':=by rw [r4]; exact U.jy href
       have hn':(ρ.up s.nx (.v v' (List.replicate (ms.length+ns.length) WU)) s.nx).ns=List.replicate (ms.length+ns.length) WU:=by rw [r4]; exact U.j4 hlim
       have eD:=(SS.bP (dh h) r2).1
       refine⟨rfl,rfl,Γ',_,_,r1,r2,Nat.le_succ _,?_⟩
       have hbase:Ok c T G' Γ' (ρ.up s.nx (.v v' (List.replicate (ms.length+ns.length) WU))) (bu (aC s) (.sl s.nx cc g)):=by
        refine⟨⟨r3.sat.fs,r3.sat.bs,r3.sat.pw,r3.sat.ats,r3.sat.c9,r3.sat.ne,r3.sat.fz,r3.sat.sb⟩,?_⟩
        have:(bu (aC s) (.sl s.nx cc g)).den (ρ.up s.nx (.v v' (List.replicate (ms.length+ns.length) WU)))=⟨(s.den ρ).L,(s.den ρ).os,.sl v' cc (ig ρ g) (List.replicate (ms.length+ns.length) WU)::(s.den ρ).dL,(s.den ρ).gs⟩:=by
         refine St.ext' (by have:=congrArg St.L eD; exact this) (by have:=congrArg St.os eD; exact this) ?_ (by have:=congrArg St.gs eD; exact this)
         show dw.den _ (.sl s.nx cc g)::s.ty.map (dw.den _)=_
         rw [show s.ty.map (dw.den (ρ.up s.nx (.v v' (List.replicate (ms.length+ns.length) WU))))=(s.den ρ).dL from congrArg St.dL eD]
         simp only [dw.den]; rw [hv',hn',bV r2 f3]
        rw [this]
        exact hq'
       have a1:(LE.a (.len s.nx)).ev (ρ.up s.nx (.v v' (List.replicate (ms.length+ns.length) WU)))=(len.add n).ev (ρ.up s.nx (.v v' (List.replicate (ms.length+ns.length) WU))):=by
        rw [LE.bP r2 f2,LE.gF,hl,k3,LE.a9]
        show (((ρ.up s.nx (.v v' (List.replicate (ms.length+ns.length) WU)) s.nx).ns.length:Nat):Int)=_
        rw [hn',List.length_replicate]; omega
       have:=(hbase.m8 a1).put (v:=sc (.ref s.nx)) d
       rw [show (sc (.ref s.nx)).den (ρ.up s.nx (.v v' (List.replicate (ms.length+ns.length) WU)))=v' from hv'] at this
       exact this
theorem A2 {cl:Call} {ts tx:TypeId} {ys yx:Operand} {v u:SV} {an:Option (Nat × Nat)} {K:SS->R} (hg:(ab ops i).guard=none) (hd:(ab ops i).dst=some d) (hlt:d<c.nt) (ho:(ab ops i).op=.call cl) (hc:cl.callee=.builtin .append) (ht:cl.argTypes.toList=[ts,tx]) (hx:cl.args.toList=[ys,yx])
  (hP:cf.P=c.P) (hΦ:cf.Φ=c.Φ) (h:(n9 cf ts tx d v u an s K).Ok) (hk:Ok c T G Γ ρ s) (hv:ba c.nt T ys (v.den ρ)) (hu:ba c.nt T yx (u.den ρ)):Hv c T G Γ ops i s ρ K:=by
 unfold n9 at h
 rw [hP] at h
 split at h
 · rename_i e n9
   split at h
   · rename_i cc g
     rw [hΦ] at h
     cases hun:c.Φ.fy cc with
     | true =>
       rw [hun] at h
       exact Cg (v:=.v false [.aB]) (ms:=[]) hg hd hlt ho hc ht hx hP hΦ n9 h hk hv hu hun ⟨Nat.zero_le _,.inl ⟨rfl,rfl⟩⟩ (by rw [LE.bp]; rfl)
     | false =>
       rw [hun] at h
       refine Ce (v:=.v false [.aB]) (ms:=[]) hg hd hlt ho hc ht hx hP hΦ n9 h hk hv hu ?_ (by rw [LE.bp]; rfl) (by rw [LE.bp]; rfl)
       have q:=hk.q
       refine⟨q.ml,q.at_,q.yT,q.rl,q.grow,fun o ho=>?_,fun o ho b hb=>?_,?_,q.ht,q.ty,q.gs⟩
       · rcases List.mem_append.1 ho with ho | ho
         · exact q.own o ho
         · rw [List.mem_singleton.1 ho]; exact⟨hun,Nat.zero_le _,.inl ⟨rfl,rfl⟩⟩
       · rcases List.mem_append.1 ho with ho | ho
         · exact q.new o ho b hb
         · rw [List.mem_singleton.1 ho] at hb; cases hb
       · show (eJ (_++[Own.iE .aB cc []])).Nodup
         rw [dZ]
         have:eJ [Own.iE .aB cc []]=[]:=rfl
         rw [this,List.append_nil]
         exact q.nd
   · cases h
 · rename_i e x n9
   split at h
   · rename_i cc g hf
     rw [hΦ] at h
     cases hun:c.Φ.fy cc with
     | true =>
       rw [hun] at h
       exact Cg (v:=.v false [.ref x]) (ms:=(ρ x).ns) hg hd hlt ho hc ht hx hP hΦ n9 h hk hv hu hun (hk.ty (ia hf)) (by rw [LE.a9]; rfl)
     | false =>
       rw [hun] at h
       simp only [cond_false] at h
       cases hr:eX s.os x cc with
       | none=>rw [hr] at h; cases h
       | some osA =>
         rw [hr] at h
         refine Ce (v:=.v false [.ref x]) (ms:=(ρ x).ns) hg hd hlt ho hc ht hx hP hΦ n9 h hk hv hu ?_ (by rw [LE.a9]; rfl) (by rw [LE.a9]; rfl)
         refine hk.q.iq (fun _ _ h=>h) ⟨[],?_⟩ (fun f h=>h) (fun p h=>h)
         have:=(fJ hr).map (SO.den ρ)
         rw [List.map_append,List.map_singleton] at this
         rw [List.append_nil]
         exact this
   · cases h
 · cases h
end
end Go.Rd
namespace Go.Rd
open Go.aQ Go.RowKit Go.Rt
inductive Iu where | ul (c g:Nat) | bl (m:Nat) (el:TypeId)
def zI:List SO->Nat->Option Iu
 | [],_=>none
 | .ul y c g::l,x=>bif Nat.beq y x then some (.ul c g) else zI l x
 | .bl y m el::l,x=>bif Nat.beq y x then some (.bl m el) else zI l x
 | _::l,x=>zI l x
def Iu.so (x:Nat):Iu->SO | .ul c g=>.ul x c g | .bl m el=>.bl x m el
theorem gH:∀{l:List SO} {x:Nat} {w:Iu},zI l x=some w->w.so x∈l
 | [],_,_,h=>by cases h
 | .ul y c g::l,x,w,h=>by
   have h:(bif Nat.beq y x then some (.ul c g) else zI l x)=some w:=h
   cases hb:Nat.beq y x with
   | true=>rw [hb] at h; cases h; have:=ai hb; subst this; exact List.mem_cons_self ..
   | false=>rw [hb] at h; exact List.mem_cons_of_mem _ (gH h)
 | .bl y m el::l,x,w,h=>by
   have h:(bif Nat.beq y x then some (.bl m el) else zI l x)=some w:=h
   cases hb:Nat.beq y x with
   | true=>rw [hb] at h; cases h; have:=ai hb; subst this; exact List.mem_cons_self ..
   | false=>rw [hb] at h; exact List.mem_cons_of_mem _ (gH h)
 | .loc _ _ _::l,_,_,h=>List.mem_cons_of_mem _ (gH (l:=l) h)
 | .iE _ _::l,_,_,h=>List.mem_cons_of_mem _ (gH (l:=l) h)
 | .em _ _::l,_,_,h=>List.mem_cons_of_mem _ (gH (l:=l) h)
 | .am _ _ _::l,_,_,h=>List.mem_cons_of_mem _ (gH (l:=l) h)
 | .im _ _::l,_,_,h=>List.mem_cons_of_mem _ (gH (l:=l) h)
 | .km _ _ _ _::l,_,_,h=>List.mem_cons_of_mem _ (gH (l:=l) h)
 | .it _ _ _ _ _ _::l,_,_,h=>List.mem_cons_of_mem _ (gH (l:=l) h)
inductive UA where | am (g k:Nat) | im (e:LE) | em (pk:KK) | km (c g:Nat) (n:LE)
def zg:List SO->Nat->Option UA
 | [],_=>none
 | .am y g k::l,x=>bif Nat.beq y x then some (.am g k) else zg l x
 | .im y e::l,x=>bif Nat.beq y x then some (.im e) else zg l x
 | .em y pk::l,x=>bif Nat.beq y x then some (.em pk) else zg l x
 | .km y c g n::l,x=>bif Nat.beq y x then some (.km c g n) else zg l x
 | _::l,x=>zg l x
def UA.so (x:Nat):UA->SO | .am g k=>.am x g k | .im e=>.im x e | .em pk=>.em x pk | .km c g n=>.km x c g n
theorem fP:∀{l:List SO} {x:Nat} {w:UA},zg l x=some w->w.so x∈l
 | [],_,_,h=>by cases h
 | .am y g k::l,x,w,h=>by
   have h:(bif Nat.beq y x then some (.am g k) else zg l x)=some w:=h
   cases hb:Nat.beq y x with
   | true=>rw [hb] at h; cases h; have:=ai hb; subst this; exact List.mem_cons_self ..
   | false=>rw [hb] at h; exact List.mem_cons_of_mem _ (fP h)
 | .im y e::l,x,w,h=>by
   have h:(bif Nat.beq y x then some (.im e) else zg l x)=some w:=h
   cases hb:Nat.beq y x with
   | true=>rw [hb] at h; cases h; have:=ai hb; subst this; exact List.mem_cons_self ..
   | false=>rw [hb] at h; exact List.mem_cons_of_mem _ (fP h)
 | .em y pk::l,x,w,h=>by
   have h:(bif Nat.beq y x then some (.em pk) else zg l x)=some w:=h
   cases hb:Nat.beq y x with
   | true=>rw [hb] at h; cases h; have:=ai hb; subst this; exact List.mem_cons_self ..
   | false=>rw [hb] at h; exact List.mem_cons_of_mem _ (fP h)
 | .km y c g n::l,x,w,h=>by
   have h:(bif Nat.beq y x then some (.km c g n) else zg l x)=some w:=h
   cases hb:Nat.beq y x with
   | true=>rw [hb] at h; cases h; have:=ai hb; subst this; exact List.mem_cons_self ..
   | false=>rw [hb] at h; exact List.mem_cons_of_mem _ (fP h)
 | .it _ _ _ _ _ _::l,_,_,h=>List.mem_cons_of_mem _ (fP (l:=l) h)
 | .loc _ _ _::l,_,_,h=>List.mem_cons_of_mem _ (fP (l:=l) h)
 | .iE _ _::l,_,_,h=>List.mem_cons_of_mem _ (fP (l:=l) h)
 | .ul _ _ _::l,_,_,h=>List.mem_cons_of_mem _ (fP (l:=l) h)
 | .bl _ _ _::l,_,_,h=>List.mem_cons_of_mem _ (fP (l:=l) h)
def Iu.ln (x:Nat):Iu->Nat | .ul _ _=>x | .bl m _=>m
def xt (s:SS) (w:Iu) (y:Nat) (e:LE):Bool:=bq s e&&bq s (((LE.a (.len (w.ln y))).sub e).aW (-1))
def Iu.el (Φ:Forms):Iu->TypeId | .ul c _=>Φ.ty c | .bl _ el=>el
def Vp (cf:Cf) (t:TypeId) (v:SV) (f:Nat) (s:SS) (K:SV->SS->R):R:=match v with
 | .v false [.og y e sz o]=>(match zI s.os y,er cf.P t f with
   | some w,some (off,ft)=>bif !Nat.beq (ae cf.P ft) 0&&xt s w y e then K (sc (.og y e sz (o+off))) s else .bad 140 s
   | _,_=>RF cf t v f s K)
 | _=>RF cf t v f s K
def Vq (cf:Cf) (t:TypeId) (x:SV) (e:SV) (s:SS) (K:SV->SS->R):R:=match x,e with
 | .v false [.ref y],.v false [.int kd e']=>(match zI s.os y,cf.P.underlying t with
   | some w,some (.slice el)=>bif Nat.beq el (w.el cf.Φ)&&((cf.P.info? el).isSome&&xt s w y e') then K (sc (.og y e' (ae cf.P el) 0)) s else .bad 141 s
   | _,_=>RH cf t x e s K)
 | _,_=>RH cf t x e s K
def XI (y m:Nat) (e:LE) (s:SS) (K:SV->SS->R):R:=bif Nat.blt m s.nx&&e.lt s.nx then
 (K (sc (.bool (.k true))) s).and (fresh s fun p s=>K (sc (.bool (.k false))) (aP (px (px s (m,e,.a (.n p))) (m,e.aW 1,(LE.a (.n p)).aW 2)) (((LE.a (.wt m)).sub (.a (.n p))).aW (-2))))
 else .bad 142 s
def old (cf:Cf) (t:TypeId) (x:SV) (s:SS) (K:SV->SS->R):R:=match x with
 | .v false [.og y e sz o]=>(match zI s.os y with
   | some (.ul cc g)=>bif xt s (.ul cc g) y e&&(Nat.beq sz (ae cf.P (cf.Φ.ty cc))) then
     (bif dJ cf.P t then wV cf cc g e o (ae cf.P t) true (.k WU) s K else bif cr cf.P t then wV cf cc g e o 1 false (.k WU) s K else .bad 143 s) else .bad 144 s
   | some (.bl m el)=>bif xt s (.bl m el) y e&&(Nat.beq sz 1&&(Nat.beq o 0&&(!dJ cf.P t&&cr cf.P t))) then XI y m e s K else .bad 145 s
   | none=>RJ cf t x s K)
 | _=>RJ cf t x s K
def Vr (cf:Cf) (t:TypeId) (m k:SV) (ok:Bool) (s:SS) (K:SV->SS->R):R:=match m with
 | .v false [.dG b]=>(match cf.P.underlying t,zg s.os b with
   | some (.map kt et),some w=>(match (zeroOf cf.P et).bind vd with
     | some (.v ag cs)=>(match w with
       | .am g q=>bif gK cf kt .str&&fq .str k then Uw cf g q k ok (ag,cs) s K else .bad 146 s
       | .im e=>bif gK cf kt .str&&(fq .str k&&e.lt s.nx) then (K (lz ok (ag,cs)) s).and (fresh s fun n s=>K (AW ok (false,[.int .i64 (.a (.n n))])) (aP s ((e.sub (.a (.n n))).aW (-1)))) else .bad 146 s
       | .em pk=>bif gK cf kt pk&&fq pk k then K (lz ok (ag,cs)) s else .bad 146 s
       | .km cc g _=>bif gK cf kt (cf.Φ.pk cc)&&fq (cf.Φ.pk cc) k then Ux cf g (cf.Φ.mv cc) k ok (ag,cs) s K else .bad 146 s)
     | _=>.bad 147 s)
   | _,_=>.bad 148 s)
 | _=>Uy cf t m k ok s K
def Vs (cf:Cf) (t:TypeId) (x:SV) (s:SS) (K:SV->SS->R):R:=match x with
 | .v false [.ref y]=>(match zI s.os y,cf.P.underlying t with
   | some w,some (.slice _)=>K (sc (.int .i64 (.a (.len (w.ln y))))) s
   | _,_=>RK cf t x s K)
 | .v false [.wJ b n]=>(match cf.P.underlying t with
   | some (.slice _)=>K (sc (.int .i64 (.k n))) s
   | _=>.bad 149 s)
 | _=>RK cf t x s K
def ra (cf:Cf) (o:Op) (s:SS) (K:SV->SS->R):R:=match o with
 | .fieldAddr t (.tmp x) f=>wv s (.tmp x) fun v=>Vp cf t v f s K
 | .load t (.tmp x)=>wv s (.tmp x) fun v=>old cf t v s K
 | .indexAddr t (.tmp x) y=>wv s (.tmp x) fun v=>wv s y fun u=>Vq cf t v u s K
 | .lookup t x y ok=>wv s x fun v=>wv s y fun u=>Vr cf t v u ok s K
 | .nilCheck (.tmp x)=>wv s (.tmp x) fun v=>(match v with
   | .v false [.og y e sz o]=>(match zI s.os y with
     | some w=>bif xt s w y e then K v s else .bad 150 s
     | none=>RG v s K)
   | _=>RG v s K)
 | .call cl=>(match cl.callee,cl.args.toList,cl.argTypes.toList with
   | .builtin .len,[x],t::_=>wv s x fun v=>Vs cf t v s K
   | _,_,_=>.bad 12 s)
 | o=>Vk cf o s K
section
variable {c:Cx} {T:Tm} {G:GH} {Γ:c8} {ρ ρ':bc} {s s':SS} {cf:Cf} {ops:Array Oper} {i d:Nat}
theorem tn {w:Iu} {y:Nat} {e:LE} (hw:zI s.os y=some w) (h:xt s w y e=true) (hk:Ok c T G Γ ρ s):∃b cp size C,(ρ y).vv=.di b 0 (ρ (w.ln y)).ns.length cp/\0<=e.ev ρ/\(e.ev ρ).toNat<(ρ (w.ln y)).ns.length/\Γ.m b=none/\G b=some (.cells .data (w.el c.Φ) size C) /\
  (match w with | .ul cc g=>C.length=(ρ y).ns.length*ae c.P (c.Φ.ty cc)/\eI c.P c.Φ G Γ WU cc (ig ρ g) (e.ev ρ).toNat ((C.drop ((e.ev ρ).toNat*ae c.P (c.Φ.ty cc))).take (ae c.P (c.Φ.ty cc))) | .bl m el=>C=(ρ m).ns.map (fun m=>AV.bool (Nat.beq m 0))/\∀q∈(ρ m).ns,q<=1):=by
 unfold xt at h
 rw [Bool.and_eq_true] at h
 have e1:=ax h.1 hk.sat
 have e2:=ax h.2 hk.sat
 rw [LE.aJ,LE.aw,LE.a9] at e2
 have e2:0<=((ρ (w.ln y)).ns.length:Int)-e.ev ρ+-1:=e2
 have ho:=hk.own (gH hw)
 cases w with
 | ul cc g =>
   obtain⟨_,_,h3⟩:_/\_/\_:=ho
   rcases h3 with ⟨_,h0⟩ | ⟨b,cp,size,C,q1,q2,q3,q4,q5,q6,q7⟩
   · have h0:(ρ y).ns.length=0:=h0
     have e2:0<=((ρ y).ns.length:Int)-e.ev ρ+-1:=e2
     omega
   · have e2:0<=((ρ y).ns.length:Int)-e.ev ρ+-1:=e2
     exact⟨b,cp,size,C,q1,e1,by show (e.ev ρ).toNat<(ρ y).ns.length; omega,q2,q3,q4,q7 _ (by show (e.ev ρ).toNat<(ρ y).ns.length; omega)⟩
 | bl m el =>
   obtain⟨_,hm,b,size,q1,q2,q3⟩:=ho
   have e2:0<=((ρ m).ns.length:Int)-e.ev ρ+-1:=e2
   exact⟨b,_,size,_,q1,e1,by show (e.ev ρ).toNat<(ρ m).ns.length; omega,q2,q3,rfl,hm⟩
theorem jA {y sz o b cp l:Nat} {e:LE} (h:(ρ y).vv=.di b 0 l cp):(SV.v false [.og y e sz o]).den ρ=.bW b ((e.ev ρ).toNat*sz+o):=by
 show n7 (ρ y).vv _=_
 rw [kW h,Nat.zero_add]
theorem Pb {t:TypeId} {x f:Nat} {v:SV} {K:SV->SS->R} (ho:(ab ops i).op=.fieldAddr t (.tmp x) f) (hg:(ab ops i).guard=none) (hP:cf.P=c.P) (h:(Vp cf t v f s K).Ok) (hk:Ok c T G Γ ρ s) (hx:T.at x=v.den ρ):Lo c T G Γ ops i s ρ K:=by
 unfold Vp at h
 split at h
 · rename_i y e sz o
   split at h
   · rename_i w off ft hw hf
     rw [hP] at h hf
     cases hb:(!Nat.beq (ae c.P ft) 0&&xt s w y e) with
     | false=>rw [hb] at h; cases h
     | true =>
       rw [hb] at h
       rw [Bool.and_eq_true,Bool.not_eq_true'] at hb
       obtain⟨b,cp,size,C,q1,_⟩:=tn hw hb.2 hk
       refine Lo.here hk h ?_
       have e1:(sc (.og y e sz (o+off))).den ρ=.bW b ((e.ev ρ).toNat*sz+(o+off)):=jA q1
       rw [e1,<-Nat.add_assoc]
       exact aZ.field hg ho (hx.trans (jA q1)) hf hb.1
   · exact AK ho hg hP h hk hx
 · exact AK ho hg hP h hk hx
theorem Pc {t:TypeId} {x:Nat} {y:Operand} {v u:SV} {K:SV->SS->R} (ho:(ab ops i).op=.indexAddr t (.tmp x) y) (hg:(ab ops i).guard=none) (hP:cf.P=c.P) (hΦ:cf.Φ=c.Φ) (h:(Vq cf t v u s K).Ok) (hk:Ok c T G Γ ρ s) (hx:T.at x=v.den ρ) (hy:ba c.nt T y (u.den ρ)):Lo c T G Γ ops i s ρ K:=by
 unfold Vq at h
 split at h
 · rename_i q kd e'
   split at h
   · rename_i w el hw hu
     rw [hP,hΦ] at h
     rw [hP] at hu
     cases hb:(Nat.beq el (w.el c.Φ)&&((c.P.info? el).isSome&&xt s w q e')) with
     | false=>rw [hb] at h; cases h
     | true =>
       rw [hb] at h
       simp only [Bool.and_eq_true] at hb
       obtain⟨b,cp,size,C,q1,q2,q3,_⟩:=tn hw hb.2.2 hk
       refine Lo.here hk h ?_
       have e1:(sc (.og q e' (ae c.P el) 0)).den ρ=.bW b ((e'.ev ρ).toNat*ae c.P el+0):=jA q1
       rw [e1,Nat.add_zero,<-Nat.zero_add ((e'.ev ρ).toNat*ae c.P el)]
       refine aZ.H7 hg ho (hx.trans q1) ?_ hu hb.2.1 rfl q3 (kd:=kd)
       have:(SV.v false [.int kd e']).den ρ=.int kd (.ofNat (e'.ev ρ).toNat):=by show AV.int kd (e'.ev ρ)=_; congr 1; exact (Int.toNat_of_nonneg q2).symm
       rw [<-this]; exact hy
   · exact AM ho hg hP hΦ h hk hx hy
 · exact AM ho hg hP hΦ h hk hx hy
theorem Pd {t:TypeId} {x:Nat} {v:SV} {K:SV->SS->R} (ho:(ab ops i).op=.load t (.tmp x)) (hg:(ab ops i).guard=none) (hP:cf.P=c.P) (hΦ:cf.Φ=c.Φ) (h:(old cf t v s K).Ok) (hk:Ok c T G Γ ρ s) (hx:T.at x=v.den ρ):Lo c T G Γ ops i s ρ K:=by
 unfold old at h
 split at h
 · rename_i y e sz o
   split at h
   · rename_i cc g hw
     rw [hP,hΦ] at h
     cases hb:(xt s (.ul cc g) y e&&(Nat.beq sz (ae c.P (c.Φ.ty cc)))) with
     | false=>rw [hb] at h; cases h
     | true =>
       rw [hb] at h
       simp only [cond_true] at h
       rw [Bool.and_eq_true] at hb
       obtain⟨b,cp,size,C,q1,q2,q3,q4,q5,q6,q7⟩:=tn hw hb.1 hk
       have q3:(e.ev ρ).toNat<(ρ y).ns.length:=q3
       have hsz:=ai hb.2
       subst hsz
       have hx':T.at x=.bW b ((e.ev ρ).toNat*ae c.P (c.Φ.ty cc)+o):=hx.trans (jA q1)
       have h1:((e.ev ρ).toNat+1)*ae c.P (c.Φ.ty cc)<=(ρ y).ns.length*ae c.P (c.Φ.ty cc):=Nat.mul_le_mul_right _ q3
       rw [Nat.succ_mul] at h1
       have hlen:(c.Φ.ks cc).length=ae c.P (c.Φ.ty cc):=by
        obtain⟨fs,w1,_⟩:=q7
        rw [<-w1.len,List.length_take,List.length_drop]; omega
       have fin:∀{n:Nat} {ag:Bool},(wV cf cc g e o n ag (.k WU) s K).Ok->(ag=true/\dJ c.P t=true/\n=ae c.P t)∨(ag=false/\dJ c.P t=false/\cr c.P t=true/\n=1)->Lo c T G Γ ops i s ρ K:=fun {n ag} h hcs=>by
        have hle:o+n<=(c.Φ.ks cc).length:=by
         have hp:=h
         unfold wV at hp
         rw [hΦ] at hp
         cases hc:Nat.ble (o+n) (c.Φ.ks cc).length with
         | false=>rw [hc] at hp; cases hp
         | true=>exact aL hc
        refine (AP hΦ h hk ⟨q2,rfl⟩ q7 (by rw [LE.bp]; exact Int.le_refl _)).mono fun ρ2 s2 a2 n2 o2 hh=>?_
        obtain⟨xs,g1,g2⟩:=hh
        have e1:(((C.drop ((e.ev ρ).toNat*ae c.P (c.Φ.ty cc))).take (ae c.P (c.Φ.ty cc))).drop o).take n=(C.drop ((e.ev ρ).toNat*ae c.P (c.Φ.ty cc)+o)).take n:=by
         rw [List.drop_take,List.take_take,List.drop_drop,Nat.min_eq_left (by omega)]
        rw [e1] at g2
        rcases hcs with ⟨rfl,h1,rfl⟩ | ⟨rfl,h1,h2,h3⟩
        · exact⟨_,g1,by
           show aZ _ _ _ _ _ _ _ _ _ (.agg (aE ρ2 xs))
           rw [g2]
           exact aZ.BP hg ho hx' h1 rfl q5 (by omega) rfl⟩
        · obtain⟨u,rfl,hu⟩:=Ia g2 h3 (by omega)
          exact⟨_,g1,aZ.yP hg ho hx' h2 h1 q5 hu⟩
       cases ha:dJ c.P t with
       | true=>rw [ha] at h; exact fin h (.inl ⟨rfl,ha,rfl⟩)
       | false =>
         rw [ha] at h
         cases hkn:cr c.P t with
         | false=>rw [hkn] at h; cases h
         | true=>rw [hkn] at h; exact fin h (.inr ⟨rfl,ha,hkn,rfl⟩)
   · rename_i m el hw
     rw [hP] at h
     cases hb:(xt s (.bl m el) y e&&(Nat.beq sz 1&&(Nat.beq o 0&&(!dJ c.P t&&cr c.P t)))) with
     | false=>rw [hb] at h; cases h
     | true =>
       rw [hb] at h
       simp only [cond_true] at h
       simp only [Bool.and_eq_true,Bool.not_eq_true'] at hb
       obtain⟨b1,b2,b3,b4,b5⟩:=hb
       obtain⟨b,cp,size,C,q1,q2,q3,q4,q5,q6,q7⟩:=tn hw b1 hk
       have q3:(e.ev ρ).toNat<(ρ m).ns.length:=q3
       have b2:=ai b2
       have b3:=ai b3
       subst b2 b3
       have hx':T.at x=.bW b (e.ev ρ).toNat:=(hx.trans (jA q1)).trans (by rw [Nat.mul_one,Nat.add_zero])
       have hm:(ρ m).ns[(e.ev ρ).toNat]?=some (ρ m).ns[(e.ev ρ).toNat]:=List.getElem?_eq_getElem q3
       have hC:C[(e.ev ρ).toNat]?=some (.bool (Nat.beq (ρ m).ns[(e.ev ρ).toNat] 0)):=by rw [q6,List.getElem?_map,hm]; rfl
       have hl:aZ c.P ops c.n0 c.nt i T .e (aQ.z 0) G (.bool (Nat.beq (ρ m).ns[(e.ev ρ).toNat] 0)):=aZ.yP hg ho hx' b5 b4 q5 hC
       unfold XI at h
       cases hb2:(Nat.blt m s.nx&&e.lt s.nx) with
       | false=>rw [hb2] at h; cases h
       | true =>
         rw [hb2] at h
         rw [Bool.and_eq_true] at hb2
         obtain⟨h1,h2⟩:=R.fV h
         cases hz:Nat.beq (ρ m).ns[(e.ev ρ).toNat] 0 with
         | true=>rw [hz] at hl; exact Lo.here hk h1 hl
         | false =>
           rw [hz] at hl
           have hone:(ρ m).ns[(e.ev ρ).toNat]=1:=by
            have:=q7 _ (List.getElem_mem q3)
            have:(ρ m).ns[(e.ev ρ).toNat]≠0:=fun h0=>by rw [h0] at hz; cases hz
            omega
           obtain⟨k1,k2,k3,k4⟩:=az h2 hk (.n (((ρ m).ns.take (e.ev ρ).toNat).sum+(e.ev ρ).toNat))
           have x5:=k2 m (au hb2.1)
           have hp:(LE.a (.n s.nx)).ev (ρ.up s.nx (.n (((ρ m).ns.take (e.ev ρ).toNat).sum+(e.ev ρ).toNat)))=((((ρ m).ns.take (e.ev ρ).toNat).sum+(e.ev ρ).toNat:Nat):Int):=by rw [LE.a9]; show ((ρ.up s.nx (.n _) s.nx).nn:Int)=_; rw [k4]; rfl
           have hsum:((ρ m).ns.take ((e.ev ρ).toNat+1)).sum=((ρ m).ns.take (e.ev ρ).toNat).sum+1:=by
            rw [List.take_add_one,hm,List.sum_append,hone]; simp
           have htot:((ρ m).ns.take ((e.ev ρ).toNat+1)).sum<=(ρ m).ns.sum:=by
            have:=List.take_append_drop ((e.ev ρ).toNat+1) (ρ m).ns
            have h2:=congrArg List.sum this
            rw [List.sum_append] at h2
            omega
           refine fa.mk k2 (Nat.le_succ _) (((k3.px (p:=(m,e,.a (.n s.nx))) ?_).px (p:=(m,e.aW 1,(LE.a (.n s.nx)).aW 2)) ?_).aP ?_) ⟨_,k1,hl⟩
           · show 0<=e.ev _/\((((ρ.up s.nx (.n _) m).ns.take (e.ev _).toNat).sum:Nat):Int)+e.ev _=(LE.a (.n s.nx)).ev _
             rw [hp,LE.bP k2 hb2.2,x5]
             exact⟨q2,by omega⟩
           · show 0<=(e.aW 1).ev _/\((((ρ.up s.nx (.n _) m).ns.take ((e.aW 1).ev _).toNat).sum:Nat):Int)+(e.aW 1).ev _=((LE.a (.n s.nx)).aW 2).ev _
             rw [LE.aJ,LE.aJ,hp,LE.bP k2 hb2.2,x5,show (e.ev ρ+1).toNat=(e.ev ρ).toNat+1 by omega,hsum]
             exact⟨by omega,by omega⟩
           · rw [LE.aJ,LE.aw,hp,LE.a9]
             show 0<=(((ρ.up s.nx (.n _) m).ns.sum+(ρ.up s.nx (.n _) m).ns.length:Nat):Int)-_+-2
             rw [x5]
             omega
   · exact AQ ho hg hP hΦ h hk hx
 · exact AQ ho hg hP hΦ h hk hx
theorem Pe {t:TypeId} {x y:Operand} {v u:SV} {ok:Bool} {K:SV->SS->R} (ho:(ab ops i).op=.lookup t x y ok) (hg:(ab ops i).guard=none) (hP:cf.P=c.P) (hΦ:cf.Φ=c.Φ) (hK:eo cf) (h:(Vr cf t v u ok s K).Ok) (hk:Ok c T G Γ ρ s) (hx:ba c.nt T x (v.den ρ)) (hy:ba c.nt T y (u.den ρ)):Lo c T G Γ ops i s ρ K:=by
 unfold Vr at h
 split at h
 · rename_i b
   have hx:ba c.nt T x (.dG (ρ b).nn):=hx
   split at h
   · rename_i kt et w hu hw
     rw [hP] at h hu
     split at h
     · rename_i ag cs hz
       cases hzz:zeroOf c.P et with
       | none=>rw [hzz] at hz; cases hz
       | some zz =>
         rw [hzz] at hz
         have hz:vd zz=some (.v ag cs):=hz
         have hz1:∀ρ,dH ρ (ag,cs)=zz:=fun ρ=>mn hz ρ
         have hown:=hk.own (fP hw)
         split at h
         · rename_i g q
           cases hb:(gK cf kt .str&&fq .str u) with
           | false=>rw [hb] at h; cases h
           | true =>
             rw [hb] at h
             rw [Bool.and_eq_true] at hb
             have hMt:=ib hb.1 hK
             rw [hP] at hMt
             obtain⟨_,_,hbd,es,r1,r2,r3⟩:=hown
             exact Ic (cf:=cf) h hk hz1 hb.2 r3 hbd (aZ.lookup hg ho hu hzz hMt hx hy (fg hb.2 ρ) r1 fun p hp=>(r2 p hp).1)
         · rename_i e
           cases hb:(gK cf kt .str&&(fq .str u&&e.lt s.nx)) with
           | false=>rw [hb] at h; cases h
           | true =>
             rw [hb] at h
             simp only [Bool.and_eq_true] at hb
             have hMt:=ib hb.1 hK
             rw [hP] at hMt
             obtain⟨_,es,r1,r2⟩:=hown
             have hl:=aZ.lookup (n0:=c.n0) (nt:=c.nt) (T:=T) (hp:=.e) (nx:=aQ.z 0) hg ho hu hzz hMt hx hy (fg hb.2.1 ρ) r1 fun p hp=>(r2 p hp).1
             obtain⟨h1,h2⟩:=R.fV h
             cases hf:cq (u.den ρ) es with
             | none=>rw [hf] at hl; exact Lo.here hk h1 (by rw [j6,hz1]; exact hl)
             | some v =>
               rw [hf] at hl
               obtain⟨p,m1,rfl⟩:=mU hf
               obtain⟨_,n,e1,e2⟩:=r2 p m1
               obtain⟨k1,k2,k3,k4⟩:=az h2 hk (.n n)
               have hev:(LE.a (.n s.nx)).ev (ρ.up s.nx (.n n))=n:=by rw [LE.a9]; show ((ρ.up s.nx (.n n) s.nx).nn:Int)=n; rw [k4]; rfl
               refine fa.mk k2 (Nat.le_succ _) (k3.aP ?_) ⟨_,k1,?_⟩
               · rw [LE.aJ,LE.aw,hev,LE.bP k2 hb.2.2]; omega
               · rw [mZ]
                 have e3:dH (ρ.up s.nx (.n n)) (false,[SC.int .i64 (.a (.n s.nx))])=.int .i64 (.ofNat n):=by show AV.int .i64 ((LE.a (.n s.nx)).ev _)=_; rw [hev]; rfl
                 rw [e3]; rw [e1] at hl; exact hl
         · rename_i pk
           cases hb:(gK cf kt pk&&fq pk u) with
           | false=>rw [hb] at h; cases h
           | true =>
             rw [hb] at h
             rw [Bool.and_eq_true] at hb
             have hMt:=ib hb.1 hK
             rw [hP] at hMt
             have r1:G (ρ b).nn=some (.map []):=hown.1
             have hl:=aZ.lookup (n0:=c.n0) (nt:=c.nt) (T:=T) (hp:=.e) (nx:=aQ.z 0) hg ho hu hzz hMt hx hy (fg hb.2 ρ) r1 fun p hp=>by cases hp
             exact Lo.here hk h (by rw [j6,hz1]; exact hl)
         · rename_i cc g n
           rw [hΦ] at h
           cases hb:(gK cf kt (c.Φ.pk cc)&&fq (c.Φ.pk cc) u) with
           | false=>rw [hb] at h; cases h
           | true =>
             rw [hb] at h
             rw [Bool.and_eq_true] at hb
             have hMt:=ib hb.1 hK
             rw [hP] at hMt
             obtain⟨o1,o2,o3,es,o4,o5,o6,o7⟩:=hown
             exact Ie hΦ h hk hz1 hb.2 o7 (aZ.lookup hg ho hu hzz hMt hx hy (fg hb.2 ρ) o4 o7.1)
     · cases h
   · cases h
 · exact Ig ho hg hP hΦ hK h hk hx hy
theorem Pf {cl:Call} {t:TypeId} {ats:List TypeId} {x:Operand} {v:SV} {K:SV->SS->R} (ho:(ab ops i).op=.call cl) (hc:cl.callee=.builtin .len) (hats:cl.argTypes.toList=t::ats) (hxa:cl.args.toList=[x]) (hg:(ab ops i).guard=none) (hP:cf.P=c.P) (h:(Vs cf t v s K).Ok) (hk:Ok c T G Γ ρ s) (hx:ba c.nt T x (v.den ρ)):Lo c T G Γ ops i s ρ K:=by
 unfold Vs at h
 split at h
 · rename_i y
   split at h
   · rename_i w e hw hu
     rw [hP] at hu
     have ho':=hk.own (gH hw)
     refine Lo.here hk h ?_
     show aZ _ _ _ _ _ _ _ _ _ (.int .i64 ((LE.a (.len (w.ln y))).ev ρ))
     rw [LE.a9]
     refine aZ.KI (n:=(ρ (w.ln y)).ns.length) hg ho hc hats hxa hu hx ?_
     cases w with
     | ul cc g =>
       obtain⟨_,_,h3⟩:_/\_/\_:=ho'
       rcases h3 with ⟨h1,h0⟩ | ⟨b,cp,size,C,q1,_⟩
       · exact .inl ⟨h1,h0⟩
       · exact .inr ⟨b,0,cp,q1⟩
     | bl m el =>
       obtain⟨_,_,b,size,q1,_⟩:=ho'
       exact .inr ⟨b,0,_,q1⟩
   · exact AR ho hc hats hxa hg hP h hk hx
 · rename_i b n
   split at h
   · rename_i e hu
     rw [hP] at hu
     refine Lo.here hk h ?_
     show aZ _ _ _ _ _ _ _ _ _ (.int .i64 ((LE.k n).ev ρ))
     rw [LE.bp]
     exact aZ.KI (n:=n) hg ho hc hats hxa hu hx (.inr ⟨(ρ b).nn,0,n,rfl⟩)
   · cases h
 · exact AR ho hc hats hxa hg hP h hk hx
theorem jB {K:SV->SS->R} (hg:(ab ops i).guard=none) (hP:cf.P=c.P) (hΦ:cf.Φ=c.Φ) (hK:eo cf) (h:(ra cf (ab ops i).op s K).Ok) (hk:Ok c T G Γ ρ s):Lo c T G Γ ops i s ρ K:=by
 unfold ra at h
 split at h
 · rename_i ho; obtain⟨v,h,e0,e⟩:=bz h hk; exact Pb ho hg hP h hk (fN e0 hk.q)
 · rename_i ho; obtain⟨v,h,e0,e⟩:=bz h hk; exact Pd ho hg hP hΦ h hk (fN e0 hk.q)
 · rename_i ho; obtain⟨v,h,e0,e⟩:=bz h hk; obtain⟨u,h,_,e'⟩:=bz h hk; exact Pc ho hg hP hΦ h hk (fN e0 hk.q) e'
 · rename_i ho; obtain⟨v,h,_,e⟩:=bz h hk; obtain⟨u,h,_,e'⟩:=bz h hk; exact Pe ho hg hP hΦ hK h hk e e'
 · rename_i x ho
   obtain⟨v,h,e0,e⟩:=bz h hk
   split at h
   · rename_i y e' sz o
     split at h
     · rename_i w hw
       cases hi:xt s w y e' with
       | false=>rw [hi] at h; cases h
       | true =>
         rw [hi] at h
         obtain⟨b,cp,size,C,q1,_⟩:=tn hw hi hk
         have e1:(SV.v false [.og y e' sz o]).den ρ=.bW b ((e'.ev ρ).toNat*sz+o):=jA q1
         exact Lo.here hk h (by rw [e1]; exact aZ.nil hg ho ((fN e0 hk.q).trans e1))
     · exact AL ho hg h hk (fN e0 hk.q)
   · exact AL ho hg h hk (fN e0 hk.q)
 · rename_i cl ho
   split at h
   · rename_i x t ats h1 h2 h3
     obtain⟨v,h,_,e⟩:=bz h hk
     exact Pf ho h1 h3 h2 hg hP h hk e
   · cases h
 · exact OV hg hP hΦ hK h hk
def Iv (cf:Cf) (ops:Array Oper) (i:Nat) (s:SS) (K:SV->SS->R):R:=match (ab ops i).guard with
 | none=>ra cf (ab ops i).op s K
 | some (g,b)=>(match (ab ops g).dst with
   | some dg=>(match xr s.L dg with
     | some (.v false [.bool be])=>split s be (fun s=>bif b then ra cf (ab ops i).op s K else K .undef s) (fun s=>bif b then K .undef s else ra cf (ab ops i).op s K)
     | some .undef=>K .undef s
     | _=>.bad 13 s)
   | none=>.bad 14 s)
theorem Ch {K:SV->SS->R} (hP:cf.P=c.P) (hΦ:cf.Φ=c.Φ) (hK:eo cf) (h:(Iv cf ops i s K).Ok) (hk:Ok c T G Γ ρ s):Lo c T G Γ ops i s ρ K:=by
 unfold Iv at h
 split at h
 · rename_i hg
   exact jB hg hP hΦ hK h hk
 · rename_i g b hg
   split at h
   · rename_i dg hdg
     split at h
     · rename_i be hl
       have hT:T.at dg=.bool (be.ev ρ):=hk.q.at_ _ _ (fM hl)
       have run:∀s1,s1.nx=s.nx->Ok c T G Γ ρ s1->be.ev ρ=b->(ra cf (ab ops i).op s1 K).Ok->Lo c T G Γ ops i s ρ K:=fun s1 n1 o1 e1 h1=>by
        rw [e1] at hT
        refine Lo.to n1 (Lo.map (ops':=wK ops) (jB (vl ops i) hP hΦ hK (by rw [Ih]; exact h1) o1) fun v hv=>AF hg hdg hT hv)
       have idle:∀s1,s1.nx=s.nx->Ok c T G Γ ρ s1->be.ev ρ≠b->(K .undef s1).Ok->Lo c T G Γ ops i s ρ K:=fun s1 n1 o1 e1 h1 =>
        Lo.to n1 (Lo.here o1 h1 (s6 hg hdg hT e1))
       obtain⟨s1,n1,_,o1,h1 | h1⟩:=pr h hk
       · obtain⟨e1,h1⟩:=h1
         cases b with
         | true=>exact run s1 n1 o1 e1 h1
         | false=>exact idle s1 n1 o1 (by rw [e1]; decide) h1
       · obtain⟨e1,h1⟩:=h1
         cases b with
         | true=>exact idle s1 n1 o1 (by rw [e1]; decide) h1
         | false=>exact run s1 n1 o1 e1 h1
     · rename_i hl
       exact Lo.here hk h (s7 hg hdg (hk.q.at_ _ _ (fM hl)))
     · cases h
   · cases h
end
end Go.Rd
namespace Go.Rt
open Go.aQ Go.RowKit
section
variable {c:Cx} {ops:Array Oper} {i m d f:Nat} {T:Tm} {G G':GH} {Γ Γ':c8} {st st':St} {v u:AV}
theorem Q.Ef (hq:Q c T G Γ st) {cc g n k:Nat} {E2:List AV} {osA:List Own} (ho:st.os.Perm (osA++[.ul v cc g n])) (hE2:E2.length=k*ae c.P (c.Φ.ty cc)) (kX:CL E2) (hel:∀j,j<k->eI c.P c.Φ G Γ WU cc g (n+j) ((E2.drop (j*ae c.P (c.Φ.ty cc))).take (ae c.P (c.Φ.ty cc)))) (hlim:n+k<=kT) :
  ∃E1,Ext G v (c.Φ.ty cc) (ae c.P (c.Φ.ty cc)) n E1/\mP E1/\(∀G' v',Kx c.n0 G G' v v' (c.Φ.ty cc) (ae c.P (c.Φ.ty cc)) n k E1 E2->∃Γ',Q c T G' Γ' ⟨st.L,osA++[.ul v' cc g (n+k)],st.dL,st.gs⟩):=by
 have hown:cY c.P c.Φ G Γ (.ul v cc g n):=hq.own _ (ho.mem_iff.2 (by simp))
 obtain⟨hg,hlm,hown'⟩:=hown
 obtain⟨E1,t1,t2,t3,t4⟩:∃E1,Ext G v (c.Φ.ty cc) (ae c.P (c.Φ.ty cc)) n E1/\CL E1/\E1.length=n*ae c.P (c.Φ.ty cc)/\(∀j,j<n->eI c.P c.Φ G Γ WU cc g j ((E1.drop (j*ae c.P (c.Φ.ty cc))).take (ae c.P (c.Φ.ty cc)))):=by
  rcases hown' with ⟨h1,rfl⟩ | ⟨b,cap,size,C,h1,h2,h3,h4,h5,h6,h7⟩
  · exact⟨[],.inl ⟨h1,rfl,rfl⟩,mr,by simp,fun j hj=>absurd hj (by omega)⟩
  · exact⟨C,.inr ⟨b,0,cap,size,C,h1,h3,by omega,by rw [List.drop_zero,<-h4,List.take_length],by omega,h6⟩,w6 h4 fun j hj=>(h7 j hj).cl,h4,h7⟩
 refine⟨E1,t1,t2.nf,fun G' v' ha'=>?_⟩
 have fin:∀(b c' size:Nat),G'=eH G b (.cells .data (c.Φ.ty cc) size (E1++E2))->v'=.di b 0 (n+k) c'->c'*ae c.P (c.Φ.ty cc)<=size->n+k<=c'->((Own.ul v cc g n).aR=some b∨G b=none)->Γ.m b=none->((G b).isSome=true∨c.n0<=b)->(∀el size C,G b≠some (.cells .raw el size C))->(∀el size' C,G b=some (.cells .data el size' C)->el=c.Φ.ty cc/\size'=size) ->
   ∃Γ',Q c T G' Γ' ⟨st.L,osA++[.ul v' cc g (n+k)],st.dL,st.gs⟩:=by
  intro b c' size hG hv hcs hlc hob hΓ hgr hraw hdat
  subst hG hv
  refine⟨Γ,?_⟩
  have:=hq.wY (b:=b) (G':=eH G b (.cells .data (c.Φ.ty cc) size (E1++E2))) (Γ':=Γ) (o':=.ul (.di b 0 (n+k) c') cc g (n+k)) (tys':=[]) ho (dC hgr) (fun _ _=>rfl) (fun k h=>db h) (by rw [ay]; rfl) hraw (fun el size' C' h=>⟨E1++E2,by obtain⟨r1,r2⟩:=hdat _ _ _ h; subst r1 r2; exact ay _ _ _⟩)
   (fun x h=>by rw [hΓ] at h; cases h) rfl rfl hob rfl (fun x _ _ h=>by rw [hΓ] at h; cases h)
   (fun hr hl=>⟨hg,hlim,.inr ⟨b,c',size,E1++E2,rfl,hΓ,ay _ _ _,by rw [List.length_append,t3,hE2,Nat.add_mul],hcs,hlc,fun j hj=>by
    by_cases hlt:j<n
    · have h1:(j+1)*ae c.P (c.Φ.ty cc)<=n*ae c.P (c.Φ.ty cc):=Nat.mul_le_mul_right _ hlt
      rw [Nat.succ_mul] at h1
      rw [List.drop_append_of_le_length (by omega),List.take_append_of_le_length (by rw [List.length_drop]; omega)]
      exact (t4 j hlt).le hr hl hg
    · have h1:j*ae c.P (c.Φ.ty cc)=n*ae c.P (c.Φ.ty cc)+(j-n)*ae c.P (c.Φ.ty cc):=by rw [<-Nat.add_mul]; congr 1; omega
      rw [h1,<-t3,List.drop_append]
      rw [List.drop_of_length_le (by omega),List.nil_append,Nat.add_sub_cancel_left]
      have:=hel (j-n) (by omega)
      rw [show n+(j-n)=j by omega] at this
      exact this.le hr hl hg⟩⟩) (fun f hf=>by cases hf)
  exact this
 rcases ha' with ⟨rfl,rfl,h1,h2,rfl⟩ | ⟨b,o,cap,size,C,rfl,h2,h3,h4,h5,h6,h7⟩ | ⟨b,c',size,h1,h2,h3,h4,h5,h6⟩
 · subst h1 h2
   exact⟨Γ,hq.iq (fun _ _ h=>h) ⟨[],by simpa using ho⟩ (fun f h=>h) (fun p h=>h)⟩
 · rcases hown' with ⟨h,_⟩ | ⟨b',cap2,size2,C2,k1,k2,k3,k4,k5,k6,k7⟩
   · cases h
   · cases k1
     rw [h2] at k3; cases k3
     have hC:C=E1:=by
      rcases t1 with ⟨h,_⟩ | ⟨_,_,_,_,_,g1,g2,g3,g4,_⟩
      · cases h
      · cases g1; rw [h2] at g2; cases g2
        rw [<-g4,List.drop_zero,<-k4,List.take_length]
     subst hC
     exact fin b cap size (by rw [h7,vn (by omega)]) h3 (by omega) h4 (.inl rfl) k2 (.inl (by rw [h2]; rfl)) (fun _ _ _ h=>by rw [h2] at h; cases h) fun el size' C' h=>by rw [h2] at h; cases h; exact⟨rfl,rfl⟩
 · exact fin b c' size h6 h3 h5 h4 (.inr h2) (hq.ht.none h2) (.inr h1) (fun _ _ _ h=>by rw [h2] at h; cases h) fun _ _ _ h=>by rw [h2] at h; cases h
end
end Go.Rt
namespace Go.aQ
open Go.RowKit
section
variable {P:Program} {n0 nt:Nat} {T T2:Tm} {hp H:Tr AO} {nx X:Pz} {G:GH} {ops:Array Oper} {aG:List Nat} {i m d:Nat} {v u:AV}
theorem eZ.Iw {t e:TypeId} {yl yc:Operand} {n:Nat} {z:AV} {R:Tm->Tr AO->Pz->GH->Prop} (hg:(ab ops i).guard=none) (hd:(ab ops i).dst=some d) (hlt:d<nt) (ho:(ab ops i).op=.makeSlice t yl yc) (hu:P.underlying t=some (.slice e)) (hz:zeroOf P e=some z)
  (hgz:(Nat.beq z.cells.length (ae P e)&&(Nat.ble (ae P e) 1000&&(Nat.blt 0 (ae P e)&&Nat.ble (P.bytesOf e) 1000000)))=true) (hl:ba nt T yl (.int .i64 (.ofNat n))) (hc:ba nt T yc (.int .i64 (.ofNat n))) (hn:n<=16777216) (hnf:mP z.cells)
  (hr:∀b,n0<=b->G b=none->R (T.put d (.di b 0 n n)) hp nx (eH G b (.cells .data e (n*ae P e) (gv n z.cells)))):eZ P n0 nt ops i T hp nx G R:=by
 intro B w0 ι a w hs
 refine .inl ⟨by simp [Region.wanted,hg],?_⟩
 rw [hd]
 have hval:=(hs.1.2 ι (al.refl _ _)).1
 simp only [Bool.and_eq_true] at hgz
 obtain⟨g1,g2,g3,g5⟩:=hgz
 have g1:=ai g1
 have g2:=aL g2
 have g3:=au g3
 have g5:=aL g5
 obtain⟨j,zv,q1,q2,q3,q4⟩:=cm hz
 have hbytes:P.bytesOf e=j.bytes:=by unfold Program.bytesOf; rw [q1]; rfl
 have hsz:j.size=ae P e:=by unfold ae; rw [q1]; rfl
 have hm:j.bytes*n<=1000000*16777216:=Nat.mul_le_mul (by omega) hn
 have hz':zv.cells=(ao ι z.cells).toArray:=by rw [<-dQ 8 zv z q3 ι,bL]
 have hmade:madeCells zv.cells (n*j.size)=(ao ι (gv n z.cells)).toArray:=by
  unfold madeCells
  rw [hz',hsz,<-g1]
  exact oT ι z.cells (by omega) n
 have hrun:(execOp a.eval (ab ops i)).run P w=.ok (.value (.slice (some ⟨w.heap.size,0,none⟩) n n)) (w.alloc (.cells (ao ι (gv n z.cells)).toArray e (0,0))):=by
  simp only [execOp,ho,Sem.run_bind]
  rw [hl ι a hval,hc ι a hval,dN]
  have hrm:=run_make w t e j zv hu q1 q2 .i64 .i64 (n:Int) (n:Int) (by omega) (by omega) (by omega) (by omega)
  rw [hrm]
  simp only [Result.andThen_ok,Sem.run_pure,Int.toNat_natCast]
  rw [hmade]
 have hrl:(gv n z.cells).length=n*ae P e:=by rw [gm,g1]
 have hnfr:mP (gv n z.cells):=by
  clear hrun hmade hm hrl hn hl hc hr
  induction n with
  | zero=>exact hY
  | succ n ih=>exact gV hnf ih
 obtain⟨p1,p2,p3⟩:=pA (kd:=.data) (el:=e) hs hnfr
 rw [hrl] at p1
 exact .inl ⟨_,_,.inl hrun,_,_,_,_,ι,hr _ p2 p3,dD p1 hlt (jd _ _ _ _) (by simp [aj,gh])⟩
end
end Go.aQ
