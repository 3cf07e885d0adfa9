/- Part Xdb of the proof of ScopeEnds: no condition. -/
import Derived.Test.YtmabojcaklojhaaGreatXda
set_option linter.unusedSimpArgs false
set_option linter.unusedVariables false
namespace Go.Rd
open Go.Rex Go.RowKit Go.Rt
def cellsS:SV->Option (List SC)
 | .v true cs=>some cs
 | .v false [x]=>some [x]
 | _=>none
section
variable {c:Cx} {T:Tm} {G:GH} {Γ:Gam} {ρ ρ':Rho} {s s':SS} {cf:Cf} {ops:Array Oper} {i:Nat}
theorem sc_c1 (x:SC) (ρ:Rho):nf (x.den ρ)/\oneB (x.den ρ)=true/\(x.den ρ).cells=[x.den ρ]:=by
 cases x with
 | int k e=>exact⟨nf_int _ _,rfl,rfl⟩
 | bool b=>exact⟨nf_bool _,rfl,rfl⟩
 | str x=>exact⟨nf_str _ _,rfl,rfl⟩
 | strc l m=>exact⟨nf_str _ _,rfl,rfl⟩
 | flt k x=>exact⟨nf_float _ _,rfl,rfl⟩
 | fltc k x=>exact⟨nf_float _ _,rfl,rfl⟩
 | ref x =>
   have:=U.vv_ref (ρ x)
   show nf (ρ x).vv/\oneB (ρ x).vv=true/\(ρ x).vv.cells=[(ρ x).vv]
   generalize (ρ x).vv=v at this
   cases v<;>first | (cases this; done) | skip
   · exact⟨nf_nilp,rfl,rfl⟩
   · exact⟨nf_nils,rfl,rfl⟩
   · exact⟨nf_nilmap,rfl,rfl⟩
   · exact⟨nf_rsl _ _ _ _,rfl,rfl⟩
   · exact⟨nf_rpt _ _,rfl,rfl⟩
   · exact⟨nf_rmp _,rfl,rfl⟩
 | nils=>exact⟨nf_nils,rfl,rfl⟩
 | nilp=>exact⟨nf_nilp,rfl,rfl⟩
 | nilmap=>exact⟨nf_nilmap,rfl,rfl⟩
 | nilfunc=>exact⟨nf_nilfunc,rfl,rfl⟩
 | rpt b o=>exact⟨nf_rpt _ _,rfl,rfl⟩
 | elp x e sz o =>
   show nf (elpA _ _)/\oneB (elpA _ _)=true/\(elpA _ _).cells=[elpA _ _]
   unfold elpA
   split
   · exact⟨nf_rpt _ _,rfl,rfl⟩
   · exact⟨nf_nilp,rfl,rfl⟩
 | ptp x o =>
   show nf (ptpA _ _)/\oneB (ptpA _ _)=true/\(ptpA _ _).cells=[ptpA _ _]
   unfold ptpA
   split
   · exact⟨nf_rpt _ _,rfl,rfl⟩
   · exact⟨nf_nilp,rfl,rfl⟩
 | rmp b=>exact⟨nf_rmp _,rfl,rfl⟩
 | osl b n=>exact⟨nf_rsl _ _ _ _,rfl,rfl⟩
 | fn f=>exact⟨fun _ _=>by simp [SC.den,ren,renL,renFn],rfl,rfl⟩
theorem denL_nf (cs:List SC) (ρ:Rho):nfL (denL ρ cs):=fun v hv=>by
 obtain⟨x,_,rfl⟩:=List.mem_map.1 hv
 exact (sc_c1 x ρ).1
theorem denL_flat (cs:List SC) (ρ:Rho):flat (denL ρ cs)=true:=flat_all fun v hv=>by
 obtain⟨x,_,rfl⟩:=List.mem_map.1 hv
 exact (sc_c1 x ρ).2.1
theorem cellsS_ok {v:SV} {cs:List SC} (h:cellsS v=some cs) (ρ:Rho):(v.den ρ).cells=denL ρ cs:=by
 unfold cellsS at h
 split at h
 · cases h; rfl
 · rename_i x; cases h; exact (sc_c1 x ρ).2.2
 · cases h
theorem den1_nf (p:Bool × List SC) (ρ:Rho):nf (den1 ρ p):=by
 unfold den1
 split
 · exact nf_agg (denL_nf _ _)
 · cases h:denL ρ p.2 with
   | nil=>exact nf_nils
   | cons v l=>exact denL_nf p.2 ρ v (by rw [h]; exact List.mem_cons_self ..)
theorem sv_nf (v:SV) (ρ:Rho):nf (v.den ρ):=by
 cases v with
 | v ag cs=>exact den1_nf _ _
 | tup l=>exact nf_tup fun u hu=>by obtain⟨p,_,rfl⟩:=List.mem_map.1 hu; exact den1_nf _ _
 | undef=>exact nf_undef
 | clo f cs=>exact fun ι ι'=>by simp only [SV.den,ren,renFn,renL]; rw [nf_renL (denL_nf cs ρ) ι ι']
def exo (x:SV) (k:Nat) (s:SS) (K:SV->SS->R):R:=match x with
 | .tup l=>(match l[k]? with | some p=>K (.v p.1 p.2) s | none=>.bad 70 s)
 | _=>.bad 71 s
theorem exo_ok {x:Operand} {k:Nat} {v:SV} {K:SV->SS->R} (ho:(opAt ops i).op=.extract x k) (hg:(opAt ops i).guard=none) (h:(exo v k s K).Ok) (hk:Ok c T G Γ ρ s) (hx:EvA c.nt T x (v.den ρ)):Lo c T G Γ ops i s ρ K:=by
 unfold exo at h
 split at h
 · rename_i l
   cases hl:l[k]? with
   | none=>rw [hl] at h; cases h
   | some p =>
     rw [hl] at h
     exact Lo.here hk h (LVG.extractE hg ho hx (by rw [List.getElem?_map,hl]; rfl))
 · cases h
def fio (cf:Cf) (t:TypeId) (x:SV) (f:Nat) (s:SS) (K:SV->SS->R):R:=match x,fieldOff cf.P t f with
 | .v true cs,some (off,ft)=>bif aggT cf.P ft then K (.v true ((cs.drop off).take (szOf cf.P ft))) s
   else bif knownT cf.P ft then (match cs[off]? with | some x=>K (sc x) s | none=>.bad 72 s) else .bad 73 s
 | _,_=>.bad 74 s
theorem fio_ok {t:TypeId} {x:Operand} {f:Nat} {v:SV} {K:SV->SS->R} (ho:(opAt ops i).op=.field t x f) (hg:(opAt ops i).guard=none) (hP:cf.P=c.P) (h:(fio cf t v f s K).Ok) (hk:Ok c T G Γ ρ s) (hx:EvA c.nt T x (v.den ρ)):Lo c T G Γ ops i s ρ K:=by
 unfold fio at h
 rw [hP] at h
 split at h
 · rename_i cs off ft hf
   have hx:EvA c.nt T x (.agg (denL ρ cs)):=hx
   cases ha:aggT c.P ft with
   | true =>
     rw [ha] at h
     refine Lo.here hk h ?_
     show LVG _ _ _ _ _ _ _ _ _ (.agg (denL ρ _))
     rw [denL_take]
     exact LVG.fieldE hg ho hf hx (part_agg ha)
   | false =>
     rw [ha] at h
     cases hkn:knownT c.P ft with
     | false=>rw [hkn] at h; cases h
     | true =>
       rw [hkn] at h
       simp only [cond_true,cond_false] at h
       cases hc:cs[off]? with
       | none=>rw [hc] at h; cases h
       | some u =>
         rw [hc] at h
         exact Lo.here hk h (LVG.fieldE hg ho hf hx (part_one hkn ha (by simp [denL,hc]; rfl)))
 · cases h
def pko (x:SV) (a b:Option SV) (s:SS) (K:SV->SS->R):R:=match x with
 | .v false [.bool be]=>split s be (fun s=>match a with | some v=>K v s | none=>.bad 75 s) (fun s=>match b with | some v=>K v s | none=>.bad 75 s)
 | _=>.bad 76 s
theorem pko_ok {x y y':Operand} {v:SV} {a b:Option SV} {K:SV->SS->R} (ho:(opAt ops i).op=.pick x y y') (hg:(opAt ops i).guard=none) (h:(pko v a b s K).Ok) (hk:Ok c T G Γ ρ s) (hx:EvA c.nt T x (v.den ρ)) (ha:∀u,a=some u->EvA c.nt T y (u.den ρ)) (hb:∀u,b=some u->EvA c.nt T y' (u.den ρ)):Lo c T G Γ ops i s ρ K:=by
 unfold pko at h
 split at h
 · rename_i be
   have hx:EvA c.nt T x (.bool (be.ev ρ)):=hx
   obtain⟨s1,n1,d1,o1,h1 | h1⟩:=split_ok h hk
   · obtain⟨e1,h1⟩:=h1
     cases ha':a with
     | none=>rw [ha'] at h1; cases h1
     | some u=>rw [ha'] at h1; exact Lo.to n1 (Lo.here o1 h1 (LVG.pickE hg ho hx (fun _=>ha u ha') (fun e=>by rw [e1] at e; cases e)))
   · obtain⟨e1,h1⟩:=h1
     cases hb':b with
     | none=>rw [hb'] at h1; cases h1
     | some u=>rw [hb'] at h1; exact Lo.to n1 (Lo.here o1 h1 (LVG.pickE hg ho hx (fun e=>by rw [e1] at e; cases e) (fun _=>hb u hb')))
 · cases h
def fillS (place:Nat->Option (Nat × Nat)):List (Nat × List SC)->List SC->Option (List SC)
 | [],cs=>some cs
 | p::ps,cs=>match place p.1 with
   | none=>none
   | some (off,size)=>bif Nat.beq p.2.length size&&Nat.ble (off+size) cs.length then fillS place ps (spl off p.2 cs) else none
def partsS (s:SS):List (Nat × Operand)->Option (List (Nat × SV × List SC))
 | []=>some []
 | p::ps=>match opv s p.2,partsS s ps with
   | some v,some l=>(match cellsS v with | some cs=>some ((p.1,v,cs)::l) | none=>none)
   | _,_=>none
theorem partsS_ok (hq:Q c T G Γ (s.den ρ)):∀{ps:List (Nat × Operand)} {l:List (Nat × SV × List SC)},partsS s ps=some l->EvP c.nt T ps (l.map fun p=>(p.1,p.2.1.den ρ))/\∀p∈l,(p.2.1.den ρ).cells=denL ρ p.2.2
 | [],l,h=>by cases h; exact⟨trivial,fun p hp=>by cases hp⟩
 | p::ps,l,h=>by
   unfold partsS at h
   split at h
   · rename_i v l' hv hl
     cases hc:cellsS v with
     | none=>rw [hc] at h; cases h
     | some cs =>
       rw [hc] at h
       cases h
       obtain⟨h1,h2⟩:=partsS_ok hq hl
       refine⟨⟨rfl,opv_ok hv hq,h1⟩,fun q hqm=>?_⟩
       rcases List.mem_cons.1 hqm with rfl | hqm
       · exact cellsS_ok hc ρ
       · exact h2 q hqm
   · cases h
theorem fillS_ok {place:Nat->Option (Nat × Nat)}:∀{l:List (Nat × SV × List SC)} {cs cs':List SC},fillS place (l.map fun p=>(p.1,p.2.2)) cs=some cs'->(∀p∈l,(p.2.1.den ρ).cells=denL ρ p.2.2)->fillA place (l.map fun p=>(p.1,p.2.1.den ρ)) (denL ρ cs)=some (denL ρ cs')
 | [],cs,cs',h,_=>by cases h; rfl
 | p::l,cs,cs',h,hc=>by
   have h:(match place p.1 with
    | none=>none
    | some (off,size)=>bif Nat.beq p.2.2.length size&&Nat.ble (off+size) cs.length then fillS place (l.map fun p=>(p.1,p.2.2)) (spl off p.2.2 cs) else none)=some cs':=h
   show (match place p.1 with
    | none=>none
    | some (off,size)=>if (p.2.1.den ρ).cells.length=size/\off+size<=(denL ρ cs).length then fillA place (l.map fun (p:Nat × SV × List SC)=>(p.1,p.2.1.den ρ)) (spl off (p.2.1.den ρ).cells (denL ρ cs)) else none)=_
   cases hp:place p.1 with
   | none=>rw [hp] at h; cases h
   | some q =>
     obtain⟨off,size⟩:=q
     rw [hp] at h
     simp only at h ⊢
     cases hb:(Nat.beq p.2.2.length size&&Nat.ble (off+size) cs.length) with
     | false=>rw [hb] at h; cases h
     | true =>
       rw [hb] at h
       rw [Bool.and_eq_true] at hb
       have e1:=hc p (List.mem_cons_self ..)
       have hl:(denL ρ p.2.2).length=p.2.2.length:=by simp [denL]
       have hl2:(denL ρ cs).length=cs.length:=by simp [denL]
       rw [e1,if_pos ⟨by rw [hl]; exact beq_ok hb.1,by rw [hl2]; exact ble_ok hb.2⟩]
       have e2:spl off (denL ρ p.2.2) (denL ρ cs)=denL ρ (spl off p.2.2 cs):=(spl_map (SC.den ρ) off p.2.2 cs).symm
       rw [e2]
       exact fillS_ok h fun q hq=>hc q (List.mem_cons_of_mem _ hq)
def fillP (l:List (Nat × SV × List SC)):List (Nat × List SC):=l.map fun p=>(p.1,p.2.2)
def placesOf (P:Program) (fs:Array Field):Option (List (Nat × Nat)):=fs.toList.mapM fun f=>(P.info? f.type).map fun i=>(f.offset,i.size)
def bdo (cf:Cf) (t:TypeId) (ps:List (Nat × Operand)) (s:SS) (K:SV->SS->R):R:=match cf.P.underlying t with
 | some (.struct fs)=>(match placesOf cf.P fs,(zeroOf cf.P t).bind svA,partsS s ps with
   | some pl,some (.v true cs),some l=>(match fillS (fun i=>pl[i]?) (fillP l) cs with | some cs'=>K (.v true cs') s | none=>.bad 77 s)
   | _,_,_=>.bad 78 s)
 | _=>.bad 79 s
theorem bdo_ok {t:TypeId} {ps:Array (Nat × Operand)} {K:SV->SS->R} (ho:(opAt ops i).op=.build t ps) (hg:(opAt ops i).guard=none) (hP:cf.P=c.P) (h:(bdo cf t ps.toList s K).Ok) (hk:Ok c T G Γ ρ s):Lo c T G Γ ops i s ρ K:=by
 unfold bdo at h
 rw [hP] at h
 split at h
 · rename_i fs hu
   split at h
   · rename_i pl cs l hpl hz hl
     cases hf:fillS (fun i=>pl[i]?) (fillP l) cs with
     | none=>rw [hf] at h; cases h
     | some cs' =>
       rw [hf] at h
       cases hzz:zeroOf c.P t with
       | none=>rw [hzz] at hz; cases hz
       | some zz =>
         rw [hzz] at hz
         have hz:svA zz=some (.v true cs):=hz
         have e1:=svA_ok hz ρ
         obtain⟨p1,p2⟩:=partsS_ok hk.q hl
         refine Lo.here hk h (LVG.buildE hg ho hzz hu hpl p1 ?_)
         have e2:zz.cells=denL ρ cs:=by rw [<-e1]; rfl
         rw [e2]
         exact fillS_ok hf p2
   · cases h
 · cases h
def nto (x:SV) (s:SS) (K:SV->SS->R):R:=match x with
 | .v false [.bool b]=>K (sc (.bool b.not)) s
 | _=>.bad 80 s
theorem nto_ok {t:TypeId} {x:Operand} {v:SV} {K:SV->SS->R} (ho:(opAt ops i).op=.unOp .not t x) (hg:(opAt ops i).guard=none) (h:(nto v s K).Ok) (hk:Ok c T G Γ ρ s) (hx:EvA c.nt T x (v.den ρ)):Lo c T G Γ ops i s ρ K:=by
 unfold nto at h
 split at h
 · rename_i b
   refine Lo.here hk h ?_
   show LVG _ _ _ _ _ _ _ _ _ (.bool (b.not.ev ρ))
   rw [BE.ev_not]
   exact LVG.notE hg ho hx
 · cases h
def cvo (cf:Cf) (t t':TypeId) (x:SV) (s:SS) (K:SV->SS->R):R:=match cf.P.underlying t,cf.P.underlying t',x with
 | some (.int ks),some (.int kt),.v false [.int k e]=>bif kindB k ks then wrS s kt (some e) K else .bad 81 s
 | _,_,_=>.bad 82 s
theorem cvo_ok {t t':TypeId} {x:Operand} {v:SV} {K:SV->SS->R} (ho:(opAt ops i).op=.convert t t' x) (hg:(opAt ops i).guard=none) (hP:cf.P=c.P) (h:(cvo cf t t' v s K).Ok) (hk:Ok c T G Γ ρ s) (hx:EvA c.nt T x (v.den ρ)):Lo c T G Γ ops i s ρ K:=by
 unfold cvo at h
 rw [hP] at h
 split at h
 · rename_i ks kt k e hu hu'
   cases hb:kindB k ks with
   | false=>rw [hb] at h; cases h
   | true =>
     rw [hb] at h
     have:k=ks:=of_decide_eq_true hb
     subst this
     simp only [cond_true] at h
     exact wrS_ok h hk (fun e' he=>by cases he; rfl) (LVG.convI hg ho hu hu' hx)
 · cases h
def slenS:SC->Option LE
 | .str y=>some (.a (.sl y))
 | .strc l _=>some (.k l)
 | _=>none
theorem slenS_ok {x:SC} {e:LE} (h:slenS x=some e) (ρ:Rho):∃l m:Nat,x.den ρ=.str l m/\e.ev ρ=l:=by
 cases x<;>first | (cases h; done) | skip
 · cases h; exact⟨_,_,rfl,by rw [LE.ev_a]; rfl⟩
 · cases h; exact⟨_,_,rfl,by rw [LE.ev_k]⟩
def sio (cf:Cf) (t:TypeId) (x y:SV) (s:SS) (K:SV->SS->R):R:=match cf.P.underlying t,x,y with
 | some .string,.v false [x],.v false [.int kd e]=>(match slenS x with
   | some l=>bif ent s e&&ent s ((l.sub e).addc (-1)) then fresh s fun z s=>K (sc (.int .u8 (.a (.n z)))) s else .bad 83 s
   | none=>.bad 84 s)
 | _,_,_=>.bad 85 s
theorem sio_ok {t:TypeId} {x y:Operand} {v u:SV} {K:SV->SS->R} (ho:(opAt ops i).op=.index t x y) (hg:(opAt ops i).guard=none) (hP:cf.P=c.P) (h:(sio cf t v u s K).Ok) (hk:Ok c T G Γ ρ s) (hx:EvA c.nt T x (v.den ρ)) (hy:EvA c.nt T y (u.den ρ)):Lo c T G Γ ops i s ρ K:=by
 unfold sio at h
 rw [hP] at h
 split at h
 · rename_i x' kd e hu
   cases hl:slenS x' with
   | none=>rw [hl] at h; cases h
   | some le =>
     rw [hl] at h
     simp only at h
     obtain⟨l,m,e1,e2⟩:=slenS_ok hl ρ
     cases hb:(ent s e&&ent s ((le.sub e).addc (-1))) with
     | false=>rw [hb] at h; cases h
     | true =>
       rw [hb] at h
       simp only [cond_true] at h
       rw [Bool.and_eq_true] at hb
       have k1:=ent_ok hb.1 hk.sat
       have k2:=ent_ok hb.2 hk.sat
       rw [LE.ev_addc,LE.ev_sub,e2] at k2
       have hx:EvA c.nt T x (.str l m):=by rw [<-e1]; exact hx
       have hy:EvA c.nt T y (.int kd (.ofNat (e.ev ρ).toNat)):=by
        have:(SV.v false [.int kd e]).den ρ=.int kd (.ofNat (e.ev ρ).toNat):=by show AV.int kd (e.ev ρ)=_; congr 1; exact (Int.toNat_of_nonneg k1).symm
        rw [<-this]; exact hy
       have hlv:=LVG.strIdx hg ho hu hx hy (by omega) (P:=c.P) (n0:=c.n0) (hp:=.e) (nx:=z 0) (G:=G)
       obtain⟨h1,h2,h3,h4⟩:=fresh_ok h hk (.n (Nat.mod (Nat.div m (pow8 (Nat.sub l ((e.ev ρ).toNat+1)))) 256))
       refine Lo.fr h3 h1 ?_
       have:(sc (.int .u8 (.a (.n s.nx)))).den (ρ.up s.nx (.n (Nat.mod (Nat.div m (pow8 (Nat.sub l ((e.ev ρ).toNat+1)))) 256)))=.int .u8 (.ofNat (Nat.mod (Nat.div m (pow8 (Nat.sub l ((e.ev ρ).toNat+1)))) 256)):=by
        show AV.int .u8 ((LE.a (.n s.nx)).ev _)=_
        rw [LE.ev_a]; show AV.int .u8 ((ρ.up s.nx _ s.nx).nn:Int)=_; rw [h4]; rfl
       rw [this]
       exact hlv
 · cases h
def sso (cf:Cf) (t:TypeId) (x y:SV) (s:SS) (K:SV->SS->R):R:=match cf.P.underlying t,x,y with
 | some .string,.v false [x],.v false [.int kd e]=>(match slenS x with
   | some l=>bif ent s e&&(ent s (l.sub e)&&(e.lt s.nx&&ent s ((LE.k SLIM).sub e))) then fresh s fun z s=>K (sc (.str z)) (addF (addF s ((LE.a (.sl z)).sub e)) (e.sub (.a (.sl z)))) else .bad 86 s
   | none=>.bad 87 s)
 | some (.slice el),.v false [.ref q],.v false [.int kd e]=>(match fSl s.ty q with
   | some (cc,g)=>bif cf.Φ.uni cc&&(Nat.beq el (cf.Φ.ty cc)&&((cf.P.info? el).isSome&&(ent s e&&(ent s ((LE.a (.len q)).sub e)&&(ent s ((LE.a (.len q)).addc (-1))&&(e.lt s.nx&&igLt s.nx g)))))) then
     fresh s fun z s=>K (sc (.ref z)) (addF (addF (addTy s (.sl z cc g)) ((LE.a (.len z)).sub e)) (e.sub (.a (.len z)))) else .bad 88 s
   | none=>.bad 89 s)
 | _,_,_=>.bad 90 s
theorem typedU {v:AV} {cc g:Nat} {ns:List Nat} (h:TOk c.P c.Φ G Γ (.sl v cc g ns)) (hu:c.Φ.uni cc=true):ns.length<=LIM/\((v=.nils/\ns=[])∨∃b cap L size C,v=.rsl b 0 ns.length cap/\Γ.m b=some (.cells cc g L)/\ns=L.take ns.length/\G b=some (.cells .data (c.Φ.ty cc) size C)/\cap*szOf c.P (c.Φ.ty cc)<=size/\ns.length<=cap):=by
 obtain⟨hl,h⟩:=h
 refine⟨hl,?_⟩
 rcases h with h | ⟨_,h⟩ | h
 · exact .inl h
 · cases h with
   | nil=>exact .inl ⟨rfl,rfl⟩
   | emp hu'=>rw [hu] at hu'; cases hu'
   | blk _ hu' _ _=>rw [hu] at hu'; cases hu'
 · exact .inr h
theorem sso_ok {t:TypeId} {x:Operand} {y:Nat} {v u:SV} {K:SV->SS->R} (ho:(opAt ops i).op=.slice t x none (some (.tmp y)) none) (hg:(opAt ops i).guard=none) (hP:cf.P=c.P) (hΦ:cf.Φ=c.Φ) (h:(sso cf t v u s K).Ok) (hk:Ok c T G Γ ρ s) (hx:EvA c.nt T x (v.den ρ)) (hy:T.at y=u.den ρ):Lo c T G Γ ops i s ρ K:=by
 unfold sso at h
 rw [hP,hΦ] at h
 split at h
 · rename_i x' kd e hu
   cases hl:slenS x' with
   | none=>rw [hl] at h; cases h
   | some le =>
     rw [hl] at h
     simp only at h
     obtain⟨l,m,e1,e2⟩:=slenS_ok hl ρ
     cases hb:(ent s e&&(ent s (le.sub e)&&(e.lt s.nx&&ent s ((LE.k SLIM).sub e)))) with
     | false=>rw [hb] at h; cases h
     | true =>
       rw [hb] at h
       simp only [cond_true] at h
       simp only [Bool.and_eq_true] at hb
       obtain⟨b1,b2,b3,b4⟩:=hb
       have k1:=ent_ok b1 hk.sat
       have k2:=ent_ok b2 hk.sat
       have k3:=ent_ok b4 hk.sat
       rw [LE.ev_sub,e2] at k2
       rw [LE.ev_sub,LE.ev_k] at k3
       have hlim:(e.ev ρ).toNat<=SLIM:=by omega
       have hx:EvA c.nt T x (.str l m):=by rw [<-e1]; exact hx
       have hy:T.at y=.int kd (.ofNat (e.ev ρ).toNat):=hy.trans (by show AV.int kd (e.ev ρ)=_; congr 1; exact (Int.toNat_of_nonneg k1).symm)
       have hlv:=LVG.strTo hg ho hu hx hy (by omega) (P:=c.P) (n0:=c.n0) (nt:=c.nt) (hp:=.e) (nx:=z 0) (G:=G)
       obtain⟨h1,h2,h3,h4⟩:=fresh_ok h hk (.s (e.ev ρ).toNat (Nat.div m (pow8 (Nat.sub l (e.ev ρ).toNat))))
       have hsl:(LE.a (.sl s.nx)).ev (ρ.up s.nx (.s (e.ev ρ).toNat (Nat.div m (pow8 (Nat.sub l (e.ev ρ).toNat)))))=e.ev ρ:=by
        rw [LE.ev_a]; show ((ρ.up s.nx _ s.nx).sl:Int)=_; rw [h4,U.sl_of hlim]; exact Int.toNat_of_nonneg k1
       refine Pst.mk h2 (Nat.le_succ _) ((h3.addF ?_).addF ?_) ⟨_,h1,?_⟩
       · rw [LE.ev_sub,hsl,LE.agr h2 b3]; omega
       · rw [LE.ev_sub,hsl,LE.agr h2 b3]; omega
       · show LVG _ _ _ _ _ _ _ _ _ (.str (ρ.up s.nx _ s.nx).sl (ρ.up s.nx _ s.nx).sm)
         rw [h4,U.sl_of hlim]; exact hlv
 · rename_i el q kd e hu
   cases hf:fSl s.ty q with
   | none=>rw [hf] at h; cases h
   | some p =>
     obtain⟨cc,g⟩:=p
     rw [hf] at h
     simp only at h
     cases hb:(c.Φ.uni cc&&(Nat.beq el (c.Φ.ty cc)&&((c.P.info? el).isSome&&(ent s e&&(ent s ((LE.a (.len q)).sub e)&&(ent s ((LE.a (.len q)).addc (-1))&&(e.lt s.nx&&igLt s.nx g))))))) with
     | false=>rw [hb] at h; cases h
     | true =>
       rw [hb] at h
       simp only [cond_true] at h
       simp only [Bool.and_eq_true] at hb
       obtain⟨b0,b1,b2,b3,b4,b5,b6,b7⟩:=hb
       have b1:=beq_ok b1
       subst b1
       have k1:=ent_ok b3 hk.sat
       have k2:=ent_ok b4 hk.sat
       have k3:=ent_ok b5 hk.sat
       rw [LE.ev_sub,LE.ev_a] at k2
       rw [LE.ev_addc,LE.ev_a] at k3
       have k2:0<=((ρ q).ns.length:Int)-e.ev ρ:=k2
       have k3:0<=((ρ q).ns.length:Int)+-1:=k3
       have ht:=hk.ty (fSl_mem hf)
       obtain⟨hlim,ht⟩:=typedU ht b0
       rcases ht with ⟨_,h0⟩ | ⟨b,cap,L,size,C,q1,q2,q3,q4,q5,q6⟩
       · rw [h0] at k3; simp at k3
       · have hx:EvA c.nt T x (.rsl b 0 (ρ q).ns.length cap):=by have hx:EvA c.nt T x (ρ q).vv:=hx; rw [q1] at hx; exact hx
         have hy:T.at y=.int kd (.ofNat (e.ev ρ).toNat):=hy.trans (by show AV.int kd (e.ev ρ)=_; congr 1; exact (Int.toNat_of_nonneg k1).symm)
         have hlv:=LVG.slTo hg ho hu b2 hx hy (by omega) (P:=c.P) (n0:=c.n0) (nt:=c.nt) (hp:=.e) (nx:=z 0) (G:=G)
         have hLL:=take_len q3
         have hlen:(L.take (e.ev ρ).toNat).length=(e.ev ρ).toNat:=by rw [List.length_take]; omega
         obtain⟨h1,h2,h3,h4⟩:=fresh_ok h hk (.v (.rsl b 0 (e.ev ρ).toNat cap) (L.take (e.ev ρ).toNat))
         have e1:(ρ.up s.nx (.v (.rsl b 0 (e.ev ρ).toNat cap) (L.take (e.ev ρ).toNat)) s.nx).vv=.rsl b 0 (e.ev ρ).toNat cap:=by rw [h4]; rfl
         have e2:(ρ.up s.nx (.v (.rsl b 0 (e.ev ρ).toNat cap) (L.take (e.ev ρ).toNat)) s.nx).ns=L.take (e.ev ρ).toNat:=by rw [h4]; exact U.ns_of (by rw [hlen]; omega)
         have hl2:(LE.a (.len s.nx)).ev (ρ.up s.nx (.v (.rsl b 0 (e.ev ρ).toNat cap) (L.take (e.ev ρ).toNat)))=e.ev ρ:=by
          rw [LE.ev_a]; show ((ρ.up s.nx _ s.nx).ns.length:Int)=_; rw [e2,hlen]; exact Int.toNat_of_nonneg k1
         refine Pst.mk h2 (Nat.le_succ _) (((h3.addTy (f:=.sl s.nx cc g) ?_).addF ?_).addF ?_) ⟨_,h1,?_⟩
         · show TOk c.P c.Φ G Γ (.sl _ cc (ig _ g) _)
           rw [e1,e2,ig_agr h2 b7]
           exact⟨by rw [hlen]; omega,.inr (.inr ⟨b,cap,L,size,C,by rw [hlen],q2,by rw [hlen],q4,q5,by rw [hlen]; omega⟩)⟩
         · rw [LE.ev_sub,hl2,LE.agr h2 b6]; omega
         · rw [LE.ev_sub,hl2,LE.agr h2 b6]; omega
         · show LVG _ _ _ _ _ _ _ _ _ (ρ.up s.nx _ s.nx).vv
           rw [e1]; exact hlv
 · cases h
end
end Go.Rd
namespace Go.Rd
open Go.Rex Go.RowKit Go.Rt
theorem findA_hit {k v:AV}:∀{es:List (AV × AV)},findA k es=some v->∃p∈es,p.2=v/\keyEq k p.1=true
 | [],h=>by cases h
 | p::es,h=>by
   have h:(bif keyEq k p.1 then some p.2 else findA k es)=some v:=h
   cases hq:keyEq k p.1 with
   | true=>rw [hq] at h; exact⟨p,List.mem_cons_self ..,Option.some.inj h,hq⟩
   | false =>
     rw [hq] at h
     obtain⟨q,h1,h2⟩:=findA_hit h
     exact⟨q,List.mem_cons_of_mem _ h1,h2⟩
def kkB:KK->KK->Bool
 | .str,.str=>true | .pair,.pair=>true | .int,.int=>true | .ipair,.ipair=>true | _,_=>false
theorem kkB_ok {a b:KK} (h:kkB a b=true):a=b:=by cases a<;>cases b<;>first | rfl | cases h
def keyT (cf:Cf) (kt:TypeId) (pk:KK):Bool:=cf.keys.any fun p=>Nat.beq p.1 kt&&kkB p.2 pk
def KeysOk (cf:Cf):Prop:=∀p∈cf.keys,MapT cf.P p.1 p.2
theorem keyT_ok {cf:Cf} {kt:TypeId} {pk:KK} (h:keyT cf kt pk=true) (hk:KeysOk cf):MapT cf.P kt pk:=by
 obtain⟨p,h1,h2⟩:=List.any_eq_true.1 h
 rw [Bool.and_eq_true] at h2
 have:=Nat.eq_of_beq_eq_true h2.1
 subst this
 have:=kkB_ok h2.2
 subst this
 exact hk p h1
def keyS (pk:KK) (x:SV):Bool:=match pk,x with
 | .str,.v false [x]=>(strOf x).isSome
 | .pair,.v true [x,y]=>(strOf x).isSome&&(strOf y).isSome
 | .int,.v false [.int k _]=>isI64 k
 | .ipair,.v true [.int k _,.int k' _]=>isI64 k&&isI64 k'
 | _,_=>false
theorem keyS_ok {pk:KK} {x:SV} (h:keyS pk x=true) (ρ:Rho):KeyF pk (x.den ρ):=by
 unfold keyS at h
 split at h
 · rename_i x
   obtain⟨q,hq⟩:=Option.isSome_iff_exists.1 h
   obtain⟨l,m,e,_⟩:=strOf_den hq ρ
   exact⟨l,m,e⟩
 · rename_i x y
   rw [Bool.and_eq_true] at h
   obtain⟨q,hq⟩:=Option.isSome_iff_exists.1 h.1
   obtain⟨q',hq'⟩:=Option.isSome_iff_exists.1 h.2
   obtain⟨l,m,e,_⟩:=strOf_den hq ρ
   obtain⟨l',m',e',_⟩:=strOf_den hq' ρ
   exact⟨l,m,l',m',by show AV.agg [x.den ρ,y.den ρ]=_; rw [e,e']⟩
 · rename_i k e
   have:=isI64_ok h
   subst this
   exact⟨_,rfl⟩
 · rename_i k e k' e'
   rw [Bool.and_eq_true] at h
   have:=isI64_ok h.1
   have:=isI64_ok h.2
   subst_vars
   exact⟨_,_,rfl⟩
 · cases h
def lkAt:List (Nat × SC × LE)->Nat->SC->Option LE
 | [],_,_=>none
 | p::l,d,x=>bif Nat.beq p.1 d&&p.2.1.same x then some p.2.2 else lkAt l d x
theorem lkAt_ok:∀{l:List (Nat × SC × LE)} {d:Nat} {x:SC} {e:LE},lkAt l d x=some e->∃x',(d,x',e)∈l/\∀ρ,x'.den ρ=x.den ρ
 | [],d,x,e,h=>by cases h
 | p::l,d,x,e,h=>by
   have h:(bif Nat.beq p.1 d&&p.2.1.same x then some p.2.2 else lkAt l d x)=some e:=h
   cases hb:(Nat.beq p.1 d&&p.2.1.same x) with
   | true =>
     rw [hb] at h; cases h
     rw [Bool.and_eq_true] at hb
     have:=Nat.eq_of_beq_eq_true hb.1; subst this
     exact⟨p.2.1,List.mem_cons_self ..,SC.same_ok hb.2⟩
   | false=>rw [hb] at h; obtain⟨x',h1,h2⟩:=lkAt_ok h; exact⟨x',List.mem_cons_of_mem _ h1,h2⟩
def hitV (ok:Bool) (x:Bool × List SC):SV:=bif ok then .tup [x,(false,[.bool (.k true)])] else .v x.1 x.2
def missV (ok:Bool) (x:Bool × List SC):SV:=bif ok then .tup [x,(false,[.bool (.k false)])] else .v x.1 x.2
def lka (cf:Cf) (g b:Nat) (k:SV) (ok:Bool) (zr:Bool × List SC) (s:SS) (K:SV->SS->R):R:=match k,ghost s.gs g with
 | .v false [x],some d=>(match lkAt s.ats d x with
   | some e=>bif ent s e then K (hitV ok (false,[.int .i64 e])) (addF s (((LE.a (.gn d b)).sub e).addc (-1))) else bif ent s ((LE.k (-1)).sub e) then K (missV ok zr) s else .bad 88 s
   | none=>bif x.lt s.nx&&Nat.blt d s.nx then (K (missV ok zr) (addAt s (d,x,.k (-1)))).and (fresh s fun n s=>K (hitV ok (false,[.int .i64 (.a (.n n))])) (addAt (addF s (((LE.a (.gn d b)).sub (.a (.n n))).addc (-1))) (d,x,.a (.n n)))) else .bad 92 s)
 | _,_=>.bad 93 s
def lkd (cf:Cf) (g:Nat) (mv:MV) (k:SV) (ok:Bool) (zr:Bool × List SC) (s:SS) (K:SV->SS->R):R:=match mv with
 | .kd kd=>bif igLt s.nx g&&ltO s.nx (ghost s.gs g) then (K (missV ok zr) s).and (rdK cf g (ghost s.gs g) (.k 0) kd s fun x _ s=>K (hitV ok (false,[x])) s) else .bad 91 s
 | .unit=>(K (missV ok zr) s).and (K (hitV ok (true,[])) s)
 | .atv b=>lka cf g b k ok zr s K
 | .fiv=>(match k,ghost s.gs g with
   | .v true [x,_],some d=>bif x.lt s.nx&&Nat.blt d s.nx then (K (missV ok zr) s).and (fresh s fun j s=>fresh s fun f s=>fresh s fun n s=>K (hitV ok (false,[.int .i64 (.a (.n n))])) (addFl (addAt (addF s (((LE.a (.n f)).sub (.a (.n n))).addc (-1))) (d,x,.a (.n j))) (d,.a (.n j),.a (.n f)))) else .bad 92 s
   | _,_=>.bad 93 s)
def lko (cf:Cf) (t:TypeId) (m k:SV) (ok:Bool) (s:SS) (K:SV->SS->R):R:=match cf.P.underlying t with
 | some (.map kt et)=>(match (zeroOf cf.P et).bind svA with
   | some (.v ag cs)=>(match m with
     | .v false [.nilmap]=>bif keyT cf kt .str&&keyS .str k||(keyT cf kt .pair&&keyS .pair k||(keyT cf kt .int&&keyS .int k||keyT cf kt .ipair&&keyS .ipair k)) then K (missV ok (ag,cs)) s else .bad 94 s
     | .v false [.ref y]=>(match fMp s.ty y with
       | some (cc,g)=>bif keyT cf kt (cf.Φ.pk cc)&&keyS (cf.Φ.pk cc) k then lkd cf g (cf.Φ.mv cc) k ok (ag,cs) s K else .bad 95 s
       | none=>.bad 96 s)
     | _=>.bad 97 s)
   | _=>.bad 98 s)
 | _=>.bad 99 s
section
variable {c:Cx} {T:Tm} {G:GH} {Γ:Gam} {ρ ρ':Rho} {s s':SS} {cf:Cf} {ops:Array Oper} {i:Nat}
theorem LVG.lookupNil {P:Program} {n0 nt:Nat} {hp:Tr AO} {nx:Pz} {t kt et:TypeId} {ym yk:Operand} {ok:Bool} {pk:KK} {z k:AV} (hg:(opAt ops i).guard=none) (ho:(opAt ops i).op=.lookup t ym yk ok) (hu:P.underlying t=some (.map kt et)) (hz:zeroOf P et=some z) (hM:MapT P kt pk)
  (hm:EvA nt T ym .nilmap) (hk:EvA nt T yk k) (hkf:KeyF pk k):LVG P ops n0 nt i T hp nx G (if ok then .tup [z,.bool false] else z):=by
 refine lvg_mk hg fun B w0 ι a w hs=>?_
 have hval:=(hs.1.2 ι (Agree.refl _ _)).1
 obtain⟨dd,hd⟩:=hM.und
 obtain⟨_,zv,_,_,_,hzero⟩:=zeroOf_ok hz
 simp only [execOp,ho,Sem.run_bind]
 rw [hm ι a hval,hk ι a hval]
 have hfind:(Instr.findKey kt (ren ι k) (#[]:Array MapEntry).toList).run P w=.ok none w:=by
  simp [Instr.findKey,run_und hd,Instr.findNow]
 simp only [ren,Instr.lookup,Sem.run_bind,run_und hu,Result.andThen_ok,Sem.run_pure,hM.chk k hkf,hfind,hzero ι]
 cases ok<;>simp [ren,renL]
theorem hit_den (ok:Bool) (x:Bool × List SC) (ρ:Rho):(hitV ok x).den ρ=(if ok then .tup [den1 ρ x,.bool true] else den1 ρ x):=by cases ok<;>rfl
theorem miss_den (ok:Bool) (x:Bool × List SC) (ρ:Rho):(missV ok x).den ρ=(if ok then .tup [den1 ρ x,.bool false] else den1 ρ x):=by cases ok<;>rfl
theorem lka_ok {g b:Nat} {k:SV} {ok:Bool} {zr:Bool × List SC} {K:SV->SS->R} {es:List (AV × AV)} {z:AV} (h:(lka cf g b k ok zr s K).Ok) (hk:Ok c T G Γ ρ s) (hz:∀ρ,den1 ρ zr=z) (hks:keyS .str k=true) (hat:∀l n,findA (.str l n) es=((Γ.gd (ig ρ g)).at_ l n).map fun j=>.int .i64 (.ofNat j)) (hb:∀l n j,(Γ.gd (ig ρ g)).at_ l n=some j->j<(Γ.gd (ig ρ g)).n b)
  (hl:LVG c.P ops c.n0 c.nt i T .e (Rex.z 0) G (match findA (k.den ρ) es with | some v=>(if ok then .tup [v,.bool true] else v) | none=>(if ok then .tup [z,.bool false] else z))):Lo c T G Γ ops i s ρ K:=by
 have miss:(K (missV ok zr) s).Ok->findA (k.den ρ) es=none->Lo c T G Γ ops i s ρ K:=fun h hf=>by
  rw [hf] at hl
  exact Lo.here hk h (by rw [miss_den,hz]; exact hl)
 unfold lka at h
 split at h
 · rename_i x d hgd
   have hdd:=ghost_ok hgd hk
   rw [hdd] at hat hb
   obtain⟨l,m,ek⟩:=keyS_ok hks ρ
   have ek':x.den ρ=.str l m:=ek
   rw [ek,hat] at hl
   cases ha:lkAt s.ats d x with
   | some e =>
     rw [ha] at h
     simp only at h
     obtain⟨x',m1,m2⟩:=lkAt_ok ha
     cases he:ent s e with
     | true =>
       rw [he] at h
       have hpos:=ent_ok he hk.sat
       rcases hk.sat.ats _ m1 with ⟨q1,q2⟩ | ⟨q1,_⟩
       · have q2:atV (ρ d).gg (x'.den ρ)=some (e.ev ρ).toNat:=q2
         have q1:0<=e.ev ρ:=q1
         rw [m2 ρ,ek'] at q2
         have q2:(ρ d).gg.at_ l m=some (e.ev ρ).toNat:=q2
         rw [q2] at hl
         have hlt:=hb l m _ q2
         refine Lo.to (s':=addF s (((LE.a (.gn d b)).sub e).addc (-1))) rfl (Lo.here (hk.addF ?_) h ?_)
         · rw [LE.ev_addc,LE.ev_sub,LE.ev_a]
           show 0<=(((ρ d).gg.n b:Nat):Int)-e.ev ρ+-1
           omega
         rw [hit_den]
         have e1:den1 ρ (false,[SC.int .i64 e])=.int .i64 (.ofNat (e.ev ρ).toNat):=by show AV.int .i64 (e.ev ρ)=_; congr 1; exact (Int.toNat_of_nonneg q1).symm
         rw [e1]; exact hl
       · have q1:e.ev ρ<0:=q1
         omega
     | false =>
       rw [he] at h
       simp only [cond_false] at h
       cases he2:ent s ((LE.k (-1)).sub e) with
       | false=>rw [he2] at h; cases h
       | true =>
         rw [he2] at h
         have hneg:=ent_ok he2 hk.sat
         rw [LE.ev_sub,LE.ev_k] at hneg
         rcases hk.sat.ats _ m1 with ⟨q1,_⟩ | ⟨_,q2⟩
         · have q1:0<=e.ev ρ:=q1
           omega
         · have q2:atV (ρ d).gg (x'.den ρ)=none:=q2
           rw [m2 ρ,ek'] at q2
           have q2:(ρ d).gg.at_ l m=none:=q2
           exact miss h (by rw [ek,hat,q2]; rfl)
   | none =>
     rw [ha] at h
     simp only at h
     cases hbb:(x.lt s.nx&&Nat.blt d s.nx) with
     | false=>rw [hbb] at h; cases h
     | true =>
       rw [hbb] at h
       simp only [cond_true] at h
       rw [Bool.and_eq_true] at hbb
       obtain⟨h1,h2⟩:=R.and_ok h
       cases hj:(ρ d).gg.at_ l m with
       | none =>
         rw [hj] at hl
         refine Lo.to (s':=addAt s (d,x,.k (-1))) rfl (Lo.here (hk.addAt (p:=(d,x,.k (-1))) (.inr ⟨by rw [LE.ev_k]; decide,?_⟩)) h1 (by rw [miss_den,hz]; exact hl))
         show atV (ρ d).gg (x.den ρ)=none
         rw [ek']; exact hj
       | some j =>
         rw [hj] at hl
         obtain⟨k1,k2,k3,k4⟩:=fresh_ok h2 hk (.n j)
         have hev:(LE.a (.n s.nx)).ev (ρ.up s.nx (.n j))=j:=by rw [LE.ev_a]; show ((ρ.up s.nx (.n j) s.nx).nn:Int)=j; rw [k4]; rfl
         have hd2:=k2 d (blt_ok hbb.2)
         refine Pst.mk k2 (Nat.le_succ _) ((k3.addF ?_).addAt ?_) ⟨_,k1,?_⟩
         · rw [LE.ev_addc,LE.ev_sub,hev,LE.ev_a]
           show 0<=(((ρ.up s.nx (.n j) d).gg.n b:Nat):Int)-j+-1
           rw [hd2]
           have:=hb l m j hj
           omega
         · refine .inl ?_
           show 0<=(LE.a (.n s.nx)).ev _/\atV (ρ.up s.nx (.n j) d).gg (x.den (ρ.up s.nx (.n j)))=some ((LE.a (.n s.nx)).ev _).toNat
           rw [hev,hd2,SC.agr k2 hbb.1,ek']
           exact⟨Int.natCast_nonneg _,hj⟩
         · rw [hit_den]
           have e1:den1 (ρ.up s.nx (.n j)) (false,[SC.int .i64 (.a (.n s.nx))])=.int .i64 (.ofNat j):=by show AV.int .i64 ((LE.a (.n s.nx)).ev _)=_; rw [hev]; rfl
           rw [e1]; exact hl
 · cases h
theorem lkd_ok {g:Nat} {cc:Nat} {k:SV} {ok:Bool} {zr:Bool × List SC} {K:SV->SS->R} {es:List (AV × AV)} {z:AV} (hΦ:cf.Φ=c.Φ) (h:(lkd cf g (c.Φ.mv cc) k ok zr s K).Ok) (hk:Ok c T G Γ ρ s) (hz:∀ρ,den1 ρ zr=z) (hks:keyS (c.Φ.pk cc) k=true) (hM:MapOk c.P c.Φ G Γ cc (ig ρ g) es)
  (hl:LVG c.P ops c.n0 c.nt i T .e (Rex.z 0) G (match findA (k.den ρ) es with | some v=>(if ok then .tup [v,.bool true] else v) | none=>(if ok then .tup [z,.bool false] else z))):Lo c T G Γ ops i s ρ K:=by
 obtain⟨hkeys,hM⟩:=hM
 have miss:(K (missV ok zr) s).Ok->findA (k.den ρ) es=none->Lo c T G Γ ops i s ρ K:=fun h hf=>by
  rw [hf] at hl
  exact Lo.here hk h (by rw [miss_den,hz]; exact hl)
 unfold lkd at h
 cases hmv:c.Φ.mv cc with
 | kd kd =>
   rw [hmv] at h hM
   simp only at h hM
   cases hb:(igLt s.nx g&&ltO s.nx (ghost s.gs g)) with
   | false=>rw [hb] at h; cases h
   | true =>
     rw [hb] at h
     simp only [cond_true] at h
     rw [Bool.and_eq_true] at hb
     obtain⟨h1,h2⟩:=R.and_ok h
     cases hf:findA (k.den ρ) es with
     | none=>exact miss h1 hf
     | some v =>
       rw [hf] at hl
       obtain⟨p,m1,rfl⟩:=findA_mem hf
       obtain⟨fs,kv,kf⟩:=hM p m1
       refine (rdK_ok h2 hΦ hk hb.1 (J:=0) (fun dv hd=>?_) ⟨rfl,by rw [LE.ev_k]; exact Int.le_refl _,by rw [LE.ev_k]; rfl⟩ kv kf).mono fun ρ' s' a1 n1 o1 hh=>?_
       · have:=hb.2; rw [hd] at this; exact⟨blt_ok this,ghost_ok hd hk⟩
       · obtain⟨x,o,g1,g2,_⟩:=hh
         refine⟨_,g1,?_⟩
         rw [hit_den]
         show LVG _ _ _ _ _ _ _ _ _ (if ok then .tup [x.den ρ',.bool true] else x.den ρ')
         rw [g2]; exact hl
 | unit =>
   rw [hmv] at h hM
   simp only at h hM
   obtain⟨h1,h2⟩:=R.and_ok h
   cases hf:findA (k.den ρ) es with
   | none=>exact miss h1 hf
   | some v =>
     rw [hf] at hl
     obtain⟨p,m1,rfl⟩:=findA_mem hf
     rw [hM p m1] at hl
     exact Lo.here hk h2 (by rw [hit_den]; exact hl)
 | atv b =>
   rw [hmv] at h hM
   simp only at h hM
   obtain⟨hpk,_,hat,hb⟩:=hM
   rw [hpk] at hks
   exact lka_ok h hk hz hks hat hb hl
 | fiv =>
   rw [hmv] at h hM
   simp only at h hM
   obtain⟨hpk,_,hrs,hfi⟩:=hM
   split at h
   · rename_i x y d hgd
     have hdd:=ghost_ok hgd hk
     rw [hdd] at hrs hfi
     rw [hpk] at hks
     obtain⟨l,m,l2,m2,ek⟩:=keyS_ok hks ρ
     have ek0:AV.agg [x.den ρ,y.den ρ]=.agg [.str l m,.str l2 m2]:=ek
     have ek':x.den ρ=.str l m:=by injection ek0 with e; exact (List.cons.inj e).1
     cases hbb:(x.lt s.nx&&Nat.blt d s.nx) with
     | false=>rw [hbb] at h; cases h
     | true =>
       rw [hbb] at h
       simp only [cond_true] at h
       rw [Bool.and_eq_true] at hbb
       obtain⟨h1,h2⟩:=R.and_ok h
       cases hf:findA (SV.den ρ (SV.v true [x,y])) es with
       | none=>exact miss h1 hf
       | some v =>
         rw [hf] at hl
         obtain⟨p,m1,rfl,m3⟩:=findA_hit hf
         obtain⟨a,an,b,bn,q,j,e1,e2,e3,e4,e5⟩:=hfi p m1
         rw [ek,e1] at m3
         have m3:(strEq l m a an&&strEq l2 m2 b bn)=true:=m3
         rw [Bool.and_eq_true] at m3
         have hat:(ρ d).gg.at_ l m=some j:=by rw [hrs l m a an m3.1]; exact e4
         obtain⟨k1,k2,k3,k4⟩:=fresh_ok h2 hk (.n j)
         obtain⟨r1,r2,r3,r4⟩:=fresh_ok k1 k3 (.n ((ρ d).gg.fl j))
         obtain⟨t1,t2,t3,t4⟩:=fresh_ok r1 r3 (.n q)
         have hd:=blt_ok hbb.2
         have A:Agr s.nx ρ (((ρ.up s.nx (.n j)).up (s.nx+1) (.n ((ρ d).gg.fl j))).up (s.nx+2) (.n q)):=fun w hw=>by simp only [Rho.up]; rw [if_neg (by omega),if_neg (by omega),if_neg (by omega)]
         have v1:(LE.a (.n s.nx)).ev (((ρ.up s.nx (.n j)).up (s.nx+1) (.n ((ρ d).gg.fl j))).up (s.nx+2) (.n q))=j:=by rw [LE.ev_a]; simp [At.ev,Rho.up,U.nn]
         have v2:(LE.a (.n (s.nx+1))).ev (((ρ.up s.nx (.n j)).up (s.nx+1) (.n ((ρ d).gg.fl j))).up (s.nx+2) (.n q))=((ρ d).gg.fl j:Nat):=by rw [LE.ev_a]; simp [At.ev,Rho.up,U.nn]
         have v3:(LE.a (.n (s.nx+2))).ev (((ρ.up s.nx (.n j)).up (s.nx+1) (.n ((ρ d).gg.fl j))).up (s.nx+2) (.n q))=q:=by rw [LE.ev_a]; simp [At.ev,Rho.up,U.nn]
         refine Pst.mk A (by show s.nx<=s.nx+1+1+1; omega) (((t3.addF (e:=((LE.a (.n (s.nx+1))).sub (.a (.n (s.nx+2)))).addc (-1)) ?_).addAt (p:=(d,x,.a (.n s.nx))) ?_).addFl (p:=(d,.a (.n s.nx),.a (.n (s.nx+1)))) ?_) ⟨_,t1,?_⟩
         · refine Eq.subst (motive:=fun y=>0<=y) (LE.ev_addc _ _ _).symm ?_
           rw [LE.ev_sub]
           have v2':=v2
           have v3':=v3
           show 0<=(LE.a (.n (s.nx+1))).ev _-(LE.a (.n (s.nx+2))).ev _+-1
           refine le_of_le_of_eq (b:=((ρ d).gg.fl j:Int)-q+-1) (by omega) ?_
           congr 2
           · exact v2.symm
           · exact v3.symm
         · refine .inl ?_
           show 0<=(LE.a (.n s.nx)).ev _/\atV _ _=some ((LE.a (.n s.nx)).ev _).toNat
           refine⟨by show 0<=(LE.a (.n s.nx)).ev (((ρ.up s.nx (.n j)).up (s.nx+1) (.n ((ρ d).gg.fl j))).up (s.nx+2) (.n q)); rw [v1]; exact Int.natCast_nonneg _,?_⟩
           show atV ((((ρ.up s.nx (.n j)).up (s.nx+1) (.n ((ρ d).gg.fl j))).up (s.nx+2) (.n q)) d).gg (x.den (((ρ.up s.nx (.n j)).up (s.nx+1) (.n ((ρ d).gg.fl j))).up (s.nx+2) (.n q)))=some ((LE.a (.n s.nx)).ev (((ρ.up s.nx (.n j)).up (s.nx+1) (.n ((ρ d).gg.fl j))).up (s.nx+2) (.n q))).toNat
           rw [v1,A d hd,SC.agr A hbb.1,ek']
           exact hat
         · show 0<=(LE.a (.n s.nx)).ev (((ρ.up s.nx (.n j)).up (s.nx+1) (.n ((ρ d).gg.fl j))).up (s.nx+2) (.n q))/\((((ρ.up s.nx (.n j)).up (s.nx+1) (.n ((ρ d).gg.fl j))).up (s.nx+2) (.n q)) d).gg.fz=true/\((((((ρ.up s.nx (.n j)).up (s.nx+1) (.n ((ρ d).gg.fl j))).up (s.nx+2) (.n q)) d).gg.fl ((LE.a (.n s.nx)).ev (((ρ.up s.nx (.n j)).up (s.nx+1) (.n ((ρ d).gg.fl j))).up (s.nx+2) (.n q))).toNat:Nat):Int)=(LE.a (.n (s.nx+1))).ev (((ρ.up s.nx (.n j)).up (s.nx+1) (.n ((ρ d).gg.fl j))).up (s.nx+2) (.n q))
           rw [v1,v2,A d hd]
           exact⟨Int.natCast_nonneg _,e3,rfl⟩
         · rw [hit_den]
           have ee:den1 (((ρ.up s.nx (.n j)).up (s.nx+1) (.n ((ρ d).gg.fl j))).up (s.nx+2) (.n q)) (false,[SC.int .i64 (.a (.n (s.nx+2)))])=.int .i64 (.ofNat q):=by show AV.int .i64 ((LE.a (.n (s.nx+2))).ev _)=_; rw [v3]; rfl
           rw [e2] at hl
           show LVG _ _ _ _ _ _ _ _ _ (if ok then .tup [den1 (((ρ.up s.nx (.n j)).up (s.nx+1) (.n ((ρ d).gg.fl j))).up (s.nx+2) (.n q)) (false,[SC.int .i64 (.a (.n (s.nx+2)))]),.bool true] else den1 (((ρ.up s.nx (.n j)).up (s.nx+1) (.n ((ρ d).gg.fl j))).up (s.nx+2) (.n q)) (false,[SC.int .i64 (.a (.n (s.nx+2)))]))
           rw [ee]; exact hl
   · cases h
theorem lko_ok {t:TypeId} {x y:Operand} {v u:SV} {ok:Bool} {K:SV->SS->R} (ho:(opAt ops i).op=.lookup t x y ok) (hg:(opAt ops i).guard=none) (hP:cf.P=c.P) (hΦ:cf.Φ=c.Φ) (hK:KeysOk cf) (h:(lko cf t v u ok s K).Ok) (hk:Ok c T G Γ ρ s) (hx:EvA c.nt T x (v.den ρ)) (hy:EvA c.nt T y (u.den ρ)):Lo c T G Γ ops i s ρ K:=by
 unfold lko at h
 rw [hP] at h
 split at h
 · rename_i kt et hu
   split at h
   · rename_i ag cs hz
     cases hzz:zeroOf c.P et with
     | none=>rw [hzz] at hz; cases hz
     | some zz =>
       rw [hzz] at hz
       have hz:svA zz=some (.v ag cs):=hz
       have hz1:∀ρ,den1 ρ (ag,cs)=zz:=fun ρ=>svA_ok hz ρ
       split at h
       · have key:∀pk,keyT cf kt pk=true->keyS pk u=true->(K (missV ok (ag,cs)) s).Ok->Lo c T G Γ ops i s ρ K:=fun pk h1 h2 h=>by
          have hMt:=keyT_ok h1 hK
          rw [hP] at hMt
          exact Lo.here hk h (by rw [miss_den,hz1]; exact LVG.lookupNil hg ho hu hzz hMt hx hy (keyS_ok h2 ρ))
         cases hb:(keyT cf kt .str&&keyS .str u||(keyT cf kt .pair&&keyS .pair u||(keyT cf kt .int&&keyS .int u||keyT cf kt .ipair&&keyS .ipair u))) with
         | false=>rw [hb] at h; cases h
         | true =>
           rw [hb] at h
           simp only [Bool.or_eq_true,Bool.and_eq_true] at hb
           rcases hb with ⟨h1,h2⟩ | ⟨h1,h2⟩ | ⟨h1,h2⟩ | ⟨h1,h2⟩
           · exact key _ h1 h2 h
           · exact key _ h1 h2 h
           · exact key _ h1 h2 h
           · exact key _ h1 h2 h
       · rename_i q
         cases hm:fMp s.ty q with
         | none=>rw [hm] at h; cases h
         | some p =>
           obtain⟨cc,g⟩:=p
           rw [hm] at h
           simp only at h
           rw [hΦ] at h
           cases hb:(keyT cf kt (c.Φ.pk cc)&&keyS (c.Φ.pk cc) u) with
           | false=>rw [hb] at h; cases h
           | true =>
             rw [hb] at h
             rw [Bool.and_eq_true] at hb
             have hMt:=keyT_ok hb.1 hK
             rw [hP] at hMt
             obtain⟨b,q1,q2⟩:=hk.ty (fMp_mem hm)
             obtain⟨_,es,r1,r2,r3⟩:=hk.q.ht.b _ _ q2
             have hx:EvA c.nt T x (.rmp b):=by have hx:EvA c.nt T x (ρ q).vv:=hx; rw [q1] at hx; exact hx
             exact lkd_ok hΦ h hk hz1 hb.2 r3 (LVG.lookup hg ho hu hzz hMt hx hy (keyS_ok hb.2 ρ) r1 r3.1)
       · cases h
   · cases h
 · cases h
end
end Go.Rd
namespace Go.Rd
open Go.Rex Go.RowKit Go.Rt
def wv (s:SS) (x:Operand) (K:SV->R):R:=match opv s x with | some v=>K v | none=>.bad 10 s
def lop (cf:Cf) (o:Op) (s:SS) (K:SV->SS->R):R:=match o with
 | .move x=>wv s x fun v=>K v s
 | .assign x=>wv s x fun v=>K v s
 | .extract x k=>wv s x fun v=>exo v k s K
 | .field t x f=>wv s x fun v=>fio cf t v f s K
 | .pick x a b=>wv s x fun v=>pko v (opv s a) (opv s b) s K
 | .build t ps=>bdo cf t ps.toList s K
 | .unOp .not _ x=>wv s x fun v=>nto v s K
 | .binOp op t x y _=>wv s x fun v=>wv s y fun u=>bop cf op t v u s K
 | .fieldAddr t (.tmp x) f=>wv s (.tmp x) fun v=>fao cf t v f s K
 | .nilCheck (.tmp x)=>wv s (.tmp x) fun v=>nco v s K
 | .load t (.tmp x)=>wv s (.tmp x) fun v=>ldo cf t v s K
 | .indexAddr t (.tmp x) y=>wv s (.tmp x) fun v=>wv s y fun u=>ixo cf t v u s K
 | .lookup t x y ok=>wv s x fun v=>wv s y fun u=>lko cf t v u ok s K
 | .index t x y=>wv s x fun v=>wv s y fun u=>sio cf t v u s K
 | .slice t x none (some (.tmp y)) none=>wv s x fun v=>wv s (.tmp y) fun u=>sso cf t v u s K
 | .convert t t' x=>wv s x fun v=>cvo cf t t' v s K
 | .call cl=>(match cl.callee,cl.args.toList,cl.argTypes.toList with
   | .builtin .len,[x],t::_=>wv s x fun v=>leo cf t v s K
   | _,_,_=>.bad 12 s)
 | _=>.bad 11 s
section
variable {c:Cx} {T:Tm} {G:GH} {Γ:Gam} {ρ ρ':Rho} {s s':SS} {cf:Cf} {ops:Array Oper} {i:Nat}
theorem wv_ok {x:Operand} {K:SV->R} (h:(wv s x K).Ok) (hk:Ok c T G Γ ρ s):∃v,(K v).Ok/\opv s x=some v/\EvA c.nt T x (v.den ρ):=by
 unfold wv at h
 cases hx:opv s x with
 | none=>rw [hx] at h; cases h
 | some v=>rw [hx] at h; exact⟨v,h,rfl,opv_ok hx hk.q⟩
theorem lop_ok {K:SV->SS->R} (hg:(opAt ops i).guard=none) (hP:cf.P=c.P) (hΦ:cf.Φ=c.Φ) (hK:KeysOk cf) (h:(lop cf (opAt ops i).op s K).Ok) (hk:Ok c T G Γ ρ s):Lo c T G Γ ops i s ρ K:=by
 unfold lop at h
 split at h
 · rename_i x ho; obtain⟨v,h,_,e⟩:=wv_ok h hk; exact Lo.here hk h (LVG.movE hg (.inl ho) e)
 · rename_i x ho; obtain⟨v,h,_,e⟩:=wv_ok h hk; exact Lo.here hk h (LVG.movE hg (.inr ho) e)
 · rename_i ho; obtain⟨v,h,_,e⟩:=wv_ok h hk; exact exo_ok ho hg h hk e
 · rename_i ho; obtain⟨v,h,_,e⟩:=wv_ok h hk; exact fio_ok ho hg hP h hk e
 · rename_i ho; obtain⟨v,h,_,e⟩:=wv_ok h hk; exact pko_ok ho hg h hk e (fun u hu=>opv_ok hu hk.q) (fun u hu=>opv_ok hu hk.q)
 · rename_i ho; exact bdo_ok ho hg hP h hk
 · rename_i ho; obtain⟨v,h,_,e⟩:=wv_ok h hk; exact nto_ok ho hg h hk e
 · rename_i ho; obtain⟨v,h,_,e⟩:=wv_ok h hk; obtain⟨u,h,_,e'⟩:=wv_ok h hk; exact bop_ok ho hg hP h hk e e'
 · rename_i ho; obtain⟨v,h,e0,e⟩:=wv_ok h hk; exact fao_ok ho hg hP h hk (opv_tmp e0 hk.q)
 · rename_i ho; obtain⟨v,h,e0,e⟩:=wv_ok h hk; exact nco_ok ho hg h hk (opv_tmp e0 hk.q)
 · rename_i ho; obtain⟨v,h,e0,e⟩:=wv_ok h hk; exact ldo_ok ho hg hP hΦ h hk (opv_tmp e0 hk.q)
 · rename_i ho; obtain⟨v,h,e0,e⟩:=wv_ok h hk; obtain⟨u,h,_,e'⟩:=wv_ok h hk; exact ixo_ok ho hg hP hΦ h hk (opv_tmp e0 hk.q) e'
 · rename_i ho; obtain⟨v,h,_,e⟩:=wv_ok h hk; obtain⟨u,h,_,e'⟩:=wv_ok h hk; exact lko_ok ho hg hP hΦ hK h hk e e'
 · rename_i ho; obtain⟨v,h,_,e⟩:=wv_ok h hk; obtain⟨u,h,_,e'⟩:=wv_ok h hk; exact sio_ok ho hg hP h hk e e'
 · rename_i ho; obtain⟨v,h,_,e⟩:=wv_ok h hk; obtain⟨u,h,e0,e'⟩:=wv_ok h hk; exact sso_ok ho hg hP hΦ h hk e (opv_tmp e0 hk.q)
 · rename_i ho; obtain⟨v,h,_,e⟩:=wv_ok h hk; exact cvo_ok ho hg hP h hk e
 · rename_i cl ho
   split at h
   · rename_i x t ats h1 h2 h3
     obtain⟨v,h,_,e⟩:=wv_ok h hk
     exact leo_ok ho h1 h3 h2 hg hP h hk e
   · cases h
 · cases h
theorem Lo.map {ops':Array Oper} {K:SV->SS->R} (h:Lo c T G Γ ops' i s ρ K) (hh:∀v,LVG c.P ops' c.n0 c.nt i T .e (z 0) G v->LVG c.P ops c.n0 c.nt i T .e (z 0) G v):Lo c T G Γ ops i s ρ K :=
 Pst.mono h fun ρ' s' a n o hx=>by obtain⟨v,h1,h2⟩:=hx; exact⟨v,h1,hh _ h2⟩
theorem clr_guard (ops:Array Oper) (i:Nat):(opAt (clrA ops) i).guard=none:=by rw [opAt_clr]
theorem clr_op (ops:Array Oper) (i:Nat):(opAt (clrA ops) i).op=(opAt ops i).op:=by rw [opAt_clr]
theorem clr_dst (ops:Array Oper) (i:Nat):(opAt (clrA ops) i).dst=(opAt ops i).dst:=by rw [opAt_clr]
end
end Go.Rd
namespace Go.Rex
open Go.RowKit
section
variable {P:Program}
theorem run_append_growW {ts tx e:TypeId} {i:TypeInfo} {z:Value} {d:TypeDesc} (hT:ApT P ts tx e i z d) {ty:TypeId} {w:World} {base:Option Addr} {len cap n:Nat} {x:Value} {old nw:List Value}
  (hx:(Builtin.lenOf x).run P w=.ok n w) (hf:(Builtin.firstCells (szOf P e) n x).run P w.drew=.ok nw.toArray w.drew)
  (ho:(Builtin.firstCells (szOf P e) len (.slice base len cap)).run P w.drew=.ok old.toArray w.drew) (hn:cap<len+n) (hsm:(16*(len+n)+12288)*i.bytes<=281474976710656) (hsl:len+n<=2199023255552) :
  ∃c rest,len+n<=c/\(Builtin.append_ #[ts,tx] ty #[.slice base len cap,x]).run P w=.ok (.slice (some ⟨w.heap.size,0,none⟩) (len+n) c) (w.drew.alloc (.cells (old++nw++rest).toArray e (0,0)))/\rest.length=(c-(len+n))*z.cells.size:=by
 have htx:=hT.tx
 have hni:=hT.ni
 have hcap:=nextcap_le hn
 have hb:Builtin.nextslicecap (len+n) cap*i.bytes<=(16*(len+n)+12288)*i.bytes:=Nat.mul_le_mul_right _ hcap
 have hmax:¬(((len+n:Nat):Int) > IntKind.i64.max/\i.bytes=0):=by
  have:IntKind.i64.max=9223372036854775807:=by decide
  rw [this]
  omega
 have ee:∀Z:Array Value,old.toArray++nw.toArray++Z=(old++nw++Z.toList).toArray:=fun Z=>by apply Array.ext'; simp
 have hbig:¬Builtin.nextslicecap (len+n) cap*i.bytes > 2 ^ 48:=by omega
 refine⟨(Question.appendCap (len+n) cap e).cut (w.tape w.drawn (.appendCap (len+n) cap e)),(Builtin.zeroCells z.cells ((Question.appendCap (len+n) cap e).cut (w.tape w.drawn (.appendCap (len+n) cap e))-(len+n))).toList,?_,?_,?_⟩
 · simp only [Question.cut]; omega
 · cases d
   case int=>exact absurd rfl (hni _)
   all_goals
    simp only [Builtin.append_,List.getElem?_toArray,List.getElem?_cons_zero,List.getElem?_cons_succ]
    simp only [Sem.run_bind,run_und hT.ts,run_und htx,Result.andThen_ok,Sem.run_pure,run_size hT.inf,Bool.false_eq_true,if_false,hx,Sem.run_ite]
    rw [if_neg (by omega)]
    simp only [Sem.run_bind,run_typ hT.inf,Result.andThen_ok,Sem.run_ite,false_or,if_neg hmax,if_neg hbig]
    simp only [Sem.run_bind,run_choose,Question.forced,Bool.false_eq_true,if_false,Result.andThen_ok,run_askRoom]
    have e1:({ w with drawn:=w.drawn+1 }:World)=w.drew:=rfl
    simp only [e1,Sem.run_pure,Result.andThen_ok,run_typ hT.inf,Bool.not_false,if_true,ho,hf,run_askRoom,Sem.run_bind,zeroValue,hT.zer,newRow,run_newObj,ee]
    rfl
 · simp [Builtin.zeroCells]
end
section
variable {P:Program} {n0 nt:Nat} {T T2:Tm} {hp H:Tr AO} {nx X:Pz} {G:GH} {ops:Array Oper} {light:List Nat} {i m d:Nat} {v u:AV}
theorem StG.appendW {c:Call} {ts tx e:TypeId} {ys yx:Operand} {len m:Nat} {E L:List AV} {d0:TypeDesc} {z:AV} {R:Tm->Tr AO->Pz->GH->Prop} (hg:(opAt ops i).guard=none) (hd:(opAt ops i).dst=some d) (hlt:d<nt)
  (ho:(opAt ops i).op=.call c) (hc:c.callee=.builtin .append) (ht:c.argTypes.toList=[ts,tx]) (hx:c.args.toList=[ys,yx]) (hts:P.underlying ts=some (.slice e)) (htx:P.underlying tx=some d0) (hni:∀k,d0≠.int k)
  (hz:zeroOf P e=some z) (hgz:(Nat.ble (P.bytesOf e) 1000000&&(Nat.beq z.cells.length (szOf P e)&&Nat.blt 0 (szOf P e)))=true) (hsv:EvA nt T ys v) (hxv:EvA nt T yx u)
  (hs:Ext G v e (szOf P e) len E) (hE:nfL E) (hsrc:SrcG P n0 nt T hp nx G (szOf P e) m u L) (hsm:(16*(len+m)+12288)*P.bytesOf e<=281474976710656) (hsl:len+m<=2199023255552)
  (hr:∀v' G',AppR n0 G G' v v' e (szOf P e) len m E L->nf v'->R (T.put d v') hp nx G'):StG P n0 nt ops i T hp nx G R:=by
 intro B w0 ι a w hsat
 refine .inl ⟨by simp [Region.wanted,hg],?_⟩
 rw [hd]
 have hval:=(hsat.1.2 ι (Agree.refl _ _)).1
 obtain⟨j,zv,q1,q2,q3,q4⟩:=zeroOf_ok hz
 simp only [Bool.and_eq_true] at hgz
 obtain⟨g1,g2,g3⟩:=hgz
 have g1:=ble_ok g1
 have g2:=beq_ok g2
 have g3:=blt_ok g3
 have hbytes:P.bytesOf e=j.bytes:=by unfold Program.bytesOf; rw [q1]; rfl
 have hT:ApT P ts tx e j zv d0:=⟨hts,htx,hni,q1,q2,by omega⟩
 have hzs:zv.cells.size=szOf P e:=by rw [<-absV_ren 8 zv z q3 ι,ren_cells]; simp [renL_length,g2]
 have hrun:(execOp a.eval (opAt ops i)).run P w=((Builtin.append_ #[ts,tx] (opAt ops i).type #[a.eval ys,a.eval yx]).run P w).andThen fun v w'=>.ok (.value v) w':=call_two ho hc ht hx (fun _ _ _ _=>rfl)
 obtain⟨hL1,hL2,hL4,hL3⟩:=hsrc
 obtain⟨hl1,hl2⟩:=hL3 B w0 ι a w hsat
 obtain⟨hl3,hl4⟩:=hL3 B w0 ι a w.drew (satG_drew hsat)
 have hev:a.eval yx=ren ι u:=hxv ι a hval
 have hfl:∀v∈renL ι L,oneV v=true:=renL_flat ι _ hL4
 -- a new block
 have grow:∀(base:Option Addr) (cap:Nat),a.eval ys=.slice base len cap->cap<len+m->E.length=len*szOf P e->(Builtin.firstCells (szOf P e) len (.slice base len cap)).run P w.drew=.ok (renL ι E).toArray w.drew ->
   Gives P (execOp a.eval (opAt ops i)) w fun cv w'=>∃T' hp' nx' G' ι2,R T' hp' nx' G'/\SatG n0 B w0 nt T' hp' nx' G' ι2 (a.put (some d) cv) w':=by
  intro base cap hsv hcap hEl hold
  obtain⟨c',rest,hc1,hc2,hc3⟩:=run_append_growW hT (ty:=(opAt ops i).type) (base:=base) (len:=len) (cap:=cap) (x:=ren ι u) (old:=renL ι E) (nw:=renL ι L) hl1 hl4 hold hcap (by rw [hbytes] at hsm; exact hsm) hsl
  have hnew:=satG_new (kd:=.data) (A:=(renL ι E++renL ι L++rest).toArray) (el:=e) (C:=E++L) hsat (nfL_append hE hL2) (by simp [renL_length]) (fun i hi=>by
   rw [<-renL_append,List.getElem?_toArray,List.getElem?_append_left (by rw [renL_length]; exact hi),renL_get])
  obtain⟨hsn,hn1,hn2⟩:=hnew
  have hlen:(E++L).length=(len+m)*szOf P e:=by rw [List.length_append,hEl,hL1,Nat.add_mul]
  refine .inl ⟨.slice (some ⟨w.heap.size,0,none⟩) (len+m) c',_,.inl (by rw [hrun,hsv,hev,hc2]; rfl),T.put d (.rsl w.heap.size 0 (len+m) c'),hp,nx,upd G w.heap.size (.cells .data e (renL ι E++renL ι L++rest).toArray.size (E++L)),ι,hr _ _ (.inr (.inr ⟨w.heap.size,c',_,hn1,hn2,rfl,hc1,?_,rfl⟩)) (nf_rsl _ _ _ _),?_⟩
  · simp only [List.size_toArray,List.length_append,renL_length,hEl,hL1,hc3,hzs]
    rw [<-Nat.add_mul,<-Nat.add_mul]
    exact Nat.mul_le_mul_right _ (by omega)
  · exact satG_put hsn hlt (nf_rsl _ _ _ _) (by simp [ren,radr_zero])
 rcases hs with ⟨rfl,rfl,rfl⟩ | ⟨b,o,cap,size,C,rfl,hb,hoC,hdrop,hsz,hlc⟩
 · have hsv:a.eval ys=.slice none 0 0:=by rw [hsv ι a hval]; simp [ren]
   by_cases hm0:m=0
   · subst hm0
     have hL0:L=[]:=List.length_eq_zero_iff.1 (by rw [hL1]; simp)
     subst hL0
     have:=run_append_none hT (ty:=(opAt ops i).type) (x:=ren ι u) (nw:=renL ι []) hl1 hl2
     refine .inl ⟨.slice none 0 0,w,.inl (by rw [hrun,hsv,hev,this]; rfl),T.put d .nils,hp,nx,G,ι,hr _ _ (.inl ⟨rfl,rfl,rfl,rfl,rfl⟩) nf_nils,satG_put hsat hlt nf_nils (by simp [ren,radr_zero])⟩
   · exact grow none 0 hsv (by omega) (by simp) (by simp [Builtin.firstCells,renL])
 · have hsv:a.eval ys=.slice (some (radr b o len cap)) len cap:=by rw [hsv ι a hval]; simp [ren]
   obtain⟨hnC,A,fz,h1,h2,h3,h4,h5⟩:=hsat.2.1 b _ hb
   obtain⟨hnB,hfz⟩:=h5 (fun e=>by cases e)
   have hEl:E.length=len*szOf P e:=by rw [<-hdrop,List.length_take,List.length_drop]; omega
   by_cases hcap:len+m<=cap
   · have hms:(len+m)*szOf P e<=cap*szOf P e:=Nat.mul_le_mul_right _ hcap
     rw [Nat.add_mul] at hms
     have hcan:CanPut w b (o+len*szOf P e) (renL ι L).length:=by rw [renL_length,hL1]; exact canPut_of h1 (by omega) hfz
     have hrun2:=run_append_fitR hT (ty:=(opAt ops i).type) (b:=b) (o:=o) (len:=len) (cap:=cap) (x:=ren ι u) (nw:=renL ι L) (by rw [renL_length,hL1]) hl1 hl2 hcap hfl hcan
     have hnb:∀id ob,hp.get id=some ob->own hp ob->ι.blk id≠b:=fun id ob hid hown e=>by
      have:=hsat.2.2.1 id ob hid hown
      rw [e,hb] at this; cases this
     have hk:Kept (fun k=>B k∨ownB hp ι k) w (putCells w b (o+len*szOf P e) (renL ι L)):=putCells_below _ _ _ _ (by
      rintro (hB | ⟨id,ob,hid,hown,e⟩)
      · exact hnB hB
      · exact hnb id ob hid hown e) (Kept.refl _ _)
     have hgh:GhOk B (putCells w b (o+len*szOf P e) (renL ι L)) b (.cells .data e size (overL C (o+len*szOf P e) L)):=by
      refine⟨nfL_append (nfL_append (nfL_take _ hnC) hL2) (nfL_drop _ hnC),arrayPut A (o+len*szOf P e) (renL ι L),fz,putCells_block (renL ι L) w b (o+len*szOf P e) A e fz h1,by rw [arrayPut_size]; exact h2,?_,fun k hk' _ ι'=>?_,fun _=>⟨hnB,by rw [arrayPut_size]; exact hfz⟩⟩
      · rw [overL_length hoC,hL1]; omega
      · rw [overL_length hoC] at hk'
        rw [arrayPut_get _ _ _ _ (by rw [renL_length,hL1]; omega),overL_get hoC,renL_length]
        by_cases hlo:o+len*szOf P e<=k/\k<o+len*szOf P e+L.length
        · rw [if_pos hlo,if_pos hlo,renL_get]
          cases hc':L[k-(o+len*szOf P e)]? with
          | none=>rfl
          | some q=>exact congrArg some (hL2 q (List.mem_of_getElem? hc') ι ι')
        · rw [if_neg hlo,if_neg hlo]
          exact h4 k (by omega) (fun h=>by cases h) ι'
     have hsn:=satG_upd (b:=b) (g:=.cells .data e size (overL C (o+len*szOf P e) L)) hsat hk (fun k g' hne _=>putCells_ne _ _ _ _ _ hne) hgh hnb
     exact .inl ⟨.slice (some (radr b o (len+m) cap)) (len+m) cap,_,.inl (by rw [hrun,hsv,hev,hrun2]; rfl),T.put d (.rsl b o (len+m) cap),hp,nx,_,ι,hr _ _ (.inr (.inl ⟨b,o,cap,size,C,rfl,hb,rfl,hcap,hsz,hoC,rfl⟩)) (nf_rsl _ _ _ _),satG_put hsn hlt (nf_rsl _ _ _ _) (by simp [ren,radr_zero])⟩
   · exact grow _ cap hsv (by omega) hEl (by
      rw [first_ofR (l:=renL ι E) (by rw [renL_length,hEl]) fun j hj=>?_]
      show (w.drew).cell? _=_
      rw [show (w.drew).cell? ⟨b,o+j,none⟩=w.cell? ⟨b,o+j,none⟩ from rfl,told_cells hsat hb _ (by omega),renL_get,<-hdrop,List.getElem?_take_of_lt hj,List.getElem?_drop])
theorem satG_row {kd:BK} {el:TypeId} {C:List AV} {B:Nat->Prop} {w0 w:World} {ι:En} {a:Act} (hs:SatG n0 B w0 nt T hp nx G ι a w) (hC:nfL C) :
  SatG n0 B w0 nt T hp nx (upd G w.heap.size (.cells kd el C.length C)) ι a (w.alloc (.cells (renL ι C).toArray el (0,0)))/\n0<=w.heap.size/\G w.heap.size=none:=by
 refine satG_al (g:=.cells kd el C.length C) (y:=.cells (renL ι C).toArray el (0,0)) hs fun hB=>?_
 refine⟨hC,_,(0,0),heap_alloc_at w _,by simp [renL_length],Nat.le_refl _,fun q hq _ ι'=>?_,fun _=>⟨fun h=>absurd (hB _ h) (by omega),.inl rfl⟩⟩
 rw [List.getElem?_toArray,renL_get]
 cases hc':C[q]? with
 | none=>rfl
 | some x=>exact congrArg some (hC x (List.mem_of_getElem? hc') _ _)
theorem StG.allocE (kd:BK) {e:TypeId} {z:AV} {R:Tm->Tr AO->Pz->GH->Prop} (hg:(opAt ops i).guard=none) (hd:(opAt ops i).dst=some d) (hlt:d<nt) (ho:(opAt ops i).op=.alloc e) (hz:zeroOf P e=some z) (hnf:nfL z.cells)
  (hr:∀b,n0<=b->G b=none->R (T.put d (.rpt b 0)) hp nx (upd G b (.cells kd e z.cells.length z.cells))):StG P n0 nt ops i T hp nx G R:=by
 intro B w0 ι a w hs
 refine .inl ⟨by simp [Region.wanted,hg],?_⟩
 rw [hd]
 obtain⟨j,zv,h1,h2,h3,h4⟩:=zeroOf_ok hz
 have hrun:(execOp a.eval (opAt ops i)).run P w=.ok (.value (.pointer (some ⟨w.heap.size,0,none⟩))) (w.alloc (.cells (renL ι z.cells).toArray e (0,0))):=by
  simp only [execOp,ho,Instr.alloc,Sem.run_bind,h4 ι,Result.andThen_ok,newVar,newRow,run_newObj,Sem.run_pure,ren_cells]
  rfl
 obtain⟨q1,q2,q3⟩:=satG_row (kd:=kd) (el:=e) hs hnf
 exact .inl ⟨_,_,.inl hrun,_,_,_,_,ι,hr _ q2 q3,satG_put q1 hlt (nf_rpt _ _) (by simp [ren,radr_zero])⟩
theorem StG.boxE (kd:BK) {e:TypeId} {x:Operand} {R:Tm->Tr AO->Pz->GH->Prop} (hg:(opAt ops i).guard=none) (hd:(opAt ops i).dst=some d) (hlt:d<nt) (ho:(opAt ops i).op=.box e x) (hx:EvA nt T x v) (hnf:nfL v.cells)
  (hr:∀b,n0<=b->G b=none->R (T.put d (.rpt b 0)) hp nx (upd G b (.cells kd e v.cells.length v.cells))):StG P n0 nt ops i T hp nx G R:=by
 intro B w0 ι a w hs
 refine .inl ⟨by simp [Region.wanted,hg],?_⟩
 rw [hd]
 have hrun:(execOp a.eval (opAt ops i)).run P w=.ok (.value (.pointer (some ⟨w.heap.size,0,none⟩))) (w.alloc (.cells (renL ι v.cells).toArray e (0,0))):=by
  simp only [execOp,ho]
  rw [hx ι a (hs.1.2 ι (Agree.refl _ _)).1]
  simp only [Instr.box,Sem.run_bind,Result.andThen_ok,newVar,newRow,run_newObj,Sem.run_pure,ren_cells]
  rfl
 obtain⟨q1,q2,q3⟩:=satG_row (kd:=kd) (el:=e) hs hnf
 exact .inl ⟨_,_,.inl hrun,_,_,_,_,ι,hr _ q2 q3,satG_put q1 hlt (nf_rpt _ _) (by simp [ren,radr_zero])⟩
theorem StG.buildSliceE (kd:BK) {t e:TypeId} {len:Nat} {z:AV} {ps:Array (Nat × Operand)} {vs:List (Nat × AV)} {cs:List AV} {R:Tm->Tr AO->Pz->GH->Prop} (hg:(opAt ops i).guard=none) (hd:(opAt ops i).dst=some d) (hlt:d<nt) (ho:(opAt ops i).op=.buildSlice t len ps) (hu:P.underlying t=some (.slice e)) (hz:zeroOf P e=some z)
  (hgz:(Nat.ble len 10000&&(Nat.ble (szOf P e) 1000&&(Nat.beq z.cells.length (szOf P e)&&Nat.blt 0 (szOf P e))))=true) (hv:Rt.EvP nt T ps.toList vs) (h:Rt.fillA (fun i=>some (i*szOf P e,szOf P e)) vs (repl len z.cells)=some cs) (hnf:nfL cs) (hcs:cs.length=len*szOf P e)
  (hr:∀b,n0<=b->G b=none->R (T.put d (.rsl b 0 len len)) hp nx (upd G b (.cells kd e cs.length cs))):StG P n0 nt ops i T hp nx G R:=by
 intro B w0 ι a w hs
 refine .inl ⟨by simp [Region.wanted,hg],?_⟩
 rw [hd]
 have ha:=(hs.1.2 ι (Agree.refl _ _)).1
 simp only [Bool.and_eq_true] at hgz
 obtain⟨g1,g2,g3,g4⟩:=hgz
 have g1:=ble_ok g1
 have g2:=ble_ok g2
 have g3:=beq_ok g3
 have g4:=blt_ok g4
 obtain⟨j,zv,h1,h2,h3,h4⟩:=zeroOf_ok hz
 have hmul:len*szOf P e<=10000*1000:=Nat.mul_le_mul g1 g2
 have hfl:=Rt.fillA_ok ι h
 rw [<-Rt.EvP.map ha hv] at hfl
 have hrun:(execOp a.eval (opAt ops i)).run P w=.ok (.value (.slice (some ⟨w.heap.size,0,none⟩) len len)) (w.alloc (.cells (renL ι cs).toArray e (0,0))):=by
  simp only [execOp,ho,Instr.buildSlice,Sem.run_bind,run_und hu,Result.andThen_ok,run_size h1]
  rw [show (ps.map fun x=>match x with | (i,x)=>(i,a.eval x))=ps.map fun x=>(x.1,a.eval x.2) from rfl]
  simp only [Sem.run_ite]
  rw [if_neg (by simp; omega)]
  by_cases h0:len*szOf P e=0
  · have hl0:len=0:=by rcases Nat.mul_eq_zero.1 h0 with h | h<;>omega
    subst hl0
    have hfl0:Instr.fill (fun i=>some (i*szOf P e,szOf P e)) #[] (ps.map fun x=>(x.1,a.eval x.2)).toList=some (renL ι cs).toArray:=by rw [evals_parts]; exact hfl
    simp only [Nat.zero_mul,if_true,Sem.run_bind,Sem.run_pure,Result.andThen_ok]
    rw [show (Array.range 0).map ((#[]:Array Value)[·%(#[]:Array Value).size]!)=#[] by simp]
    rw [hfl0]
    simp only [Sem.run_bind,newRow,run_newObj,Sem.run_pure,Result.andThen_ok]
    rfl
  · have hfl':Instr.fill (fun i=>some (i*szOf P e,szOf P e)) ((Array.range (len*szOf P e)).map ((renL ι z.cells).toArray[·%(renL ι z.cells).toArray.size]!)) (ps.map fun x=>(x.1,a.eval x.2)).toList=some (renL ι cs).toArray:=by
     rw [evals_parts,<-g3,made_ren ι z.cells (by omega) len,g3]; exact hfl
    simp only [if_neg h0,Sem.run_bind,h4 ι,Result.andThen_ok,ren_cells,Sem.run_pure]
    rw [hfl']
    simp only [Sem.run_bind,newRow,run_newObj,Sem.run_pure,Result.andThen_ok]
    rfl
 obtain⟨q1,q2,q3⟩:=satG_row (kd:=kd) (el:=e) hs hnf
 exact .inl ⟨_,_,.inl hrun,_,_,_,_,ι,hr _ q2 q3,satG_put q1 hlt (nf_rsl _ _ _ _) (by simp [ren,radr_zero])⟩
end
end Go.Rex
namespace Go.Rt
open Go.Rex Go.RowKit
theorem blks_append (a b:List Own):blks (a++b)=blks a++blks b:=List.filterMap_append
theorem mem_blks {os:List Own} {b:Nat}:b∈blks os ↔ ∃o∈os,o.blk=some b:=List.mem_filterMap
theorem OwnOk.told {P:Program} {Φ:Forms} {G:GH} {Γ:Gam} {o:Own} (h:OwnOk P Φ G Γ o) {b:Nat} (hb:o.blk=some b):(G b).isSome=true:=by
 cases o with
 | loc b' el C=>cases hb; have h:G b=_:=h.1; rw [h]; rfl
 | map b' pk es=>cases hb; have h:G b=_:=h.1; rw [h]; rfl
 | lst v e ms =>
   rcases h.2.2 with ⟨rfl,_⟩ | ⟨b',cap,size,C,h1,h2,h3,h4⟩
   · cases hb
   · rw [h1] at hb; cases hb; rw [h3]; rfl
 | ul v c g n =>
   rcases h.2.2 with ⟨rfl,_⟩ | ⟨b',cap,size,C,h1,h2,h3,h4⟩
   · cases hb
   · rw [h1] at hb; cases hb; rw [h3]; rfl
 | am b' g k=>cases hb; obtain⟨_,_,_,es,h1,_⟩:=h; rw [h1]; rfl
 | im b' k=>cases hb; obtain⟨_,es,h1,_⟩:=h; rw [h1]; rfl
 | bl v el ms=>obtain⟨_,_,b',size,h1,h2,h3⟩:=h; rw [h1] at hb; cases hb; rw [h3]; rfl
section
variable {c:Cx} {ops:Array Oper} {i m d f:Nat} {T:Tm} {G G':GH} {Γ Γ':Gam} {st st':St} {v u:AV}
theorem Q.told0 (hq:Q c T G Γ st) {b:Nat} (h:(c.G0 b).isSome=true):(G b).isSome=true:=hq.rl.dom b h
theorem Q.none0 (hq:Q c T G Γ st) {b:Nat} (h:G b=none):c.G0 b=none:=by
 cases h0:c.G0 b with
 | none=>rfl
 | some g=>have:=hq.told0 (b:=b) (by rw [h0]; rfl); rw [h] at this; cases this
theorem HT.told (h:HT c.P c.Φ G Γ) {b:Nat} {x:Ds} (hb:Γ.m b=some x):(G b).isSome=true:=(h.b b x hb).told
theorem HT.none (h:HT c.P c.Φ G Γ) {b:Nat} (hb:G b=none):Γ.m b=none:=by
 cases h0:Γ.m b with
 | none=>rfl
 | some x=>have:=h.told h0; rw [hb] at this; cases this
theorem Q.call (hq:Q c T G Γ st) {osA osB os':List Own} {tys':List TF} {gsA gs':List (Nat × Gd × Bool)} {Sg:List Nat} (ho:st.os.Perm (osA++osB)) (hr:Rl c.Φ (blks osB) Sg G Γ G' Γ') (hgr:Grow c.n0 G G') (ht:HT c.P c.Φ G' Γ') (h1:∀o∈os',OwnOk c.P c.Φ G' Γ' o) (h2:(blks os').Nodup)
  (h3:∀o∈os',∀b,o.blk=some b->b∈blks osB∨G b=none) (h4:∀f∈tys',TOk c.P c.Φ G' Γ' f) (hSg:∀g∈Sg,g∈c.Sg∨c.Γ0.ng<=g) (hgA:∀p∈gsA,p∈st.gs/\Γ'.gd p.1=Γ.gd p.1) (hgs':∀p∈gs',p.1<Γ'.ng/\Γ'.gd p.1=p.2.1/\(p.2.2=true->(p.1∈c.Sg∨c.Γ0.ng<=p.1)/\p.2.1.fz=false/\0<p.1)) (hin:∀o∈osA,∀g,o.inst=some g->Γ'.gd g=Γ.gd g) :
  Q c T G' Γ' ⟨st.L,osA++os',tys'++st.tys,gs'++gsA⟩:=by
 have hnd:(blks (osA++osB)).Nodup:=(ho.filterMap Own.blk).nodup_iff.1 hq.nd
 have hmem:∀o,o∈osA++osB->o∈st.os:=fun o h=>ho.mem_iff.2 h
 rw [blks_append,List.nodup_append] at hnd
 obtain⟨n1,n2,n3⟩:=hnd
 have hB:∀b∈blks osB,b∈c.S∨c.G0 b=none:=fun b hb=>by
  obtain⟨o,m1,m2⟩:=mem_blks.1 hb
  exact hq.new o (hmem o (by simp [m1])) b m2
 have hA:∀o∈osA,o∈st.os:=fun o h=>hmem o (by simp [h])
 refine⟨hq.ml,hq.at_,hq.ht0,hq.rl.trans (P:=c.P) hq.ht0 hr hB hSg,hq.grow.trans hgr,fun o h=>?_,fun o h b hb=>?_,?_,ht,fun f hf=>?_,fun p hp=>?_⟩
 · rcases List.mem_append.1 h with h | h
   · exact (hq.own o (hA o h)).keep hr (fun b hb hm=>n3 b (mem_blks.2 ⟨o,h,hb⟩) b hm rfl) (hin o h)
   · exact h1 o h
 · rcases List.mem_append.1 h with h | h
   · exact hq.new o (hA o h) b hb
   · rcases h3 o h b hb with h | h
     · exact hB b h
     · exact .inr (hq.none0 h)
 · show (blks (osA++os')).Nodup
   rw [blks_append]
   refine List.nodup_append.2 ⟨n1,h2,fun x hx y hy e=>?_⟩
   subst e
   obtain⟨o,m1,m2⟩:=mem_blks.1 hy
   rcases h3 o m1 x m2 with h | h
   · exact n3 x hx x h rfl
   · obtain⟨o2,k1,k2⟩:=mem_blks.1 hx
     have:=(hq.own o2 (hA o2 k1)).told k2
     rw [h] at this; cases this
 · rcases List.mem_append.1 hf with h | h
   · exact h4 f h
   · exact (hq.ty f h).le hr.r hr.le
 · rcases List.mem_append.1 hp with h | h
   · exact hgs' p h
   · obtain⟨h1,h2⟩:=hgA p h
     obtain⟨q1,q2,q3⟩:=hq.gs p h1
     exact⟨Nat.lt_of_lt_of_le q1 hr.le.ng,h2.trans q2,q3⟩
def updΓ (Γ:Gam) (b:Nat) (x:Ds):Gam:=⟨fun k=>if k=b then some x else Γ.m k,Γ.gd,Γ.ng⟩
theorem updΓ_same (Γ:Gam) (b:Nat) (x:Ds):(updΓ Γ b x).m b=some x:=by simp [updΓ]
theorem updΓ_ne {b k:Nat} {x:Ds} (h:k≠b):(updΓ Γ b x).m k=Γ.m k:=by simp [updΓ,h]
theorem MapOk.le {P:Program} {Φ:Forms} {cc g:Nat} {es:List (AV × AV)} (h:MapOk P Φ G Γ cc g es) (hr:RawLe G G') (hl:GamLe Γ Γ') (hg:Γ'.gd g=Γ.gd g):MapOk P Φ G' Γ' cc g es:=by
 unfold MapOk at h ⊢
 refine⟨h.1,?_⟩
 have h:=h.2
 rw [hg]
 cases hm:Φ.mv cc with
 | kd k =>
   rw [hm] at h
   intro p hp
   obtain⟨fs,k1,k2⟩:=h p hp
   exact⟨fs,k1,fun f hf=>(k2 f hf).le hr hl⟩
 | unit=>rw [hm] at h; exact h
 | atv b=>rw [hm] at h; exact h
 | fiv=>rw [hm] at h; exact h
theorem DsOk.same {P:Program} {Φ:Forms} {k:Nat} {x:Ds} (h:DsOk P Φ G Γ k x) (hG:G' k=G k) (hr:RawLe G G') (hl:GamLe Γ Γ') (hg:∀g,g<Γ.ng->Γ'.gd g=Γ.gd g):DsOk P Φ G' Γ' k x:=by
 cases x with
 | cells cc g L =>
   obtain⟨h1,h2,size,C,h3,h4,h5⟩:=h
   exact⟨⟨Nat.lt_of_lt_of_le h1.1 hl.ng,h1.2⟩,h2,size,C,by rw [hG]; exact h3,h4,fun j m hj=>(h5 j m hj).le hr hl h1.1⟩
 | map cc g =>
   obtain⟨h1,es,h3,h4,h5⟩:=h
   exact⟨Nat.lt_of_lt_of_le h1 hl.ng,es,by rw [hG]; exact h3,h4,h5.le hr hl (hg g h1)⟩
theorem HT.chg {P:Program} {Φ:Forms} {b:Nat} (ht:HT P Φ G Γ) (hr:RawLe G G') (hl:GamLe Γ Γ') (hgd:Γ'.gd=Γ.gd) (hk:∀k,k≠b->Γ'.m k=Γ.m k) (hG:∀k,k≠b->G' k=G k) (hb:∀x,Γ'.m b=some x->DsOk P Φ G' Γ' b x):HT P Φ G' Γ':=by
 refine⟨by rw [hgd]; exact⟨ht.z.1,Nat.lt_of_lt_of_le ht.z.2 hl.ng⟩,fun k x h=>?_⟩
 by_cases e0:k=b
 · subst e0; exact hb x h
 · rw [hk k e0] at h
   exact (ht.b k x h).same (hG k e0) hr hl fun g _=>by rw [hgd]
theorem rl_one {Φ:Forms} {S:List Nat} {b:Nat} (hk:∀k,k≠b->Γ'.m k=Γ.m k) (hG:∀k,k≠b->G' k=G k) (hb:(G' b).isSome=true) (hraw:∀el size C,G b≠some (.cells .raw el size C)) (hdat:∀el size C,G b=some (.cells .data el size C)->∃C',G' b=some (.cells .data el size C')) (hle:∀x,Γ.m b=some x->∃y,Γ'.m b=some y/\DsLe x y) (hgd:Γ'.gd=Γ.gd) (hng:Γ'.ng=Γ.ng)
  (hS:b∈S∨G b=none∨∃x,Γ.m b=some x/\x.fixed Φ=false) (hm:∀x,Γ.m b=some x->(G b).isSome=true):Rl Φ S [] G Γ G' Γ':=by
 have hne:∀k,(G k).isSome=true->k ∉ S->Γ.m k=none->k≠b:=fun k hk' hn h0 e=>by
  subst e
  rcases hS with h | h | ⟨x,h,_⟩
  · exact hn h
  · rw [h] at hk'; cases hk'
  · rw [h0] at h; cases h
 refine⟨fun k h hn h0=>?_,⟨fun k el size C h=>?_,fun k el size C h=>?_⟩,fun k x h hx hn=>?_,⟨fun k x h=>?_,fun g _=>by rw [hgd]; exact Gd.Le.refl _,by rw [hng]; exact Nat.le_refl _⟩,fun g _ _=>by rw [hgd],fun k h=>?_⟩
 · have e:=hne k h hn h0
   exact⟨hG k e,by rw [hk k e]; exact h0⟩
 · exact hG k (by rintro rfl; exact hraw _ _ _ h)
 · by_cases e0:k=b
   · subst e0; exact hdat _ _ _ h
   · exact⟨C,by rw [hG k e0]; exact h⟩
 · rw [hk k ?_]; exact h
   rintro rfl
   rcases hS with h' | h' | ⟨y,h',hy⟩
   · exact hn h'
   · have:=hm x h; rw [h'] at this; cases this
   · rw [h] at h'; cases h'; rw [hx] at hy; cases hy
 · by_cases e0:k=b
   · subst e0; exact hle x h
   · exact⟨x,by rw [hk k e0]; exact h,DsLe.refl x⟩
 · by_cases e0:k=b
   · subst e0; exact hb
   · rw [hG k e0]; exact h
theorem Q.step1 (hq:Q c T G Γ st) {osA osB os':List Own} {tys':List TF} {b:Nat} (ho:st.os.Perm (osA++osB)) (hgr:Grow c.n0 G G') (hk:∀k,k≠b->Γ'.m k=Γ.m k) (hG:∀k,k≠b->G' k=G k) (hb:(G' b).isSome=true) (hraw:∀el size C,G b≠some (.cells .raw el size C)) (hdat:∀el size C,G b=some (.cells .data el size C)->∃C',G' b=some (.cells .data el size C'))
  (hle:∀x,Γ.m b=some x->∃y,Γ'.m b=some y/\DsLe x y) (hgd:Γ'.gd=Γ.gd) (hng:Γ'.ng=Γ.ng) (hS:b∈blks osB∨G b=none∨∃x,Γ.m b=some x/\x.fixed c.Φ=false)
  (hds:∀x,RawLe G G'->GamLe Γ Γ'->Γ'.m b=some x->DsOk c.P c.Φ G' Γ' b x) (h1:∀o∈os',RawLe G G'->GamLe Γ Γ'->OwnOk c.P c.Φ G' Γ' o) (h2:(blks os').Nodup) (h3:∀o∈os',∀b,o.blk=some b->b∈blks osB∨G b=none) (h4:∀f∈tys',RawLe G G'->GamLe Γ Γ'->TOk c.P c.Φ G' Γ' f) :
  Q c T G' Γ' ⟨st.L,osA++os',tys'++st.tys,st.gs⟩:=by
 have hr:Rl c.Φ (blks osB) [] G Γ G' Γ':=rl_one hk hG hb hraw hdat hle hgd hng hS fun x h=>hq.ht.told h
 have:=hq.call (gs':=[]) (gsA:=st.gs) ho hr hgr (hq.ht.chg hr.r hr.le hgd hk hG fun x h=>hds x hr.r hr.le h) (fun o h=>h1 o h hr.r hr.le) h2 h3 (fun f h=>h4 f h hr.r hr.le) (fun g h=>by cases h) (fun p hp=>⟨hp,by rw [hgd]⟩) (fun p hp=>by cases hp) (fun o _ g _=>by rw [hgd])
 exact this
theorem Q.newO (hq:Q c T G Γ st) {b:Nat} {g:Gh} (hn:c.n0<=b) (hb:G b=none) (o:Own) (ho:o.blk=some b) (hok:OwnOk c.P c.Φ (upd G b g) Γ o):Q c T (upd G b g) Γ ⟨st.L,o::st.os,st.tys,st.gs⟩:=by
 have:=hq.step1 (osA:=st.os) (osB:=[]) (os':=[o]) (tys':=[]) (b:=b) (G':=upd G b g) (Γ':=Γ) (by simp) (grow_upd (.inr hn)) (fun _ _=>rfl) (fun k h=>upd_ne h) (by rw [upd_same]; rfl) (fun _ _ _ h=>by rw [hb] at h; cases h) (fun _ _ _ h=>by rw [hb] at h; cases h) (fun x h=>by rw [hq.ht.none hb] at h; cases h) rfl rfl (.inr (.inl hb))
  (fun x _ _ h=>by rw [hq.ht.none hb] at h; cases h) (fun o' h _ _=>by rw [List.mem_singleton.1 h]; exact hok) (by show (List.filterMap Own.blk [o]).Nodup; simp [ho]) (fun o' h b' hb'=>by rw [List.mem_singleton.1 h,ho] at hb'; cases hb'; exact .inr hb) (fun f h=>by cases h)
 exact this.weak (fun _ _ h=>h) ⟨[],by simp⟩ (fun f h=>h) (fun p h=>h)
theorem Q.newT (hq:Q c T G Γ st) {b cc g size:Nat} {L:List Nat} {C:List AV} {tys':List TF} (hn:c.n0<=b) (hb:G b=none) (hg:g<Γ.ng) (hrw:c.Φ.raw cc=false) (hu:c.Φ.uni cc=true->∀m∈L,m=WU) (hl:C.length=L.length*szOf c.P (c.Φ.ty cc)) (hel:∀j m,L[j]?=some m->ElOk c.P c.Φ G Γ m cc g j ((C.drop (j*szOf c.P (c.Φ.ty cc))).take (szOf c.P (c.Φ.ty cc))))
  (h4:∀f∈tys',TOk c.P c.Φ (upd G b (.cells .data (c.Φ.ty cc) size C)) (updΓ Γ b (.cells cc g L)) f):Q c T (upd G b (.cells .data (c.Φ.ty cc) size C)) (updΓ Γ b (.cells cc g L)) ⟨st.L,st.os,tys'++st.tys,st.gs⟩:=by
 have:=hq.step1 (osA:=st.os) (osB:=[]) (os':=[]) (tys':=tys') (b:=b) (G':=upd G b (.cells .data (c.Φ.ty cc) size C)) (Γ':=updΓ Γ b (.cells cc g L)) (by simp) (grow_upd (.inr hn)) (fun k h=>updΓ_ne h) (fun k h=>upd_ne h) (by rw [upd_same]; rfl) (fun _ _ _ h=>by rw [hb] at h; cases h) (fun _ _ _ h=>by rw [hb] at h; cases h) (fun x h=>by rw [hq.ht.none hb] at h; cases h) rfl rfl (.inr (.inl hb))
  (fun x hr hl' h=>by rw [updΓ_same] at h; cases h; exact⟨⟨hg,hrw⟩,hu,size,C,upd_same _ _ _,hl,fun j m hj=>(hel j m hj).le hr hl' hg⟩) (fun o' h=>by cases h) (by show ([]:List Nat).Nodup; simp) (fun o' h=>by cases h) (fun f h _ _=>h4 f h)
 exact this.weak (fun _ _ h=>h) ⟨[],by simp⟩ (fun f h=>h) (fun p h=>h)
theorem Q.newM (hq:Q c T G Γ st) {b cc g:Nat} {tys':List TF} (hn:c.n0<=b) (hb:G b=none) (hg:g<Γ.ng) (hm:MapOk c.P c.Φ G Γ cc g [])
  (h4:∀f∈tys',TOk c.P c.Φ (upd G b (.map [])) (updΓ Γ b (.map cc g)) f):Q c T (upd G b (.map [])) (updΓ Γ b (.map cc g)) ⟨st.L,st.os,tys'++st.tys,st.gs⟩:=by
 have:=hq.step1 (osA:=st.os) (osB:=[]) (os':=[]) (tys':=tys') (b:=b) (G':=upd G b (.map [])) (Γ':=updΓ Γ b (.map cc g)) (by simp) (grow_upd (.inr hn)) (fun k h=>updΓ_ne h) (fun k h=>upd_ne h) (by rw [upd_same]; rfl) (fun _ _ _ h=>by rw [hb] at h; cases h) (fun _ _ _ h=>by rw [hb] at h; cases h) (fun x h=>by rw [hq.ht.none hb] at h; cases h) rfl rfl (.inr (.inl hb))
  (fun x hr hl' h=>by rw [updΓ_same] at h; cases h; exact⟨hg,[],upd_same _ _ _,(fun p hp=>by cases hp),hm.le hr hl' rfl⟩) (fun o' h=>by cases h) (by show ([]:List Nat).Nodup; simp) (fun o' h=>by cases h) (fun f h _ _=>h4 f h)
 exact this.weak (fun _ _ h=>h) ⟨[],by simp⟩ (fun f h=>h) (fun p h=>h)
theorem Q.chgO (hq:Q c T G Γ st) {b:Nat} {osA:List Own} {o o':Own} {tys':List TF} (ho:st.os.Perm (osA++[o])) (hgr:Grow c.n0 G G') (hk:∀k,k≠b->Γ'.m k=Γ.m k) (hG:∀k,k≠b->G' k=G k) (hb:(G' b).isSome=true) (hraw:∀el size C,G b≠some (.cells .raw el size C)) (hdat:∀el size C,G b=some (.cells .data el size C)->∃C',G' b=some (.cells .data el size C'))
  (hle:∀x,Γ.m b=some x->∃y,Γ'.m b=some y/\DsLe x y) (hgd:Γ'.gd=Γ.gd) (hng:Γ'.ng=Γ.ng) (hob:o.blk=some b∨G b=none) (ho':o'.blk=some b)
  (hds:∀x,RawLe G G'->GamLe Γ Γ'->Γ'.m b=some x->DsOk c.P c.Φ G' Γ' b x) (h1:RawLe G G'->GamLe Γ Γ'->OwnOk c.P c.Φ G' Γ' o') (h4:∀f∈tys',RawLe G G'->GamLe Γ Γ'->TOk c.P c.Φ G' Γ' f) :
  Q c T G' Γ' ⟨st.L,osA++[o'],tys'++st.tys,st.gs⟩:=by
 refine hq.step1 (b:=b) ho hgr hk hG hb hraw hdat hle hgd hng ?_ hds (fun o2 h=>by rw [List.mem_singleton.1 h]; exact h1) (by show (List.filterMap Own.blk [o']).Nodup; simp [ho']) (fun o2 h b2 hb2=>?_) h4
 · rcases hob with h | h
   · exact .inl (mem_blks.2 ⟨o,by simp,h⟩)
   · exact .inr (.inl h)
 · rw [List.mem_singleton.1 h,ho'] at hb2; cases hb2
   rcases hob with h | h
   · exact .inl (mem_blks.2 ⟨o,by simp,h⟩)
   · exact .inr h
theorem Q.chgT (hq:Q c T G Γ st) {b:Nat} {x y:Ds} {tys':List TF} {g':Gh} (hx:Γ.m b=some x) (hf:x.fixed c.Φ=false) (hxy:DsLe x y) (hdat:∀el size C,G b=some (.cells .data el size C)->∃C',g'=.cells .data el size C')
  (hds:RawLe G (upd G b g')->GamLe Γ (updΓ Γ b y)->DsOk c.P c.Φ (upd G b g') (updΓ Γ b y) b y) (h4:∀f∈tys',TOk c.P c.Φ (upd G b g') (updΓ Γ b y) f) :
  Q c T (upd G b g') (updΓ Γ b y) ⟨st.L,st.os,tys'++st.tys,st.gs⟩:=by
 have htold:=hq.ht.told hx
 have:=hq.step1 (osA:=st.os) (osB:=[]) (os':=[]) (tys':=tys') (b:=b) (G':=upd G b g') (Γ':=updΓ Γ b y) (by simp) (grow_upd (.inl htold)) (fun k h=>updΓ_ne h) (fun k h=>upd_ne h) (by rw [upd_same]; rfl) (fun el size C h=>by
   have:=hq.ht.b b x hx
   cases x with
   | cells cc g L=>obtain⟨_,_,s2,C2,h2,_⟩:=this; rw [h] at h2; cases h2
   | map cc g=>obtain⟨_,es,h2,_⟩:=this; rw [h] at h2; cases h2)
  (fun el size C h=>by obtain⟨C',h'⟩:=hdat el size C h; exact⟨C',by rw [upd_same,h']⟩) (fun x' h=>by rw [hx] at h; cases h; exact⟨y,updΓ_same _ _ _,hxy⟩) rfl rfl (.inr (.inr ⟨x,hx,hf⟩))
  (fun x' hr hl' h=>by rw [updΓ_same] at h; cases h; exact hds hr hl') (fun o' h=>by cases h) (by show ([]:List Nat).Nodup; simp) (fun o' h=>by cases h) (fun f h _ _=>h4 f h)
 exact this.weak (fun _ _ h=>h) ⟨[],by simp⟩ (fun f h=>h) (fun p h=>h)
end
end Go.Rt
namespace Go.Rd
open Go.Rex Go.RowKit Go.Rt
def hasTy (s:SS) (f:STF):Bool:=s.ty.any (STF.beq f)
theorem hasTy_ok {s:SS} {f:STF} (h:hasTy s f=true):f∈s.ty:=by
 obtain⟨x,h1,h2⟩:=List.any_eq_true.1 h
 have:=STF.beq_ok h2
 subst this; exact h1
def ckS (cf:Cf) (s:SS) (g cc:Nat) (x:SC) (K:LE->Option (Option Nat)):Option (Option Nat):=bif cf.Φ.via cc then none else match x with
 | .nils=>(K (.k 0)).map fun _=>none
 | .ref y=>bif hasTy s (.sl y cc (giS cf.Φ g cc)) then (K (.a (.len y))).map fun _=>plain cf.Φ cc y else none
 | _=>none
def okB (b:Bool):Option (Option Nat):=bif b then some none else none
def lkSb:List (Nat × Nat)->Nat->Option Nat
 | [],_=>none
 | p::l,d=>bif Nat.beq p.1 d then some p.2 else lkSb l d
theorem lkSb_ok:∀{l:List (Nat × Nat)} {d e:Nat},lkSb l d=some e->(d,e)∈l
 | [],_,_,h=>by cases h
 | p::l,d,e,h=>by
   have h:(bif Nat.beq p.1 d then some p.2 else lkSb l d)=some e:=h
   cases hb:Nat.beq p.1 d with
   | true=>rw [hb] at h; cases h; have:=Nat.eq_of_beq_eq_true hb; subst this; exact List.mem_cons_self ..
   | false=>rw [hb] at h; exact List.mem_cons_of_mem _ (lkSb_ok h)
def giV (cf:Cf) (s:SS) (g:Nat) (d:Option Nat) (cc:Nat):Option Nat:=bif cf.Φ.via cc then (match d with | some d=>lkSb s.sb d | none=>none) else some (giS cf.Φ g cc)
def ckP (cf:Cf) (s:SS) (g:Nat) (d:Option Nat) (cc:Nat) (x:SC):Bool:=match x,giV cf s g d cc with
 | .ref y,some g'=>hasTy s (.pt y cc g')
 | _,_=>false
def ckM (cf:Cf) (s:SS) (g cc:Nat) (x:SC):Bool:=match x with
 | .ref y=>!cf.Φ.via cc&&hasTy s (.mp y cc (giS cf.Φ g cc))
 | _=>false
def isNilp:SC->Bool | .nilp=>true | _=>false
def isNilm:SC->Bool | .nilmap=>true | _=>false
def chkK (cf:Cf) (s:SS) (g:Nat) (d:Option Nat) (j:LE) (k:K2) (x:SC):Option (Option Nat):=match k with
 | .int kd=>(match x with | .int k' _=>okB (kindB k' kd) | _=>none)
 | .nat b=>(match x,d with | .int k' e,some d=>okB (isI64 k'&&(ent s e&&ent s (((LE.a (.gn d b)).sub e).addc (-1)))) | _,_=>none)
 | .str=>okB (strOf x).isSome
 | .strj=>(match d with | some d=>(match strOf x,lkAt s.ats d x with | some _,some e=>okB (e.same j) | _,_=>none) | none=>none)
 | .strb _=>none
 | .bool=>(match x with | .bool _=>some none | _=>none)
 | .flt kd=>(match x with | .flt k' _=>okB (fkindB k' kd) | .fltc k' _=>okB (fkindB k' kd) | _=>none)
 | .sl cc=>ckS cf s g cc x fun _=>some none
 | .slb cc b=>ckS cf s g cc x fun l=>okB (ent s ((LE.k b).sub l))
 | .slg cc b=>(match d with | some d=>ckS cf s g cc x fun l=>okB (ent s ((LE.a (.gn d b)).sub l)) | none=>none)
 | .slk cc b=>(match d with | some d=>ckS cf s g cc x fun l=>okB (s.fz.contains d&&(ent s ((LE.a (.gn d b)).sub l)&&ent s (l.sub (.a (.gn d b))))) | none=>none)
 | .slf cc=>(match d with | some d=>(match lkFl s.fls d j with | some e=>ckS cf s g cc x fun l=>okB (ent s (e.sub l)&&ent s (l.sub e)) | none=>none) | none=>none)
 | .ptr cc=>okB (ckP cf s g d cc x)
 | .ptn cc=>okB (isNilp x||ckP cf s g d cc x)
 | .mp cc=>okB (ckM cf s g cc x)
 | .mpn cc=>okB (isNilm x||ckM cf s g cc x)
 | .bad=>none
section
variable {c:Cx} {T:Tm} {G:GH} {Γ:Gam} {ρ ρ':Rho} {s s':SS} {cf:Cf} {ops:Array Oper} {i d:Nat}
theorem okB_ok {b:Bool} {o:Option Nat} (h:okB b=some o):b=true/\o=none:=by
 cases b with
 | true=>cases h; exact⟨rfl,rfl⟩
 | false=>cases h
theorem ckS_ok {g cc:Nat} {x:SC} {K:LE->Option (Option Nat)} {o:Option Nat} (h:ckS cf s g cc x K=some o) (hΦ:cf.Φ=c.Φ) (hk:Ok c T G Γ ρ s) (dd:Gd):∃ns le,(K le).isSome=true/\le.ev ρ=(ns.length:Int)/\TOk c.P c.Φ G Γ (.sl (x.den ρ) cc (gi c.Φ dd (ig ρ g) cc) ns)/\wtO ρ o=wgt c.Φ [.sl (x.den ρ) cc (gi c.Φ dd (ig ρ g) cc) ns]:=by
 unfold ckS at h
 rw [hΦ] at h
 cases hv:c.Φ.via cc with
 | true=>rw [hv] at h; cases h
 | false =>
   rw [hv] at h
   simp only [cond_false] at h
   split at h
   · obtain⟨q,hq⟩:=Option.isSome_iff_exists.1 (show (K (.k 0)).isSome=true by cases hK:K (.k 0) with | none=>rw [hK] at h; cases h | some q=>rfl)
     rw [hq] at h
     cases h
     exact⟨[],.k 0,by rw [hq]; rfl,by rw [LE.ev_k]; rfl,⟨Nat.zero_le _,.inl ⟨rfl,rfl⟩⟩,by simp [wtO,wgt,sw]⟩
   · rename_i y
     cases hb:hasTy s (.sl y cc (giS c.Φ g cc)) with
     | false=>rw [hb] at h; cases h
     | true =>
       rw [hb] at h
       simp only [cond_true] at h
       obtain⟨q,hq⟩:=Option.isSome_iff_exists.1 (show (K (.a (.len y))).isSome=true by cases hK:K (.a (.len y)) with | none=>rw [hK] at h; cases h | some q=>rfl)
       rw [hq] at h
       cases h
       have ht:=hk.ty (hasTy_ok hb)
       have ht:TOk c.P c.Φ G Γ (.sl (ρ y).vv cc (ig ρ (giS c.Φ g cc)) (ρ y).ns):=ht
       rw [<-giS_ok (d:=dd) hv] at ht
       exact⟨(ρ y).ns,.a (.len y),by rw [hq]; rfl,by rw [LE.ev_a]; rfl,ht,plain_wt rfl⟩
   · cases h
theorem ckP_ok {g cc:Nat} {dv:Option Nat} {x:SC} (h:ckP cf s g dv cc x=true) (hΦ:cf.Φ=c.Φ) (hk:Ok c T G Γ ρ s) (hd:∀v,dv=some v->Γ.gd (ig ρ g)=(ρ v).gg):TOk c.P c.Φ G Γ (.pt (x.den ρ) cc (gi c.Φ (Γ.gd (ig ρ g)) (ig ρ g) cc)):=by
 unfold ckP at h
 split at h
 · rename_i y g' hg'
   have ht:=hk.ty (hasTy_ok h)
   have ht:TOk c.P c.Φ G Γ (.pt (ρ y).vv cc (ig ρ g')):=ht
   have:gi c.Φ (Γ.gd (ig ρ g)) (ig ρ g) cc=ig ρ g':=by
    unfold giV at hg'
    rw [hΦ] at hg'
    cases hv:c.Φ.via cc with
    | false=>rw [hv] at hg'; cases hg'; exact giS_ok hv
    | true =>
      rw [hv] at hg'
      simp only [cond_true] at hg'
      cases dv with
      | none=>cases hg'
      | some v =>
        have:=hk.sat.sb _ (lkSb_ok hg')
        have this:(ρ v).gg.sub=ig ρ g':=this
        unfold gi
        rw [hv,hd v rfl]
        exact this
   rw [this]; exact ht
 · cases h
theorem ckM_ok {g cc:Nat} {x:SC} (h:ckM cf s g cc x=true) (hΦ:cf.Φ=c.Φ) (hk:Ok c T G Γ ρ s) (dd:Gd):TOk c.P c.Φ G Γ (.mp (x.den ρ) cc (gi c.Φ dd (ig ρ g) cc)):=by
 unfold ckM at h
 split at h
 · rename_i y
   rw [hΦ,Bool.and_eq_true,Bool.not_eq_true'] at h
   have ht:=hk.ty (hasTy_ok h.2)
   have ht:TOk c.P c.Φ G Γ (.mp (ρ y).vv cc (ig ρ (giS c.Φ g cc))):=ht
   rw [giS_ok h.1]; exact ht
 · cases h
theorem chkK_ok {g J:Nat} {dv:Option Nat} {j:LE} {k:K2} {x:SC} {o:Option Nat} (h:chkK cf s g dv j k x=some o) (hΦ:cf.Φ=c.Φ) (hk:Ok c T G Γ ρ s) (hd:∀v,dv=some v->Γ.gd (ig ρ g)=(ρ v).gg) (hj:0<=j.ev ρ/\J=(j.ev ρ).toNat) :
  ∃fs,Kv c.Φ (Γ.gd (ig ρ g)) (ig ρ g) J k (x.den ρ) fs/\wtO ρ o=wgt c.Φ fs/\∀f∈fs,TOk c.P c.Φ G Γ f:=by
 have none0:∀{b:Bool},okB b=some o->wtO ρ o=0:=fun h=>by rw [(okB_ok h).2]; rfl
 cases k with
 | int kd =>
   unfold chkK at h
   simp only at h
   split at h
   · have:=of_decide_eq_true (okB_ok h).1
     subst this
     exact⟨[],⟨⟨_,rfl⟩,rfl⟩,none0 h,fun f hf=>by cases hf⟩
   · cases h
 | nat b =>
   unfold chkK at h
   simp only at h
   split at h
   · rename_i k' e v
     have h1:=(okB_ok h).1
     simp only [Bool.and_eq_true] at h1
     have:=isI64_ok h1.1
     subst this
     have e1:=ent_ok h1.2.1 hk.sat
     have e2:=ent_ok h1.2.2 hk.sat
     rw [LE.ev_addc,LE.ev_sub,LE.ev_a] at e2
     have e2:0<=(((ρ v).gg.n b:Nat):Int)-e.ev ρ+-1:=e2
     refine⟨[],⟨⟨(e.ev ρ).toNat,?_,?_⟩,rfl⟩,none0 h,fun f hf=>by cases hf⟩
     · show AV.int .i64 (e.ev ρ)=_; congr 1; exact (Int.toNat_of_nonneg e1).symm
     · rw [hd v rfl]; omega
   · cases h
 | str =>
   have h0:okB (strOf x).isSome=some o:=h
   obtain⟨q,hq⟩:=Option.isSome_iff_exists.1 (okB_ok h0).1
   obtain⟨l,m,e,_⟩:=strOf_den hq ρ
   exact⟨[],⟨⟨l,m,e,strOf_lim (okB_ok h0).1 e⟩,rfl⟩,none0 h0,fun f hf=>by cases hf⟩
 | strj =>
   unfold chkK at h
   simp only at h
   split at h
   · rename_i v
     split at h
     · rename_i q e hq ha
       have hs:=(okB_ok h).1
       obtain⟨l,m,ex,_⟩:=strOf_den hq ρ
       obtain⟨x',m1,m2⟩:=lkAt_ok ha
       have hej:e.ev ρ=j.ev ρ:=LE.same_ok hs ρ
       obtain⟨q1,q2⟩:=(hk.sat.ats _ m1).resolve_right fun hr=>by
        have hr:e.ev ρ<0:=hr.1
        have:=hj.1
        omega
       have q2:atV (ρ v).gg (x'.den ρ)=some (e.ev ρ).toNat:=q2
       rw [m2 ρ,ex,LE.same_ok hs ρ,<-hj.2] at q2
       exact⟨[],⟨⟨l,m,ex,strOf_lim (by rw [hq]; rfl) ex,by rw [hd v rfl]; exact q2⟩,rfl⟩,none0 h,fun f hf=>by cases hf⟩
     · cases h
   · cases h
 | strb b=>cases h
 | bool =>
   unfold chkK at h
   simp only at h
   split at h
   · cases h; exact⟨[],⟨⟨_,rfl⟩,rfl⟩,rfl,fun f hf=>by cases hf⟩
   · cases h
 | flt kd =>
   unfold chkK at h
   simp only at h
   split at h
   · have:=of_decide_eq_true (okB_ok h).1; subst this; exact⟨[],⟨⟨_,rfl⟩,rfl⟩,none0 h,fun f hf=>by cases hf⟩
   · have:=of_decide_eq_true (okB_ok h).1; subst this; exact⟨[],⟨⟨_,rfl⟩,rfl⟩,none0 h,fun f hf=>by cases hf⟩
   · cases h
 | sl cc =>
   simp only [chkK] at h
   obtain⟨ns,le,h1,h2,h3,h4⟩:=ckS_ok h hΦ hk (Γ.gd (ig ρ g))
   exact⟨_,⟨ns,rfl⟩,h4,fun f hf=>by rw [List.mem_singleton.1 hf]; exact h3⟩
 | slb cc b =>
   simp only [chkK] at h
   obtain⟨ns,le,h1,h2,h3,h4⟩:=ckS_ok h hΦ hk (Γ.gd (ig ρ g))
   obtain⟨q,hq⟩:=Option.isSome_iff_exists.1 h1
   have:=ent_ok (okB_ok hq).1 hk.sat
   rw [LE.ev_sub,LE.ev_k,h2] at this
   exact⟨_,⟨ns,rfl,by omega⟩,h4,fun f hf=>by rw [List.mem_singleton.1 hf]; exact h3⟩
 | slg cc b =>
   unfold chkK at h
   simp only at h
   cases dv with
   | none=>cases h
   | some v =>
     simp only at h
     obtain⟨ns,le,h1,h2,h3,h4⟩:=ckS_ok h hΦ hk (Γ.gd (ig ρ g))
     obtain⟨q,hq⟩:=Option.isSome_iff_exists.1 h1
     have:=ent_ok (okB_ok hq).1 hk.sat
     rw [LE.ev_sub,LE.ev_a,h2] at this
     have this:0<=(((ρ v).gg.n b:Nat):Int)-(ns.length:Int):=this
     exact⟨_,⟨ns,rfl,by rw [hd v rfl]; omega⟩,h4,fun f hf=>by rw [List.mem_singleton.1 hf]; exact h3⟩
 | slk cc b =>
   unfold chkK at h
   simp only at h
   cases dv with
   | none=>cases h
   | some v =>
     simp only at h
     obtain⟨ns,le,h1,h2,h3,h4⟩:=ckS_ok h hΦ hk (Γ.gd (ig ρ g))
     obtain⟨q,hq⟩:=Option.isSome_iff_exists.1 h1
     have hb:=(okB_ok hq).1
     simp only [Bool.and_eq_true] at hb
     have a1:=ent_ok hb.2.1 hk.sat
     have a2:=ent_ok hb.2.2 hk.sat
     rw [LE.ev_sub,LE.ev_a,h2] at a1 a2
     have a1:0<=(((ρ v).gg.n b:Nat):Int)-(ns.length:Int):=a1
     have a2:0<=(ns.length:Int)-(((ρ v).gg.n b:Nat):Int):=a2
     have hz:=hk.sat.fz v (List.contains_iff_mem.1 hb.1)
     exact⟨_,⟨ns,rfl,by rw [hd v rfl]; exact hz,by rw [hd v rfl]; omega⟩,h4,fun f hf=>by rw [List.mem_singleton.1 hf]; exact h3⟩
 | slf cc =>
   unfold chkK at h
   simp only at h
   cases dv with
   | none=>cases h
   | some v =>
     simp only at h
     cases hl:lkFl s.fls v j with
     | none=>rw [hl] at h; cases h
     | some e =>
       rw [hl] at h
       simp only at h
       obtain⟨ns,le,h1,h2,h3,h4⟩:=ckS_ok h hΦ hk (Γ.gd (ig ρ g))
       obtain⟨q,hq⟩:=Option.isSome_iff_exists.1 h1
       have hb:=(okB_ok hq).1
       simp only [Bool.and_eq_true] at hb
       have a1:=ent_ok hb.1 hk.sat
       have a2:=ent_ok hb.2 hk.sat
       rw [LE.ev_sub,h2] at a1 a2
       obtain⟨j',m1,m2⟩:=lkFl_ok hl
       obtain⟨_,r1,r2⟩:=hk.sat.fls _ m1
       have r1:(ρ v).gg.fz=true:=r1
       have r2:(((ρ v).gg.fl (j'.ev ρ).toNat:Nat):Int)=e.ev ρ:=r2
       rw [m2 ρ,<-hj.2] at r2
       exact⟨_,⟨ns,rfl,by rw [hd v rfl]; exact r1,by rw [hd v rfl]; omega⟩,h4,fun f hf=>by rw [List.mem_singleton.1 hf]; exact h3⟩
 | ptr cc =>
   have h0:okB (ckP cf s g dv cc x)=some o:=h
   exact⟨_,rfl,by rw [none0 h0]; rfl,fun f hf=>by rw [List.mem_singleton.1 hf]; exact ckP_ok (okB_ok h0).1 hΦ hk hd⟩
 | ptn cc =>
   have h0:okB (isNilp x||ckP cf s g dv cc x)=some o:=h
   have hb:=(okB_ok h0).1
   rw [Bool.or_eq_true] at hb
   rcases hb with hb | hb
   · cases x<;>first | (cases hb; done) | skip
     exact⟨[],.inl ⟨rfl,rfl⟩,by rw [none0 h0]; rfl,fun f hf=>by cases hf⟩
   · exact⟨_,.inr rfl,by rw [none0 h0]; rfl,fun f hf=>by rw [List.mem_singleton.1 hf]; exact ckP_ok hb hΦ hk hd⟩
 | mp cc =>
   have h0:okB (ckM cf s g cc x)=some o:=h
   exact⟨_,rfl,by rw [none0 h0]; rfl,fun f hf=>by rw [List.mem_singleton.1 hf]; exact ckM_ok (okB_ok h0).1 hΦ hk _⟩
 | mpn cc =>
   have h0:okB (isNilm x||ckM cf s g cc x)=some o:=h
   have hb:=(okB_ok h0).1
   rw [Bool.or_eq_true] at hb
   rcases hb with hb | hb
   · cases x<;>first | (cases hb; done) | skip
     exact⟨[],.inl ⟨rfl,rfl⟩,by rw [none0 h0]; rfl,fun f hf=>by cases hf⟩
   · exact⟨_,.inr rfl,by rw [none0 h0]; rfl,fun f hf=>by rw [List.mem_singleton.1 hf]; exact ckM_ok hb hΦ hk _⟩
 | bad=>cases h
def chkL (cf:Cf) (s:SS) (g:Nat) (d:Option Nat) (j:LE):List K2->List SC->Option (List Nat)
 | [],[]=>some []
 | k::ks,x::xs=>match chkK cf s g d j k x,chkL cf s g d j ks xs with
   | some o,some os=>some (o.toList++os)
   | _,_=>none
 | _,_=>none
theorem chkL_ok {g J:Nat} {dv:Option Nat} {j:LE} (hΦ:cf.Φ=c.Φ) (hk:Ok c T G Γ ρ s) (hd:∀v,dv=some v->Γ.gd (ig ρ g)=(ρ v).gg) (hj:0<=j.ev ρ/\J=(j.ev ρ).toNat):∀{ks:List K2} {xs:List SC} {os:List Nat},chkL cf s g dv j ks xs=some os ->
  ∃fs,WtS c.Φ (Γ.gd (ig ρ g)) (ig ρ g) J ks (denL ρ xs) fs/\(sumW os).ev ρ=(wgt c.Φ fs:Nat)/\∀f∈fs,TOk c.P c.Φ G Γ f
 | [],[],os,h=>by cases h; exact⟨[],⟨rfl,rfl⟩,by rw [sumW,LE.ev_k]; rfl,fun f hf=>by cases hf⟩
 | k::ks,x::xs,os,h=>by
   unfold chkL at h
   split at h
   · rename_i o os' h1 h2
     cases h
     obtain⟨f1,a1,a2,a3⟩:=chkK_ok h1 hΦ hk hd hj
     obtain⟨f2,b1,b2,b3⟩:=chkL_ok hΦ hk hd hj h2
     refine⟨f1++f2,⟨_,_,f1,f2,rfl,rfl,a1,b1⟩,?_,fun f hf=>(List.mem_append.1 hf).elim (a3 f) (b3 f)⟩
     rw [wgt_append,<-a2]
     cases o with
     | none=>simp only [Option.toList,List.nil_append,wtO]; rw [b2]; omega
     | some y =>
       show (sumW (y::os')).ev ρ=_
       rw [sumW,LE.ev_add,LE.ev_a,b2]
       show (wgt c.Φ f2:Int)+(((ρ y).ns.sum+(ρ y).ns.length:Nat):Int)=((wtO ρ (some y)+wgt c.Φ f2:Nat):Int)
       simp only [wtO]; omega
   · cases h
 | [],_::_,_,h=>by cases h
 | _::_,[],_,h=>by cases h
def Hv (c:Cx) (T:Tm) (G:GH) (Γ:Gam) (ops:Array Oper) (i:Nat) (s:SS) (ρ:Rho) (K:SS->R):Prop :=
 StG c.P c.n0 c.nt ops i T .e (z 0) G fun T' hp' nx' G'=>hp'=.e/\nx'=z 0/\∃Γ' ρ' s',(K s').Ok/\Agr s.nx ρ ρ'/\s.nx<=s'.nx/\Ok c T' G' Γ' ρ' s'
def sput (s:SS) (d:Nat) (v:SV):SS:=⟨s.nx,(d,v)::s.L,s.os,s.ty,s.gs,s.fs,s.bs,s.pw,s.ats,s.fls,s.ne,s.fz,s.sb⟩
theorem Ok.put {v:SV} (h:Ok c T G Γ ρ s) (d:Nat):Ok c (T.put d (v.den ρ)) G Γ ρ (sput s d v):=⟨⟨h.sat.fs,h.sat.bs,h.sat.pw,h.sat.ats,h.sat.fls,h.sat.ne,h.sat.fz,h.sat.sb⟩,h.q.put d (v.den ρ)⟩
def addO (s:SS) (o:SO):SS:=⟨s.nx,s.L,o::s.os,s.ty,s.gs,s.fs,s.bs,s.pw,s.ats,s.fls,s.ne,s.fz,s.sb⟩
def setO (s:SS) (os:List SO):SS:=⟨s.nx,s.L,os,s.ty,s.gs,s.fs,s.bs,s.pw,s.ats,s.fls,s.ne,s.fz,s.sb⟩
theorem Lo.hv {K:SS->R} (hd:(opAt ops i).dst=some d) (hlt:d<c.nt) (h:Lo c T G Γ ops i s ρ fun v s=>K (sput s d v)):Hv c T G Γ ops i s ρ K:=by
 obtain⟨ρ',s',a,n,o,v,h1,h2⟩:=h
 exact LVG.st h2 hd hlt ⟨rfl,rfl,Γ,ρ',_,h1,a,n,o.put d⟩
def hal (cf:Cf) (t:TypeId) (d:Nat) (s:SS) (K:SS->R):R:=match (zeroOf cf.P t).bind svA with
 | some v=>(match cellsS v with | some cs=>fresh s fun b s=>K (sput (addO s (.loc b t cs)) d (sc (.rpt b 0))) | none=>.bad 100 s)
 | none=>.bad 101 s
theorem new_loc {K:SS->R} {t:TypeId} {cs:List SC} (h:(fresh s (fun b s=>K (sput (addO s (.loc b t cs)) d (sc (.rpt b 0))))).Ok) (hcs:ltL s.nx cs=true) (hk:Ok c T G Γ ρ s) {b:Nat} (hb:c.n0<=b) (hb':G b=none) :
  ∃Γ' ρ' s',(K s').Ok/\Agr s.nx ρ ρ'/\s.nx<=s'.nx/\Ok c (T.put d (.rpt b 0)) (upd G b (.cells .loc t (denL ρ cs).length (denL ρ cs))) Γ' ρ' s':=by
 obtain⟨h1,h2,h3,h4⟩:=fresh_ok h hk (.n b)
 refine⟨Γ,_,_,h1,h2,Nat.le_succ _,?_⟩
 have e1:(ρ.up s.nx (.n b) s.nx).nn=b:=by rw [h4]; rfl
 have e2:denL (ρ.up s.nx (.n b)) cs=denL ρ cs:=denL_agr h2 hcs
 have q:=h3.q.newO hb hb' (.loc b t (denL ρ cs)) rfl ⟨upd_same _ _ _,h3.q.ht.none hb'⟩
 have hq:Q c T (upd G b (.cells .loc t (denL ρ cs).length (denL ρ cs))) Γ ((addO (bump s) (.loc s.nx t cs)).den (ρ.up s.nx (.n b))):=by
  have:(addO (bump s) (.loc s.nx t cs)).den (ρ.up s.nx (.n b))=⟨((bump s).den (ρ.up s.nx (.n b))).L,.loc b t (denL ρ cs)::((bump s).den (ρ.up s.nx (.n b))).os,((bump s).den (ρ.up s.nx (.n b))).tys,((bump s).den (ρ.up s.nx (.n b))).gs⟩:=by
   unfold addO SS.den
   simp only [List.map_cons,SO.den,e1,e2]
  rw [this]; exact q
 have ok1:Ok c T (upd G b (.cells .loc t (denL ρ cs).length (denL ρ cs))) Γ (ρ.up s.nx (.n b)) (addO (bump s) (.loc s.nx t cs)):=⟨⟨h3.sat.fs,h3.sat.bs,h3.sat.pw,h3.sat.ats,h3.sat.fls,h3.sat.ne,h3.sat.fz,h3.sat.sb⟩,hq⟩
 have:=ok1.put (v:=sc (.rpt s.nx 0)) d
 have e3:(sc (.rpt s.nx 0)).den (ρ.up s.nx (.n b))=.rpt b 0:=by show AV.rpt (ρ.up s.nx (.n b) s.nx).nn 0=_; rw [e1]
 rw [e3] at this
 exact this
theorem svC_lt {a:AV} {x:SC} (h:svC a=some x) (n:Nat):x.lt n=true:=by
 unfold svC at h
 split at h<;>first | (cases h; done) | (cases h; rfl)
theorem svL_lt (n:Nat):∀{l:List AV} {xs:List SC},svL l=some xs->ltL n xs=true
 | [],xs,h=>by cases h; rfl
 | a::l,xs,h=>by
   unfold svL at h
   split at h
   · rename_i x xs' h1 h2
     cases h
     show (SC.lt n x&&ltL n xs')=true
     rw [svC_lt h1,svL_lt n h2]; rfl
   · cases h
theorem svA_cells {a:AV} {v:SV} {cs:List SC} (h:svA a=some v) (hc:cellsS v=some cs) (n:Nat):ltL n cs=true:=by
 unfold svA at h
 split at h
 · rename_i l
   cases hl:svL l with
   | none=>rw [hl] at h; cases h
   | some xs=>rw [hl] at h; cases h; cases hc; exact svL_lt n hl
 · cases h; cases hc
 · cases hl:svC a with
   | none=>rw [hl] at h; cases h
   | some x=>rw [hl] at h; cases h; cases hc; show (SC.lt n x&&true)=true; rw [svC_lt hl]; rfl
theorem hal_ok {t:TypeId} {K:SS->R} (ho:(opAt ops i).op=.alloc t) (hg:(opAt ops i).guard=none) (hd:(opAt ops i).dst=some d) (hlt:d<c.nt) (hP:cf.P=c.P) (h:(hal cf t d s K).Ok) (hk:Ok c T G Γ ρ s):Hv c T G Γ ops i s ρ K:=by
 unfold hal at h
 rw [hP] at h
 cases hz:zeroOf c.P t with
 | none=>rw [hz] at h; cases h
 | some zz =>
   rw [hz] at h
   simp only [Option.bind_some] at h
   cases hv:svA zz with
   | none=>rw [hv] at h; cases h
   | some v =>
     rw [hv] at h
     simp only at h
     cases hc:cellsS v with
     | none=>rw [hc] at h; cases h
     | some cs =>
       rw [hc] at h
       simp only at h
       have e1:=svA_ok hv ρ
       have e2:zz.cells=denL ρ cs:=by rw [<-e1]; exact cellsS_ok hc ρ
       refine StG.allocE .loc hg hd hlt ho hz (by rw [e2]; exact denL_nf _ _) fun b hb hb'=>⟨rfl,rfl,?_⟩
       rw [e2]
       exact new_loc h (svA_cells hv hc _) hk hb hb'
def hbx (cf:Cf) (t:TypeId) (v:SV) (d:Nat) (s:SS) (K:SS->R):R:=match cellsS v with
 | some cs=>bif ltL s.nx cs then fresh s fun b s=>K (sput (addO s (.loc b t cs)) d (sc (.rpt b 0))) else .bad 102 s
 | none=>.bad 103 s
theorem hbx_ok {t:TypeId} {x:Operand} {v:SV} {K:SS->R} (ho:(opAt ops i).op=.box t x) (hg:(opAt ops i).guard=none) (hd:(opAt ops i).dst=some d) (hlt:d<c.nt) (h:(hbx cf t v d s K).Ok) (hk:Ok c T G Γ ρ s) (hx:EvA c.nt T x (v.den ρ)):Hv c T G Γ ops i s ρ K:=by
 unfold hbx at h
 cases hc:cellsS v with
 | none=>rw [hc] at h; cases h
 | some cs =>
   rw [hc] at h
   simp only at h
   cases hl:ltL s.nx cs with
   | false=>rw [hl] at h; cases h
   | true =>
     rw [hl] at h
     simp only [cond_true] at h
     have e2:=cellsS_ok hc ρ
     refine StG.boxE .loc hg hd hlt ho hx (by rw [e2]; exact denL_nf _ _) fun b hb hb'=>⟨rfl,rfl,?_⟩
     rw [e2]
     exact new_loc h hl hk hb hb'
def setLoc:List SO->Nat->List SC->List SO
 | [],_,_=>[]
 | .loc b el cs::l,x,cs'=>bif Nat.beq b x then .loc b el cs'::l else .loc b el cs::setLoc l x cs'
 | o::l,x,cs'=>o::setLoc l x cs'
theorem setLoc_split:∀{l:List SO} {x:Nat} {el:TypeId} {cs:List SC} (cs':List SC),locAt l x=some (el,cs)->∃p q,l=p++.loc x el cs::q/\setLoc l x cs'=p++.loc x el cs'::q
 | [],_,_,_,_,h=>by cases h
 | .loc b el0 cs0::l,x,el,cs,cs',h=>by
   have h:(bif Nat.beq b x then some (el0,cs0) else locAt l x)=some (el,cs):=h
   show ∃p q,SO.loc b el0 cs0::l=p++.loc x el cs::q/\(bif Nat.beq b x then SO.loc b el0 cs'::l else .loc b el0 cs0::setLoc l x cs')=p++.loc x el cs'::q
   cases hb:Nat.beq b x with
   | true =>
     rw [hb] at h; cases h
     have:=Nat.eq_of_beq_eq_true hb
     subst this
     exact⟨[],l,rfl,rfl⟩
   | false =>
     rw [hb] at h
     obtain⟨p,q,h1,h2⟩:=setLoc_split cs' h
     exact⟨_::p,q,by rw [h1]; rfl,by rw [cond_false,h2]; rfl⟩
 | .lst y c'::l,x,el,cs,cs',h=>by
   obtain⟨p,q,h1,h2⟩:=setLoc_split (l:=l) cs' h
   exact⟨.lst y c'::p,q,by rw [h1]; rfl,by show SO.lst y c'::setLoc l x cs'=_; rw [h2]; rfl⟩
 | .em y c'::l,x,el,cs,cs',h=>by
   obtain⟨p,q,h1,h2⟩:=setLoc_split (l:=l) cs' h
   exact⟨.em y c'::p,q,by rw [h1]; rfl,by show SO.em y c'::setLoc l x cs'=_; rw [h2]; rfl⟩
 | .ul y c' g'::l,x,el,cs,cs',h=>by
   obtain⟨p,q,h1,h2⟩:=setLoc_split (l:=l) cs' h
   exact⟨.ul y c' g'::p,q,by rw [h1]; rfl,by show SO.ul y c' g'::setLoc l x cs'=_; rw [h2]; rfl⟩
 | .am y c' g'::l,x,el,cs,cs',h=>by
   obtain⟨p,q,h1,h2⟩:=setLoc_split (l:=l) cs' h
   exact⟨.am y c' g'::p,q,by rw [h1]; rfl,by show SO.am y c' g'::setLoc l x cs'=_; rw [h2]; rfl⟩
 | .im y c'::l,x,el,cs,cs',h=>by
   obtain⟨p,q,h1,h2⟩:=setLoc_split (l:=l) cs' h
   exact⟨.im y c'::p,q,by rw [h1]; rfl,by show SO.im y c'::setLoc l x cs'=_; rw [h2]; rfl⟩
 | .bl y c' g'::l,x,el,cs,cs',h=>by
   obtain⟨p,q,h1,h2⟩:=setLoc_split (l:=l) cs' h
   exact⟨.bl y c' g'::p,q,by rw [h1]; rfl,by show SO.bl y c' g'::setLoc l x cs'=_; rw [h2]; rfl⟩
theorem perm_mid {α:Type} (p q:List α) (a:α):(p++a::q).Perm ((p++q)++[a]):=by
 have:=List.perm_middle (a:=a) (l₁:=p) (l₂:=q)
 exact this.trans (List.perm_append_singleton a (p++q)).symm
def hst (cf:Cf) (t:TypeId) (b o:Nat) (v:SV) (s:SS) (K:SS->R):R:=match locAt s.os b,cellsS v with
 | some (_,cs),some l=>bif (cf.P.info? t).isSome&&(Nat.beq (szOf cf.P t) l.length&&Nat.ble (o+l.length) cs.length) then K (setO s (setLoc s.os b (spl o l cs))) else .bad 104 s
 | _,_=>.bad 105 s
theorem putL_spl (C l:List AV) (o:Nat):putL C o l=spl o l C:=rfl
theorem hst_ok {t:TypeId} {x:Nat} {y:Operand} {b o:Nat} {v:SV} {K:SS->R} (ho:(opAt ops i).op=.store t (.tmp x) y) (hg:(opAt ops i).guard=none) (hd:(opAt ops i).dst=none) (hP:cf.P=c.P) (h:(hst cf t b o v s K).Ok) (hk:Ok c T G Γ ρ s) (hx:T.at x=.rpt (ρ b).nn o) (hy:EvA c.nt T y (v.den ρ)):Hv c T G Γ ops i s ρ K:=by
 unfold hst at h
 rw [hP] at h
 split at h
 · rename_i el cs l hl hv
   cases hb:((c.P.info? t).isSome&&(Nat.beq (szOf c.P t) l.length&&Nat.ble (o+l.length) cs.length)) with
   | false=>rw [hb] at h; cases h
   | true =>
     rw [hb] at h
     simp only [cond_true] at h
     simp only [Bool.and_eq_true] at hb
     obtain⟨b1,b2,b3⟩:=hb
     have e2:=cellsS_ok hv ρ
     have hG:=hk.loc hl
     have hcl:(denL ρ cs).length=cs.length:=by simp [denL]
     have hll:(denL ρ l).length=l.length:=by simp [denL]
     have hle:=ble_ok b3
     refine StG.storeD (fun e=>by cases e) hg hd ho hx hy b1 rfl (by rw [e2,hll]; exact (beq_ok b2).symm) (by rw [e2]; exact denL_flat _ _) (by rw [e2]; exact denL_nf _ _) hG (by rw [hcl,beq_ok b2]; exact hle) ⟨rfl,rfl,Γ,ρ,_,h,Agr.refl _ _,Nat.le_refl _,?_⟩
     rw [e2]
     obtain⟨p,q,h1,h2⟩:=setLoc_split (spl o l cs) hl
     have hnm:Γ.m (ρ b).nn=none:=(hk.own (locAt_mem hl)).2
     have e3:putL (denL ρ cs) o (denL ρ l)=denL ρ (spl o l cs):=(spl_map (SC.den ρ) o l cs).symm
     have e4:(spl o l cs).length=cs.length:=spl_len hle
     have hos:(s.den ρ).os=p.map (SO.den ρ)++(SO.den ρ (.loc b el cs))::q.map (SO.den ρ):=by show s.os.map _=_; rw [h1]; simp
     have hQ:=hk.q.chgO (b:=(ρ b).nn) (G':=upd G (ρ b).nn (.cells .loc el cs.length (denL ρ (spl o l cs)))) (Γ':=Γ) (osA:=p.map (SO.den ρ)++q.map (SO.den ρ)) (o:=SO.den ρ (.loc b el cs)) (o':=SO.den ρ (.loc b el (spl o l cs))) (tys':=[]) (by rw [hos]; exact perm_mid _ _ _) (grow_upd (.inl (by rw [hG]; rfl))) (fun _ _=>rfl) (fun k h=>upd_ne h) (by rw [upd_same]; rfl)
      (fun _ _ _ h=>by rw [hG] at h; cases h) (fun _ _ _ h=>by rw [hG] at h; cases h) (fun x h=>by rw [hnm] at h; cases h) rfl rfl (.inl rfl) rfl (fun x _ _ h=>by rw [hnm] at h; cases h) (fun _ _=>⟨by rw [upd_same]; simp [denL,e4],hnm⟩) (fun f h=>by cases h)
     rw [e3]
     refine⟨⟨hk.sat.fs,hk.sat.bs,hk.sat.pw,hk.sat.ats,hk.sat.fls,hk.sat.ne,hk.sat.fz,hk.sat.sb⟩,hQ.weak (fun _ _ h=>h) ⟨[],?_⟩ (fun f h=>h) (fun p h=>h)⟩
     show List.Perm _ ((setLoc s.os b (spl o l cs)).map (SO.den ρ)++[])
     rw [h2,List.append_nil,List.map_append,List.map_cons]
     exact (perm_mid _ _ _).symm
 · cases h
end
end Go.Rd
namespace Go.Rd
open Go.Rex Go.RowKit Go.Rt
theorem win_get {C:List AV} {a s k:Nat} (h:k<s):((C.drop a).take s)[k]?=C[a+k]?:=by rw [List.getElem?_take_of_lt h,List.getElem?_drop]
theorem win_ext {X Y:List AV} {a b s:Nat} (h:∀k,k<s->X[a+k]?=Y[b+k]?):(X.drop a).take s=(Y.drop b).take s:=by
 apply List.ext_getElem?
 intro k
 by_cases hk:k<s
 · rw [win_get hk,win_get hk]; exact h k hk
 · rw [List.getElem?_eq_none (by rw [List.length_take]; omega),List.getElem?_eq_none (by rw [List.length_take]; omega)]
theorem el_spl {C l:List AV} {J o sz k n:Nat} (hC:C.length=n*sz) (hJ:J<n) (hl:o+l.length<=sz):((spl (J*sz+o) l C).drop (k*sz)).take sz=if k=J then spl o l ((C.drop (J*sz)).take sz) else (C.drop (k*sz)).take sz:=by
 have h1:(J+1)*sz<=n*sz:=Nat.mul_le_mul_right _ hJ
 rw [Nat.succ_mul] at h1
 have hle:J*sz+o+l.length<=C.length:=by omega
 by_cases e:k=J
 · subst e
   rw [if_pos rfl]
   have hlen:((C.drop (k*sz)).take sz).length=sz:=by rw [List.length_take,List.length_drop]; omega
   apply List.ext_getElem?
   intro q
   by_cases hq:q<sz
   · rw [win_get hq,spl_get hle,spl_get (by omega),win_get hq]
     by_cases h2:o<=q/\q<o+l.length
     · rw [if_pos ⟨by omega,by omega⟩,if_pos h2]; congr 1; omega
     · rw [if_neg (by omega),if_neg h2]
   · rw [List.getElem?_eq_none (by rw [List.length_take]; omega),List.getElem?_eq_none (by rw [spl_len (by omega)]; omega)]
 · rw [if_neg e]
   refine win_ext fun q hq=>?_
   rw [spl_get hle,if_neg]
   rintro⟨h2,h3⟩
   rcases Nat.lt_or_gt_of_ne e with h | h
   · have:(k+1)*sz<=J*sz:=Nat.mul_le_mul_right _ h
     rw [Nat.succ_mul] at this; omega
   · have:(J+1)*sz<=k*sz:=Nat.mul_le_mul_right _ h
     rw [Nat.succ_mul] at this; omega
section
variable {c:Cx} {T:Tm} {G:GH} {Γ:Gam} {ρ ρ':Rho} {s s':SS} {cf:Cf} {ops:Array Oper} {i d:Nat}
theorem wts_put {Φ:Forms} {dd:Gd} {g j:Nat} {ks:List K2} {cs l:List AV} {fs fl:List TF} {o:Nat} (h:WtS Φ dd g j ks cs fs) (hl:WtS Φ dd g j ((ks.drop o).take l.length) l fl) (hle:o+l.length<=ks.length):∃fs',WtS Φ dd g j ks (spl o l cs) fs'/\wgt Φ fs'<=wgt Φ fs+wgt Φ fl/\(∀f∈fs',f∈fs∨f∈fl)/\(o=0/\l.length=ks.length->wgt Φ fs'=wgt Φ fl):=by
 have hk:ks=ks.take o++((ks.drop o).take l.length++(ks.drop o).drop l.length):=by rw [List.take_append_drop,List.take_append_drop]
 have h0:=h
 rw [hk] at h
 obtain⟨f1,f',e1,w1,w2⟩:=WtS.split h
 obtain⟨f2,f3,e2,w3,w4⟩:=WtS.split w2
 have hto:(ks.take o).length=o:=by rw [List.length_take]; omega
 have htl:((ks.drop o).take l.length).length=l.length:=by rw [List.length_take,List.length_drop]; omega
 rw [hto] at w1 w3 w4
 rw [htl,List.drop_drop] at w4
 have:=WtS.join (WtS.join w1 hl) w4
 refine⟨(f1++fl)++f3,?_,?_,?_,?_⟩
 · rw [hk]
   rw [<-List.append_assoc,List.drop_drop]
   rw [List.drop_drop] at this
   exact this
 · rw [e1,e2]; simp only [wgt_append]; omega
 · intro f hf
   rw [e1,e2]
   simp only [List.mem_append] at hf ⊢
   rcases hf with (hf | hf) | hf
   · exact .inl (.inl hf)
   · exact .inr hf
   · exact .inl (.inr (.inr hf))
 · rintro⟨rfl,hll⟩
   have hf1:f1=[]:=by
    have:ks.take 0=[]:=rfl
    rw [this] at w1
    exact w1.2
   have hf3:f3=[]:=by
    have:ks.drop (0+l.length)=[]:=List.drop_of_length_le (by omega)
    rw [this] at w4
    exact w4.2
   rw [hf1,hf3]; simp
theorem st_typed {t:TypeId} {x b J o g cc:Nat} {y:Operand} {v:SV} {l:List SC} {os:List Nat} {L:List Nat} {e:LE} {K:SS->R} (ho:(opAt ops i).op=.store t (.tmp x) y) (hg:(opAt ops i).guard=none) (hd:(opAt ops i).dst=none) (hΦ:cf.Φ=c.Φ) (hk:Ok c T G Γ ρ s) (hK:(K s).Ok)
  (hb:Γ.m b=some (.cells cc (ig ρ g) L)) (hJ:J<L.length) (hu:c.Φ.uni cc=true) (hx:T.at x=.rpt b (J*szOf c.P (c.Φ.ty cc)+o)) (hy:EvA c.nt T y (v.den ρ)) (hv:cellsS v=some l) (hi:(c.P.info? t).isSome=true) (hn:szOf c.P t=l.length) (hle:o+l.length<=(c.Φ.ks cc).length)
  (hc:chkL cf s g (ghost s.gs g) e (((c.Φ.ks cc).drop o).take l.length) l=some os) (he:0<=e.ev ρ/\J=(e.ev ρ).toNat) (hos:os=[]∨(o=0/\l.length=(c.Φ.ks cc).length/\(sumW os).ev ρ<=WU)):Hv c T G Γ ops i s ρ K:=by
 obtain⟨d1,d2,size,C,d3,d4,d5⟩:=hk.q.ht.b _ _ hb
 have e2:=cellsS_ok hv ρ
 have hll:(denL ρ l).length=l.length:=by simp [denL]
 obtain⟨fl,c1,c2,c3⟩:=chkL_ok hΦ hk (fun dv h=>ghost_ok h hk) he hc
 have hL:L[J]?=some L[J]:=List.getElem?_eq_getElem hJ
 have hLW:=d2 hu _ (List.mem_of_getElem? hL)
 obtain⟨fs0,w1,w2,w3⟩:=d5 J _ hL
 have hks:(c.Φ.ks cc).length=szOf c.P (c.Φ.ty cc):=by
  have h1:(J+1)*szOf c.P (c.Φ.ty cc)<=L.length*szOf c.P (c.Φ.ty cc):=Nat.mul_le_mul_right _ hJ
  rw [Nat.succ_mul] at h1
  rw [<-w1.len,List.length_take,List.length_drop]; omega
 have hfit:J*szOf c.P (c.Φ.ty cc)+o+l.length<=C.length:=by
  have h1:(J+1)*szOf c.P (c.Φ.ty cc)<=L.length*szOf c.P (c.Φ.ty cc):=Nat.mul_le_mul_right _ hJ
  rw [Nat.succ_mul] at h1
  omega
 refine StG.storeD (fun e=>by cases e) hg hd ho hx hy hi rfl (by rw [e2,hll,hn]) (by rw [e2]; exact denL_flat _ _) (by rw [e2]; exact denL_nf _ _) d3 (by rw [hn]; exact hfit) ⟨rfl,rfl,updΓ Γ b (.cells cc (ig ρ g) L),ρ,s,hK,Agr.refl _ _,Nat.le_refl _,hk.sat,?_⟩
 rw [e2,putL_spl]
 have hQ:=hk.q.chgT (x:=.cells cc (ig ρ g) L) (y:=.cells cc (ig ρ g) L) (tys':=[]) (g':=.cells .data (c.Φ.ty cc) size (spl (J*szOf c.P (c.Φ.ty cc)+o) (denL ρ l) C)) hb (by show (!c.Φ.uni cc)=false; rw [hu]; rfl) (DsLe.refl _) (fun el size' C' h=>by rw [d3] at h; cases h; exact⟨_,rfl⟩)
  (fun hr hl'=>⟨d1,d2,size,_,upd_same _ _ _,by rw [spl_len (by rw [hll]; exact hfit)]; exact d4,fun k m hkm=>?_⟩) (fun f h=>by cases h)
 · exact hQ.weak (fun _ _ h=>h) ⟨[],by simp⟩ (fun f h=>h) (fun p h=>h)
 · rw [el_spl d4 hJ (by rw [hll]; omega)]
   by_cases ek:k=J
   · subst ek
     rw [if_pos rfl]
     rw [hL] at hkm
     cases hkm
     obtain⟨fs',p1,p2,p3,p4⟩:=wts_put (o:=o) w1 (l:=denL ρ l) (by rw [hll]; exact c1) (by rw [hll]; exact hle)
     refine ElOk.le ⟨fs',p1,?_,fun f hf=>(p3 f hf).elim (w3 f) (c3 f)⟩ hr hl' d1.1
     rcases hos with rfl | ⟨ho0,hlk,hW⟩
     · rw [sumW,LE.ev_k] at c2
       have:wgt c.Φ fl=0:=by omega
       omega
     · have:=p4 ⟨ho0,by rw [hll]; exact hlk⟩
       rw [this,hLW]
       omega
   · rw [if_neg ek]
     exact (d5 k m hkm).le hr hl' d1.1
def osOk (s:SS) (os:List Nat) (o n m:Nat):Bool:=os.isEmpty||(Nat.beq o 0&&(Nat.beq n m&&ent s ((LE.k WU).sub (sumW os))))
theorem osOk_ok {os:List Nat} {o n m:Nat} (h:osOk s os o n m=true) (hs:Sat ρ s):os=[]∨(o=0/\n=m/\(sumW os).ev ρ<=WU):=by
 unfold osOk at h
 simp only [Bool.or_eq_true,Bool.and_eq_true] at h
 rcases h with h | ⟨h1,h2,h3⟩
 · exact .inl (List.isEmpty_iff.1 h)
 · refine .inr ⟨beq_ok h1,beq_ok h2,?_⟩
   have:=ent_ok h3 hs
   rw [LE.ev_sub,LE.ev_k] at this
   omega
def stT (cf:Cf) (t:TypeId) (cc g:Nat) (e:LE) (o:Nat) (v:SV) (s:SS) (K:SS->R):R:=match cellsS v with
 | some l=>bif cf.Φ.uni cc&&((cf.P.info? t).isSome&&(Nat.beq (szOf cf.P t) l.length&&Nat.ble (o+l.length) (cf.Φ.ks cc).length)) then
   (match chkL cf s g (ghost s.gs g) e (((cf.Φ.ks cc).drop o).take l.length) l with
    | some os=>bif osOk s os o l.length (cf.Φ.ks cc).length then K s else .bad 106 s
    | none=>.bad 107 s)
   else .bad 108 s
 | none=>.bad 109 s
def sto (cf:Cf) (t:TypeId) (x v:SV) (s:SS) (K:SS->R):R:=match x with
 | .v false [.rpt b o]=>hst cf t b o v s K
 | .v false [.elp y e sz o]=>(match fSl s.ty y with
   | some (cc,g)=>bif inS s y e&&Nat.beq sz (szOf cf.P (cf.Φ.ty cc)) then stT cf t cc g e o v s K else .bad 110 s
   | none=>.bad 111 s)
 | .v false [.ref y]=>(match fPt s.ty y with | some (cc,g)=>stT cf t cc g (.k 0) 0 v s K | none=>.bad 112 s)
 | .v false [.ptp y o]=>(match fPt s.ty y with | some (cc,g)=>stT cf t cc g (.k 0) o v s K | none=>.bad 112 s)
 | _=>.bad 113 s
theorem sto_ok {t:TypeId} {x:Nat} {y:Operand} {u v:SV} {K:SS->R} (ho:(opAt ops i).op=.store t (.tmp x) y) (hg:(opAt ops i).guard=none) (hd:(opAt ops i).dst=none) (hP:cf.P=c.P) (hΦ:cf.Φ=c.Φ) (h:(sto cf t u v s K).Ok) (hk:Ok c T G Γ ρ s) (hx:T.at x=u.den ρ) (hy:EvA c.nt T y (v.den ρ)):Hv c T G Γ ops i s ρ K:=by
 have typed:∀{cc g o:Nat} {e:LE} {b J:Nat} {L:List Nat},(stT cf t cc g e o v s K).Ok->0<=e.ev ρ->J=(e.ev ρ).toNat->(c.Φ.uni cc=true->Γ.m b=some (.cells cc (ig ρ g) L)/\J<L.length/\T.at x=.rpt b (J*szOf c.P (c.Φ.ty cc)+o))->Hv c T G Γ ops i s ρ K:=fun {cc g o e b J L} h he hJ hh=>by
  unfold stT at h
  rw [hP,hΦ] at h
  cases hc:cellsS v with
  | none=>rw [hc] at h; cases h
  | some l =>
    rw [hc] at h
    simp only at h
    cases hb:(c.Φ.uni cc&&((c.P.info? t).isSome&&(Nat.beq (szOf c.P t) l.length&&Nat.ble (o+l.length) (c.Φ.ks cc).length))) with
    | false=>rw [hb] at h; cases h
    | true =>
      rw [hb] at h
      simp only [cond_true] at h
      simp only [Bool.and_eq_true] at hb
      obtain⟨b1,b2,b3,b4⟩:=hb
      obtain⟨q1,q2,q3⟩:=hh b1
      cases hcl:chkL cf s g (ghost s.gs g) e (((c.Φ.ks cc).drop o).take l.length) l with
      | none=>rw [hcl] at h; cases h
      | some os =>
        rw [hcl] at h
        simp only at h
        cases hos:osOk s os o l.length (c.Φ.ks cc).length with
        | false=>rw [hos] at h; cases h
        | true =>
          rw [hos] at h
          exact st_typed ho hg hd hΦ hk h q1 q2 b1 q3 hy hc b2 (beq_ok b3) (ble_ok b4) hcl ⟨he,hJ⟩ (osOk_ok hos hk.sat)
 unfold sto at h
 split at h
 · exact hst_ok ho hg hd hP h hk hx hy
 · rename_i q e sz o
   cases hf:fSl s.ty q with
   | none=>rw [hf] at h; cases h
   | some p =>
     obtain⟨cc,g⟩:=p
     rw [hf] at h
     simp only at h
     rw [hP,hΦ] at h
     cases hb:(inS s q e&&Nat.beq sz (szOf c.P (c.Φ.ty cc))) with
     | false=>rw [hb] at h; cases h
     | true =>
       rw [hb] at h
       simp only [cond_true] at h
       rw [Bool.and_eq_true] at hb
       obtain⟨cc',g',b0,o0,cp0,r1,r2,r3,r4,r5⟩:=inS_ok hb.1 hk
       rw [hf] at r1
       simp only [Option.some.injEq,Prod.mk.injEq] at r1
       obtain⟨rfl,rfl⟩:=r1
       have hsz:=beq_ok hb.2
       have hu:c.Φ.uni cc=true:=by
        have h':=h
        unfold stT at h'
        rw [hΦ] at h'
        cases hu:c.Φ.uni cc with
        | true=>rfl
        | false =>
          rw [hu] at h'
          cases hc:cellsS v with
          | none=>rw [hc] at h'; cases h'
          | some l=>rw [hc] at h'; cases h'
       obtain⟨_,ht⟩:=typedU r5 hu
       rcases ht with ⟨_,h0⟩ | ⟨b,cap,L,size,C,q1,q2,q3,q4,q5,q6⟩
       · rw [h0] at r4; simp at r4
       · refine typed (b:=b) (J:=(e.ev ρ).toNat) (L:=L) h r3 rfl fun _=>⟨q2,by have:=take_len q3; omega,?_⟩
         rw [hx,hsz]
         show elpA (ρ q).vv _=_
         rw [elp_rpt q1,Nat.zero_add]
 · rename_i q
   cases hf:fPt s.ty q with
   | none=>rw [hf] at h; cases h
   | some p =>
     obtain⟨cc,g⟩:=p
     rw [hf] at h
     obtain⟨b,L,q1,q2,q3⟩:=hk.ty (fPt_mem hf)
     refine typed (b:=b) (J:=0) (L:=L) h (by rw [LE.ev_k]; exact Int.le_refl _) (by rw [LE.ev_k]; rfl) fun _=>⟨q2,q3,?_⟩
     rw [hx,Nat.zero_mul,Nat.add_zero]
     exact q1
 · rename_i q o
   cases hf:fPt s.ty q with
   | none=>rw [hf] at h; cases h
   | some p =>
     obtain⟨cc,g⟩:=p
     rw [hf] at h
     obtain⟨b,L,q1,q2,q3⟩:=hk.ty (fPt_mem hf)
     refine typed (b:=b) (J:=0) (L:=L) h (by rw [LE.ev_k]; exact Int.le_refl _) (by rw [LE.ev_k]; rfl) fun _=>⟨q2,q3,?_⟩
     rw [hx,Nat.zero_mul]
     show ptpA (ρ q).vv o=_
     rw [show (ρ q).vv=.rpt b 0 from q1]
     rfl
 · cases h
end
end Go.Rd
namespace Go.Rt
open Go.Rex Go.RowKit
def C1 (v:AV):Prop:=nf v/\oneB v=true
def CL (l:List AV):Prop:=∀v∈l,C1 v
theorem cl_nil:CL []:=fun v h=>by simp at h
theorem CL.nf {l:List AV} (h:CL l):nfL l:=fun v hv=>(h v hv).1
theorem CL.flat {l:List AV} (h:CL l):flat l=true:=flat_all fun v hv=>(h v hv).2
theorem c1_ref {v:AV} (h:Rd.isRefA v=true):C1 v:=by
 cases v<;>first | (cases h; done) | skip
 · exact⟨nf_nilp,rfl⟩
 · exact⟨nf_nils,rfl⟩
 · exact⟨nf_nilmap,rfl⟩
 · exact⟨nf_rsl _ _ _ _,rfl⟩
 · exact⟨nf_rpt _ _,rfl⟩
 · exact⟨nf_rmp _,rfl⟩
section
variable {c:Cx} {ops:Array Oper} {i m d f:Nat} {T:Tm} {G G':GH} {Γ Γ':Gam} {st st':St} {v u:AV} {P:Program} {Φ:Forms} {n0 nt:Nat}
theorem tok_ref' {f:TF} (h:TOk P Φ G Γ f):Rd.isRefA f.v=true:=Rd.tok_ref (c:=⟨P,Φ,0,0,[],[],G,Γ⟩) h
theorem Kv.c1 {dd:Gd} {g j:Nat} {k:K2} {f:List TF} (h:Kv Φ dd g j k v f) (hf:∀x∈f,TOk P Φ G Γ x):C1 v:=by
 have one:∀x,f=[x]->x.v=v->C1 v:=fun x e ev=>by subst e; subst ev; exact c1_ref (tok_ref' (hf x (List.mem_singleton_self _)))
 cases k with
 | int k=>obtain⟨⟨z,rfl⟩,_⟩:=h; exact⟨nf_int _ _,rfl⟩
 | nat b=>obtain⟨⟨n,rfl,_⟩,_⟩:=h; exact⟨nf_int _ _,rfl⟩
 | str=>obtain⟨⟨l,n,rfl,_⟩,_⟩:=h; exact⟨nf_str _ _,rfl⟩
 | strj=>obtain⟨⟨l,n,rfl,_⟩,_⟩:=h; exact⟨nf_str _ _,rfl⟩
 | strb b=>obtain⟨⟨l,n,rfl,_⟩,_⟩:=h; exact⟨nf_str _ _,rfl⟩
 | bool=>obtain⟨⟨b,rfl⟩,_⟩:=h; exact⟨nf_bool _,rfl⟩
 | flt k=>obtain⟨⟨b,rfl⟩,_⟩:=h; exact⟨nf_float _ _,rfl⟩
 | sl c=>obtain⟨ns,h⟩:=h; exact one _ h rfl
 | slb c b=>obtain⟨ns,h,_⟩:=h; exact one _ h rfl
 | slg c b=>obtain⟨ns,h,_⟩:=h; exact one _ h rfl
 | slk c b=>obtain⟨ns,h,_⟩:=h; exact one _ h rfl
 | slf c=>obtain⟨ns,h,_⟩:=h; exact one _ h rfl
 | ptr c=>exact one _ h rfl
 | ptn c=>rcases h with ⟨rfl,_⟩ | h
          · exact⟨nf_nilp,rfl⟩
          · exact one _ h rfl
 | mp c=>exact one _ h rfl
 | mpn c=>rcases h with ⟨rfl,_⟩ | h
          · exact⟨nf_nilmap,rfl⟩
          · exact one _ h rfl
 | bad=>exact h.elim
theorem WtS.cl {dd:Gd} {g j:Nat}:∀{ks:List K2} {cs:List AV} {fs:List TF},WtS Φ dd g j ks cs fs->(∀f∈fs,TOk P Φ G Γ f)->CL cs
 | [],_,_,⟨h,_⟩,hf=>by subst h; exact cl_nil
 | k::ks,_,_,⟨v,cs',f,fs',h1,h2,h3,h4⟩,hf=>by
   subst h1 h2
   intro x hx
   rcases List.mem_cons.1 hx with rfl | hx
   · exact h3.c1 fun y hy=>hf y (List.mem_append_left _ hy)
   · exact WtS.cl h4 (fun y hy=>hf y (List.mem_append_right _ hy)) x hx
theorem ElOk.cl {m cc g j:Nat} {cs:List AV} (h:ElOk P Φ G Γ m cc g j cs):CL cs:=by
 obtain⟨fs,h1,_,h3⟩:=h
 exact h1.cl h3
theorem srcG_win {sz b o len cap size:Nat} {wr:BK} {el:TypeId} {C:List AV} (hv:v=.rsl b o len cap) (hb:G b=some (.cells wr el size C)) (hle:o+len*sz<=C.length) (hn:CL ((C.drop o).take (len*sz))) :
  SrcG P n0 nt T .e (z 0) G sz len v ((C.drop o).take (len*sz)):=by
 subst hv
 have hlen:((C.drop o).take (len*sz)).length=len*sz:=by rw [List.length_take,List.length_drop]; omega
 refine⟨hlen,hn.nf,hn.flat,fun B w0 ι a w hs=>⟨by simp [ren,Builtin.lenOf],?_⟩⟩
 simp only [ren]
 refine first_ofR (by rw [renL_length,hlen]) fun j hj=>?_
 rw [told_cells hs hb _ (by omega) (fun _ he=>by
  have:=(hn _ (List.mem_of_getElem? (i:=j) (by rw [List.getElem?_take_of_lt (by first | exact hj | (rw [renL_length,hlen] at hj; exact hj)),List.getElem?_drop]; exact he))).2
  cases this),renL_get,List.getElem?_take_of_lt hj,List.getElem?_drop]
theorem win_at {e n o j:Nat} {C:List AV} (hj:j<n) (hle:o+n*e<=C.length):(((C.drop o).take (n*e)).drop (j*e)).take e=(C.drop (o+j*e)).take e:=by
 have h1:(j+1)*e<=n*e:=Nat.mul_le_mul_right _ hj
 rw [Nat.succ_mul] at h1
 rw [List.drop_take,List.take_take,List.drop_drop,Nat.min_eq_left (by omega)]
theorem cl_win {e n:Nat} {E:List AV} (hlen:E.length=n*e) (hE:∀j,j<n->CL ((E.drop (j*e)).take e)):CL E:=fun x hx=>by
 obtain⟨k,hk,rfl⟩:=List.getElem_of_mem hx
 have hk':=hk
 rw [hlen] at hk
 have hpos:0<e:=by
  rcases Nat.eq_zero_or_pos e with h0 | h0
  · rw [h0] at hk; omega
  · exact h0
 have hj:k/e<n:=Nat.div_lt_of_lt_mul (by rw [Nat.mul_comm]; exact hk)
 have hd:=Nat.div_add_mod k e
 have hm:=Nat.mod_lt k hpos
 rw [Nat.mul_comm] at hd
 refine hE (k/e) hj _ ?_
 refine List.mem_of_getElem? (i:=k%e) ?_
 rw [List.getElem?_take_of_lt hm,List.getElem?_drop,hd]
 exact List.getElem?_eq_getElem hk'
theorem src_key {cc g:Nat} {ns:List Nat} {b o cap size:Nat} {wr:BK} {el:TypeId} {C:List AV} (hv:v=.rsl b o ns.length cap) (hb:G b=some (.cells wr el size C)) (hle:o+ns.length*szOf P (Φ.ty cc)<=C.length) (hel:∀j m,ns[j]?=some m->ElOk P Φ G Γ m cc g j ((C.drop (o+j*szOf P (Φ.ty cc))).take (szOf P (Φ.ty cc)))) :
  ∃E,SrcG P n0 nt T .e (z 0) G (szOf P (Φ.ty cc)) ns.length v E/\CL E/\∀j m,ns[j]?=some m->ElOk P Φ G Γ m cc g j ((E.drop (j*szOf P (Φ.ty cc))).take (szOf P (Φ.ty cc))):=by
 have hE:∀j m,ns[j]?=some m->ElOk P Φ G Γ m cc g j ((((C.drop o).take (ns.length*szOf P (Φ.ty cc))).drop (j*szOf P (Φ.ty cc))).take (szOf P (Φ.ty cc))):=fun j m hj=>by
  rw [win_at (List.getElem?_eq_some_iff.1 hj).1 hle]
  exact hel j m hj
 have hcl:=cl_win (n:=ns.length) (e:=szOf P (Φ.ty cc)) (E:=(C.drop o).take (ns.length*szOf P (Φ.ty cc))) (by rw [List.length_take,List.length_drop]; omega) fun j hj=>(hE j _ (List.getElem?_eq_getElem hj)).cl
 exact⟨_,srcG_win hv hb hle hcl,hcl,hE⟩
theorem TOk.src {cc g:Nat} {ns:List Nat} (h:TOk P Φ G Γ (.sl v cc g ns)) (ht:HT P Φ G Γ):∃E,SrcG P n0 nt T .e (z 0) G (szOf P (Φ.ty cc)) ns.length v E/\CL E/\∀j m,ns[j]?=some m->ElOk P Φ G Γ m cc g j ((E.drop (j*szOf P (Φ.ty cc))).take (szOf P (Φ.ty cc))):=by
 obtain⟨_,h⟩:=h
 rcases h with ⟨rfl,rfl⟩ | ⟨rfl,h⟩ | ⟨b,cap,L,size0,C0,h1,h2,h3,_⟩
 · exact⟨[],srcG_nil rfl,cl_nil,fun j m hj=>by simp at hj⟩
 · cases h with
   | nil=>exact⟨[],srcG_nil rfl,cl_nil,fun j m hj=>by simp at hj⟩
   | @emp _ b o cp hu=>exact⟨[],⟨by simp,nfL_nil,rfl,fun B w0 ι a w hs=>⟨by simp [ren,Builtin.lenOf],by simp only [ren]; exact first_ofR (l:=renL ι []) (by simp [renL]) fun j hj=>by simp at hj⟩⟩,cl_nil,fun j m hj=>by simp at hj⟩
   | blk hb hu hl h=>exact src_key rfl hb hl fun j m hj=>(h j m hj).el ht.z.1 j
 · obtain⟨_,_,size,C,q1,q2,q3⟩:=ht.b _ _ h2
   have hle:=take_len h3
   refine src_key h1 q1 (by rw [q2,Nat.zero_add]; exact Nat.mul_le_mul_right _ hle) fun j m hj=>?_
   rw [Nat.zero_add]
   refine q3 j m ?_
   have hlt:j<ns.length:=(List.getElem?_eq_some_iff.1 hj).1
   rw [h3,List.getElem?_take,if_pos hlt] at hj
   exact hj
theorem overL_end {C l:List AV} {p:Nat} (h:p=C.length):overL C p l=C++l:=by
 subst h; unfold overL; rw [List.take_length,List.drop_of_length_le (by omega),List.append_nil]
theorem win_get {C:List AV} {a s k:Nat} (h:k<s):((C.drop a).take s)[k]?=C[a+k]?:=Rd.win_get h
theorem Q.appL (hq:Q c T G Γ st) {cc:Nat} {ms ns:List Nat} {E2:List AV} {osA:List Own} (ho:st.os.Perm (osA++[.lst v cc ms])) (hrw:c.Φ.raw cc=false) (hsz:0<szOf c.P (c.Φ.ty cc)) (hE2:E2.length=ns.length*szOf c.P (c.Φ.ty cc)) (hcl:CL E2) (hel:∀j m,ns[j]?=some m->ElOk c.P c.Φ G Γ m cc 0 (ms.length+j) ((E2.drop (j*szOf c.P (c.Φ.ty cc))).take (szOf c.P (c.Φ.ty cc)))) (hlim:ms.length+ns.length<=LIM) :
  ∃E1,Ext G v (c.Φ.ty cc) (szOf c.P (c.Φ.ty cc)) ms.length E1/\nfL E1/\(∀G' v',AppR c.n0 G G' v v' (c.Φ.ty cc) (szOf c.P (c.Φ.ty cc)) ms.length ns.length E1 E2->∃Γ',Q c T G' Γ' ⟨st.L,osA++[.lst v' cc (ms++ns)],.sl v' cc 0 (ms++ns)::st.tys,st.gs⟩):=by
 have hown:OwnOk c.P c.Φ G Γ (.lst v cc ms):=hq.own _ (ho.mem_iff.2 (by simp))
 obtain⟨huni,hlm,hown'⟩:=hown
 obtain⟨E1,t1,t2,t3,t4⟩:∃E1,Ext G v (c.Φ.ty cc) (szOf c.P (c.Φ.ty cc)) ms.length E1/\CL E1/\E1.length=ms.length*szOf c.P (c.Φ.ty cc)/\(∀j m,ms[j]?=some m->ElOk c.P c.Φ G Γ m cc 0 j ((E1.drop (j*szOf c.P (c.Φ.ty cc))).take (szOf c.P (c.Φ.ty cc)))):=by
  rcases hown' with ⟨h1,rfl⟩ | ⟨b,cap,size,C,h1,h2,h3,h4,h5⟩
  · exact⟨[],.inl ⟨h1,rfl,rfl⟩,cl_nil,by simp,fun j m hj=>(by simp at hj)⟩
  · obtain⟨_,_,size',C',q1,q2,q3⟩:=hq.ht.b _ _ h2
    rw [h3] at q1
    simp only [Option.some.injEq,Gh.cells.injEq,true_and] at q1
    obtain⟨_,rfl⟩:=q1
    exact⟨C,.inr ⟨b,0,cap,size,C,h1,h3,by omega,by rw [List.drop_zero,<-q2,List.take_length],by omega,h5⟩,cl_win q2 fun j hj=>(q3 j _ (List.getElem?_eq_getElem hj)).cl,q2,q3⟩
 refine⟨E1,t1,t2.nf,fun G' v' ha'=>?_⟩
 have fin:∀(b c' size:Nat),G'=upd G b (.cells .data (c.Φ.ty cc) size (E1++E2))->v'=.rsl b 0 (ms.length+ns.length) c'->c'*szOf c.P (c.Φ.ty cc)<=size->ms.length+ns.length<=c'->((Own.lst v cc ms).blk=some b∨G b=none)->(Γ.m b=some (.cells cc 0 ms)∨Γ.m b=none)->((G b).isSome=true∨c.n0<=b)->(∀el size C,G b≠some (.cells .raw el size C))->(∀el size' C,G b=some (.cells .data el size' C)->el=c.Φ.ty cc/\size'=size) ->
   ∃Γ',Q c T G' Γ' ⟨st.L,osA++[.lst v' cc (ms++ns)],.sl v' cc 0 (ms++ns)::st.tys,st.gs⟩:=by
  intro b c' size hG hv hcs hlc hob hΓ hgr hraw hdat
  subst hG hv
  have hll:(ms++ns).length=ms.length+ns.length:=List.length_append
  refine⟨updΓ Γ b (.cells cc 0 (ms++ns)),?_⟩
  have:=hq.chgO (b:=b) (G':=upd G b (.cells .data (c.Φ.ty cc) size (E1++E2))) (Γ':=updΓ Γ b (.cells cc 0 (ms++ns))) (o':=.lst (.rsl b 0 (ms.length+ns.length) c') cc (ms++ns)) (tys':=[.sl (.rsl b 0 (ms.length+ns.length) c') cc 0 (ms++ns)]) ho (grow_upd hgr) (fun k h=>updΓ_ne h) (fun k h=>upd_ne h) (by rw [upd_same]; rfl) hraw (fun el size' C' h=>⟨E1++E2,by obtain⟨r1,r2⟩:=hdat _ _ _ h; subst r1 r2; exact upd_same _ _ _⟩)
   (fun x h=>by
    rcases hΓ with h0 | h0
    · rw [h0] at h; cases h; exact⟨_,updΓ_same _ _ _,rfl,rfl,ns,rfl⟩
    · rw [h0] at h; cases h) rfl rfl hob rfl
   (fun x hr hl h=>by
    rw [updΓ_same] at h; cases h
    refine⟨⟨hq.ht.z.2,hrw⟩,fun h=>(by rw [huni] at h; cases h),size,E1++E2,upd_same _ _ _,by rw [List.length_append,t3,hE2,hll,Nat.add_mul],fun k m hk=>?_⟩
    by_cases hlt:k<ms.length
    · have h1:(k+1)*szOf c.P (c.Φ.ty cc)<=ms.length*szOf c.P (c.Φ.ty cc):=Nat.mul_le_mul_right _ hlt
      rw [Nat.succ_mul] at h1
      rw [List.drop_append_of_le_length (by omega),List.take_append_of_le_length (by rw [List.length_drop]; omega)]
      rw [List.getElem?_append_left hlt] at hk
      exact (t4 k m hk).le hr hl hq.ht.z.2
    · rw [List.getElem?_append_right (by omega)] at hk
      have h1:k*szOf c.P (c.Φ.ty cc)=ms.length*szOf c.P (c.Φ.ty cc)+(k-ms.length)*szOf c.P (c.Φ.ty cc):=by rw [<-Nat.add_mul]; congr 1; omega
      rw [h1,<-t3,List.drop_append]
      rw [List.drop_of_length_le (by omega),List.nil_append,Nat.add_sub_cancel_left]
      have:=hel _ m hk
      rw [show ms.length+(k-ms.length)=k by omega] at this
      exact this.le hr hl hq.ht.z.2)
   (fun _ _=>⟨huni,by rw [hll]; exact hlim,.inr ⟨b,c',size,E1++E2,by rw [hll],updΓ_same _ _ _,upd_same _ _ _,hcs,by rw [hll]; omega⟩⟩)
   (fun f hf _ _=>by
    rw [List.mem_singleton.1 hf]
    exact⟨by rw [hll]; exact hlim,.inr (.inr ⟨b,c',ms++ns,size,E1++E2,by rw [hll],updΓ_same _ _ _,(List.take_length (l:=ms++ns)).symm,upd_same _ _ _,hcs,by rw [hll]; omega⟩)⟩)
  exact this
 rcases ha' with ⟨rfl,rfl,h1,h2,rfl⟩ | ⟨b,o,cap,size,C,rfl,h2,h3,h4,h5,h6,h7⟩ | ⟨b,c',size,h1,h2,h3,h4,h5,h6⟩
 · obtain⟨rfl,rfl⟩:ms=[]/\ns=[]:=⟨List.length_eq_zero_iff.1 h1,List.length_eq_zero_iff.1 h2⟩
   refine⟨Γ,?_⟩
   have h0:=hq.weak (st':=⟨st.L,osA++[.lst .nils cc []],st.tys,st.gs⟩) (fun _ _ h=>h) ⟨[],by simpa using ho⟩ (fun f h=>h) (fun p h=>h)
   exact⟨h0.ml,h0.at_,h0.ht0,h0.rl,h0.grow,h0.own,h0.new,h0.nd,h0.ht,fun f hm=>by
    rcases List.mem_cons.1 hm with rfl | hm
    · exact⟨Nat.zero_le _,.inl ⟨rfl,rfl⟩⟩
    · exact h0.ty f hm,h0.gs⟩
 · rcases hown' with ⟨h,_⟩ | ⟨b',cap2,size2,C2,k1,k2,k3,k4,k5⟩
   · cases h
   · cases k1
     rw [h2] at k3; cases k3
     obtain⟨_,_,size',C',q1,q2,q3⟩:=hq.ht.b _ _ k2
     rw [h2] at q1; cases q1
     have hC:C=E1:=by
      rcases t1 with ⟨h,_⟩ | ⟨_,_,_,_,_,g1,g2,g3,g4,_⟩
      · cases h
      · cases g1; rw [h2] at g2; cases g2
        rw [<-g4,List.drop_zero,<-q2,List.take_length]
     subst hC
     exact fin b cap size (by rw [h7,overL_end (by omega)]) h3 (by omega) h4 (.inl rfl) (.inl k2) (.inl (by rw [h2]; rfl)) (fun _ _ _ h=>by rw [h2] at h; cases h) fun el size' C' h=>by rw [h2] at h; cases h; exact⟨rfl,rfl⟩
 · exact fin b c' size h6 h3 h5 h4 (.inr h2) (.inr (hq.ht.none h2)) (.inr h1) (fun _ _ _ h=>by rw [h2] at h; cases h) fun _ _ _ h=>by rw [h2] at h; cases h
theorem over_el {C E:List AV} {n k j sz:Nat} (hE:E.length=k*sz) (hC:n*sz<=C.length):((overL C (n*sz) E).drop (j*sz)).take sz=if n<=j/\j<n+k then (E.drop ((j-n)*sz)).take sz else (C.drop (j*sz)).take sz:=by
 by_cases h:n<=j/\j<n+k
 · rw [if_pos h]
   refine Rd.win_ext fun q hq=>?_
   have h1:n*sz<=j*sz:=Nat.mul_le_mul_right _ h.1
   have h2:(j+1)*sz<=(n+k)*sz:=Nat.mul_le_mul_right _ h.2
   rw [Nat.succ_mul,Nat.add_mul] at h2
   rw [overL_get hC,if_pos ⟨by omega,by rw [hE]; omega⟩,Nat.sub_mul]
   congr 1; omega
 · rw [if_neg h]
   refine Rd.win_ext fun q hq=>?_
   rw [overL_get hC,if_neg]
   rintro⟨h1,h2⟩
   refine h ⟨?_,?_⟩
   · rcases Nat.lt_or_ge j n with h3 | h3
     · have h4:(j+1)*sz<=n*sz:=Nat.mul_le_mul_right _ h3
       rw [Nat.succ_mul] at h4; omega
     · exact h3
   · rcases Nat.lt_or_ge j (n+k) with h3 | h3
     · exact h3
     · have h4:(n+k)*sz<=j*sz:=Nat.mul_le_mul_right _ h3
       rw [Nat.add_mul] at h4; rw [hE] at h2; omega
theorem all_WU {l:List Nat} (h:∀m∈l,m=WU):l=List.replicate l.length WU:=List.eq_replicate_iff.2 ⟨rfl,h⟩
theorem typedU' {cc g:Nat} {ns:List Nat} (h:TOk c.P c.Φ G Γ (.sl v cc g ns)) (hu:c.Φ.uni cc=true):ns.length<=LIM/\((v=.nils/\ns=[])∨∃b cap L size C,v=.rsl b 0 ns.length cap/\Γ.m b=some (.cells cc g L)/\ns=L.take ns.length/\G b=some (.cells .data (c.Φ.ty cc) size C)/\cap*szOf c.P (c.Φ.ty cc)<=size/\ns.length<=cap):=Rd.typedU h hu
theorem Q.appU (hq:Q c T G Γ st) {cc g n:Nat} {ns:List Nat} {E2:List AV} (hv:TOk c.P c.Φ G Γ (.sl v cc g ns)) (hun:c.Φ.uni cc=true) (hrw:c.Φ.raw cc=false) (hg:g<Γ.ng) (hE2:E2.length=n*szOf c.P (c.Φ.ty cc)) (hcl:CL E2) (hel:∀j,j<n->ElOk c.P c.Φ G Γ WU cc g (ns.length+j) ((E2.drop (j*szOf c.P (c.Φ.ty cc))).take (szOf c.P (c.Φ.ty cc)))) (hlim:ns.length+n<=LIM) :
  ∃E1,Ext G v (c.Φ.ty cc) (szOf c.P (c.Φ.ty cc)) ns.length E1/\nfL E1/\(∀G' v',AppR c.n0 G G' v v' (c.Φ.ty cc) (szOf c.P (c.Φ.ty cc)) ns.length n E1 E2->∃Γ',Q c T G' Γ' ⟨st.L,st.os,.sl v' cc g (List.replicate (ns.length+n) WU)::st.tys,st.gs⟩):=by
 obtain⟨hlm,htd⟩:=typedU' hv hun
 obtain⟨E1,t1,t2,t3,t4⟩:∃E1,Ext G v (c.Φ.ty cc) (szOf c.P (c.Φ.ty cc)) ns.length E1/\CL E1/\E1.length=ns.length*szOf c.P (c.Φ.ty cc)/\(∀j,j<ns.length->ElOk c.P c.Φ G Γ WU cc g j ((E1.drop (j*szOf c.P (c.Φ.ty cc))).take (szOf c.P (c.Φ.ty cc)))):=by
  rcases htd with ⟨h1,rfl⟩ | ⟨b,cap,L,size,C,h1,h2,h3,h4,h5,h6⟩
  · exact⟨[],.inl ⟨h1,rfl,rfl⟩,cl_nil,by simp,fun j hj=>(by simp at hj)⟩
  · obtain⟨_,q5,size',C',q1,q2,q3⟩:=hq.ht.b _ _ h2
    rw [h4] at q1; cases q1
    have hle:=take_len h3
    have hle2:ns.length*szOf c.P (c.Φ.ty cc)<=C.length:=by rw [q2]; exact Nat.mul_le_mul_right _ hle
    have hlen:(C.take (ns.length*szOf c.P (c.Φ.ty cc))).length=ns.length*szOf c.P (c.Φ.ty cc):=by rw [List.length_take]; omega
    have hel:∀j,j<ns.length->ElOk c.P c.Φ G Γ WU cc g j (((C.take (ns.length*szOf c.P (c.Φ.ty cc))).drop (j*szOf c.P (c.Φ.ty cc))).take (szOf c.P (c.Φ.ty cc))):=fun j hlt=>by
     have h8:(j+1)*szOf c.P (c.Φ.ty cc)<=ns.length*szOf c.P (c.Φ.ty cc):=Nat.mul_le_mul_right _ hlt
     rw [Nat.succ_mul] at h8
     rw [Rd.win_ext (X:=C.take (ns.length*szOf c.P (c.Φ.ty cc))) (Y:=C) (b:=j*szOf c.P (c.Φ.ty cc)) fun k hk=>by rw [List.getElem?_take_of_lt (by omega)]]
     have hL:L[j]?=some L[j]:=List.getElem?_eq_getElem (by omega)
     have:=q3 j _ hL
     rwa [q5 hun _ (List.mem_of_getElem? hL)] at this
    exact⟨C.take (ns.length*szOf c.P (c.Φ.ty cc)),.inr ⟨b,0,cap,size,C,h1,h4,by omega,by rw [List.drop_zero],by omega,h6⟩,cl_win hlen fun j hj=>(hel j hj).cl,hlen,hel⟩
 refine⟨E1,t1,t2.nf,fun G' v' ha'=>?_⟩
 rcases ha' with ⟨rfl,rfl,h1,h2,rfl⟩ | ⟨b,o,cap,size,C,rfl,h2,h3,h4,h5,h6,h7⟩ | ⟨b,c',size,h1,h2,h3,h4,h5,h6⟩
 · rw [h1,h2]
   refine⟨Γ,hq.ml,hq.at_,hq.ht0,hq.rl,hq.grow,hq.own,hq.new,hq.nd,hq.ht,fun f hm=>?_,hq.gs⟩
   rcases List.mem_cons.1 hm with rfl | hm
   · exact⟨Nat.zero_le _,.inl ⟨rfl,rfl⟩⟩
   · exact hq.ty f hm
 · rcases htd with ⟨h,_⟩ | ⟨b',cap2,L,size2,C2,k1,k2,k3,k4,k5,k6⟩
   · cases h
   · cases k1
     rw [h2] at k4; cases k4
     obtain⟨q0,q5,size',C',q1,q2,q3⟩:=hq.ht.b _ _ k2
     rw [h2] at q1; cases q1
     have hle:=take_len k3
     have hle2:ns.length*szOf c.P (c.Φ.ty cc)<=C.length:=by rw [q2]; exact Nat.mul_le_mul_right _ hle
     rw [Nat.zero_add] at h7
     have hLL:(L++List.replicate (ns.length+n-L.length) WU).length=max L.length (ns.length+n):=by rw [List.length_append,List.length_replicate]; omega
     have hLu:∀m∈L++List.replicate (ns.length+n-L.length) WU,m=WU:=fun m hm=>(List.mem_append.1 hm).elim (q5 hun m) fun h=>List.eq_of_mem_replicate h
     subst h7 h3
     refine⟨updΓ Γ b (.cells cc g (L++List.replicate (ns.length+n-L.length) WU)),?_⟩
     have:=hq.chgT (b:=b) (x:=.cells cc g L) (y:=.cells cc g (L++List.replicate (ns.length+n-L.length) WU)) (g':=.cells .data (c.Φ.ty cc) size (overL C (ns.length*szOf c.P (c.Φ.ty cc)) E2)) (tys':=[.sl (.rsl b 0 (ns.length+n) cap) cc g (List.replicate (ns.length+n) WU)]) k2 (by show (!c.Φ.uni cc)=false; rw [hun]; rfl) ⟨rfl,rfl,_,rfl⟩ (fun el size' C' h=>by rw [h2] at h; cases h; exact⟨_,rfl⟩)
      (fun hr hl=>⟨q0,fun _=>hLu,size,_,upd_same _ _ _,by
       rw [overL_length hle2,hLL,q2,hE2,<-Nat.add_mul]
       rcases Nat.le_total L.length (ns.length+n) with h | h
       · rw [Nat.max_eq_right h,Nat.max_eq_right (Nat.mul_le_mul_right _ h)]
       · rw [Nat.max_eq_left h,Nat.max_eq_left (Nat.mul_le_mul_right _ h)],fun j m hj=>by
       rw [over_el hE2 hle2]
       have hm:m=WU:=hLu m (List.mem_of_getElem? hj)
       subst hm
       by_cases h:ns.length<=j/\j<ns.length+n
       · rw [if_pos h]
         have:=hel (j-ns.length) (by omega)
         rw [show ns.length+(j-ns.length)=j by omega] at this
         exact this.le hr hl hg
       · rw [if_neg h]
         have hj':=(List.getElem?_eq_some_iff.1 hj).1
         rw [hLL] at hj'
         have hL:L[j]?=some L[j]:=List.getElem?_eq_getElem (by omega)
         have:=q3 j _ hL
         rw [q5 hun _ (List.mem_of_getElem? hL)] at this
         exact this.le hr hl hg⟩)
      (fun f hf=>by
       rw [List.mem_singleton.1 hf]
       refine⟨by rw [List.length_replicate]; exact hlim,.inr (.inr ⟨b,cap,_,size,_,by rw [List.length_replicate],updΓ_same _ _ _,?_,upd_same _ _ _,by omega,by rw [List.length_replicate]; omega⟩)⟩
       rw [all_WU hLu,List.take_replicate,List.length_replicate,hLL]
       congr 1; omega)
     rw [<-Nat.zero_add (ns.length*szOf c.P (c.Φ.ty cc))] at this ⊢
     exact this
 · subst h6 h3
   refine⟨updΓ Γ b (.cells cc g (List.replicate (ns.length+n) WU)),?_⟩
   have:=hq.newT (b:=b) (cc:=cc) (g:=g) (L:=List.replicate (ns.length+n) WU) (size:=size) (C:=E1++E2) (tys':=[.sl (.rsl b 0 (ns.length+n) c') cc g (List.replicate (ns.length+n) WU)]) h1 h2 hg hrw (fun _ m hm=>List.eq_of_mem_replicate hm) (by rw [List.length_append,t3,hE2,List.length_replicate,Nat.add_mul]) (fun k m hk=>?_) (fun f hf=>?_)
   · exact this
   · have hm:m=WU:=List.eq_of_mem_replicate (List.mem_of_getElem? hk)
     have hkn:=(List.getElem?_eq_some_iff.1 hk).1
     rw [List.length_replicate] at hkn
     subst hm
     by_cases hlt:k<ns.length
     · have h1:(k+1)*szOf c.P (c.Φ.ty cc)<=ns.length*szOf c.P (c.Φ.ty cc):=Nat.mul_le_mul_right _ hlt
       rw [Nat.succ_mul] at h1
       rw [List.drop_append_of_le_length (by omega),List.take_append_of_le_length (by rw [List.length_drop]; omega)]
       exact t4 k hlt
     · have h1:k*szOf c.P (c.Φ.ty cc)=ns.length*szOf c.P (c.Φ.ty cc)+(k-ns.length)*szOf c.P (c.Φ.ty cc):=by rw [<-Nat.add_mul]; congr 1; omega
       rw [h1,<-t3,List.drop_append]
       rw [List.drop_of_length_le (by omega),List.nil_append,Nat.add_sub_cancel_left]
       have:=hel (k-ns.length) (by omega)
       rw [show ns.length+(k-ns.length)=k by omega] at this
       exact this
   · rw [List.mem_singleton.1 hf]
     exact⟨by rw [List.length_replicate]; exact hlim,.inr (.inr ⟨b,c',_,size,_,by rw [List.length_replicate],updΓ_same _ _ _,by rw [List.length_replicate,List.take_of_length_le (by rw [List.length_replicate]; omega)],upd_same _ _ _,h5,by rw [List.length_replicate]; omega⟩)⟩
end
end Go.Rt
namespace Go.Rd
open Go.Rex Go.RowKit Go.Rt
def k2b:K2->K2->Bool
 | .int a,.int b=>kindB a b
 | .nat a,.nat b=>Nat.beq a b
 | .str,.str=>true
 | .strj,.strj=>true
 | .bool,.bool=>true
 | .flt a,.flt b=>fkindB a b
 | .sl a,.sl b=>Nat.beq a b
 | .slb a a',.slb b b'=>Nat.beq a b&&Nat.beq a' b'
 | .slg a a',.slg b b'=>Nat.beq a b&&Nat.beq a' b'
 | .slk a a',.slk b b'=>Nat.beq a b&&Nat.beq a' b'
 | .slf a,.slf b=>Nat.beq a b
 | .ptr a,.ptr b=>Nat.beq a b
 | .ptn a,.ptn b=>Nat.beq a b
 | .mp a,.mp b=>Nat.beq a b
 | .mpn a,.mpn b=>Nat.beq a b
 | _,_=>false
theorem k2b_ok {a b:K2} (h:k2b a b=true):a=b:=by
 cases a<;>cases b<;>simp only [k2b,Bool.false_eq_true,Bool.and_eq_true,kindB,fkindB,decide_eq_true_eq] at h
 all_goals first
  | rfl
  | (subst h; rfl)
  | (have:=Nat.eq_of_beq_eq_true h; subst this; rfl)
  | (obtain⟨h1,h2⟩:=h; have:=Nat.eq_of_beq_eq_true h1; have:=Nat.eq_of_beq_eq_true h2; subst_vars; rfl)
def k2L:List K2->List K2->Bool
 | [],[]=>true
 | a::as,b::bs=>k2b a b&&k2L as bs
 | _,_=>false
theorem k2L_ok:∀{a b:List K2},k2L a b=true->a=b
 | [],[],_=>rfl
 | a::as,b::bs,h=>by
   have h:(k2b a b&&k2L as bs)=true:=h
   rw [Bool.and_eq_true] at h
   rw [k2b_ok h.1,k2L_ok h.2]
 | [],_::_,h=>by cases h
 | _::_,[],h=>by cases h
def kfr (Φ:Forms):K2->Bool
 | .int _=>true | .str=>true | .bool=>true | .flt _=>true
 | .sl c=>!Φ.dep c&&!Φ.via c
 | .slb c _=>!Φ.dep c&&!Φ.via c
 | .ptr c=>!Φ.dep c&&!Φ.via c
 | .ptn c=>!Φ.dep c&&!Φ.via c
 | .mp c=>!Φ.dep c&&!Φ.via c
 | .mpn c=>!Φ.dep c&&!Φ.via c
 | _=>false
def kjf:K2->Bool | .strj=>false | .slf _=>false | _=>true
theorem le_sum':∀{l:List Nat} {m:Nat},m∈l->m<=l.sum
 | [],_,h=>by cases h
 | a::l,m,h=>by
   rw [List.sum_cons]
   rcases List.mem_cons.1 h with rfl | h
   · omega
   · have:=le_sum' h; omega
theorem gi_fr {Φ:Forms} {cc:Nat} (h:(!Φ.dep cc&&!Φ.via cc)=true) (d:Gd) (g:Nat):gi Φ d g cc=0:=by
 rw [Bool.and_eq_true,Bool.not_eq_true',Bool.not_eq_true'] at h
 unfold gi; rw [h.1,h.2]; rfl
theorem kv_free {Φ:Forms} {d d':Gd} {g g' j j':Nat} {k:K2} {v:AV} {f:List TF} (hk:kfr Φ k=true) (h:Kv Φ d g j k v f):Kv Φ d' g' j' k v f:=by
 cases k with
 | int k=>exact h
 | str=>exact h
 | bool=>exact h
 | flt k=>exact h
 | sl c=>obtain⟨ns,h⟩:=h; exact⟨ns,by rw [gi_fr hk] at h ⊢; exact h⟩
 | slb c b=>obtain⟨ns,h,h'⟩:=h; exact⟨ns,by rw [gi_fr hk] at h ⊢; exact h,h'⟩
 | ptr c=>have h:f=[.pt v c (gi Φ d g c)]:=h; show f=_; rw [gi_fr hk] at h ⊢; exact h
 | ptn c=>rcases h with h | h
          · exact .inl h
          · exact .inr (by rw [gi_fr hk] at h ⊢; exact h)
 | mp c=>have h:f=[.mp v c (gi Φ d g c)]:=h; show f=_; rw [gi_fr hk] at h ⊢; exact h
 | mpn c=>rcases h with h | h
          · exact .inl h
          · exact .inr (by rw [gi_fr hk] at h ⊢; exact h)
 | _=>cases hk
theorem kv_jfree {Φ:Forms} {d:Gd} {g j j':Nat} {k:K2} {v:AV} {f:List TF} (hk:kjf k=true) (h:Kv Φ d g j k v f):Kv Φ d g j' k v f:=by
 cases k<;>first | exact h | cases hk
theorem wts_free {Φ:Forms} {d d':Gd} {g g' j j':Nat}:∀{ks:List K2} {cs:List AV} {fs:List TF},ks.all (kfr Φ)=true->WtS Φ d g j ks cs fs->WtS Φ d' g' j' ks cs fs
 | [],_,_,_,h=>h
 | k::ks,_,_,hk,⟨v,cs',f,fs',h1,h2,h3,h4⟩=>by
   rw [List.all_cons,Bool.and_eq_true] at hk
   exact⟨v,cs',f,fs',h1,h2,kv_free hk.1 h3,wts_free hk.2 h4⟩
theorem wts_jfree {Φ:Forms} {d:Gd} {g j j':Nat}:∀{ks:List K2} {cs:List AV} {fs:List TF},ks.all kjf=true->WtS Φ d g j ks cs fs->WtS Φ d g j' ks cs fs
 | [],_,_,_,h=>h
 | k::ks,_,_,hk,⟨v,cs',f,fs',h1,h2,h3,h4⟩=>by
   rw [List.all_cons,Bool.and_eq_true] at hk
   exact⟨v,cs',f,fs',h1,h2,kv_jfree hk.1 h3,wts_jfree hk.2 h4⟩
def trnB (Φ:Forms) (cc g cc' g':Nat):Bool:=k2L (Φ.ks cc) (Φ.ks cc')&&((Φ.ks cc).all (kfr Φ)||(Nat.beq g g'&&(Φ.ks cc).all kjf))
section
variable {c:Cx} {T:Tm} {G:GH} {Γ:Gam} {ρ ρ':Rho} {s s':SS} {cf:Cf} {ops:Array Oper} {i d:Nat}
theorem trn_ok {cc g cc' g' m j j':Nat} {cs:List AV} (h:trnB c.Φ cc g cc' g'=true) (he:ElOk c.P c.Φ G Γ m cc' (ig ρ g') j' cs):ElOk c.P c.Φ G Γ m cc (ig ρ g) j cs:=by
 unfold trnB at h
 rw [Bool.and_eq_true,Bool.or_eq_true,Bool.and_eq_true] at h
 obtain⟨h1,h2⟩:=h
 have h1:=k2L_ok h1
 obtain⟨fs,e1,e2,e3⟩:=he
 rw [<-h1] at e1
 refine⟨fs,?_,e2,e3⟩
 rcases h2 with h2 | ⟨h2,h3⟩
 · exact wts_free h2 e1
 · have:=beq_ok h2
   subst this
   exact wts_jfree h3 e1
def elsS (cf:Cf) (s:SS) (g cc:Nat) (sz:Nat) (j:LE):Nat->List SC->Option (List LE)
 | 0,_=>some []
 | n+1,cs=>match chkL cf s g (ghost s.gs g) j (cf.Φ.ks cc) (cs.take sz),elsS cf s g cc sz (j.addc 1) n (cs.drop sz) with
   | some os,some l=>some (sumW os::l)
   | _,_=>none
def sumL:List LE->LE
 | []=>.k 0
 | e::l=>(e.add (sumL l)).addc 1
theorem denL_drop (ρ:Rho) (cs:List SC) (n:Nat):denL ρ (cs.drop n)=(denL ρ cs).drop n:=by simp [denL,List.map_drop]
theorem denL_tk (ρ:Rho) (cs:List SC) (n:Nat):denL ρ (cs.take n)=(denL ρ cs).take n:=by simp [denL,List.map_take]
theorem elsS_ok {g cc sz:Nat} (hΦ:cf.Φ=c.Φ) (hk:Ok c T G Γ ρ s):∀{n:Nat} {cs:List SC} {j:LE} {q:Nat} {l:List LE},elsS cf s g cc sz j n cs=some l->0<=j.ev ρ->q=(j.ev ρ).toNat ->
  ∃ns:List Nat,ns.length=n/\((ns.sum+ns.length:Nat):Int)=(sumL l).ev ρ/\(∀k m,ns[k]?=some m->ElOk c.P c.Φ G Γ m cc (ig ρ g) (q+k) (((denL ρ cs).drop (k*sz)).take sz))/\∀m∈ns,∃e∈l,e.ev ρ=(m:Int)
 | 0,cs,j,q,l,h,_,_=>by cases h; exact⟨[],rfl,by rw [sumL,LE.ev_k]; rfl,fun k m h=>by simp at h,fun m h=>by cases h⟩
 | n+1,cs,j,q,l,h,hj,hJ=>by
   unfold elsS at h
   split at h
   · rename_i os l' h1 h2
     cases h
     rw [hΦ] at h1
     obtain⟨fs,a1,a2,a3⟩:=chkL_ok hΦ hk (fun dv h=>ghost_ok h hk) ⟨hj,hJ⟩ h1
     obtain⟨ns,b1,b2,b3,b4⟩:=elsS_ok hΦ hk h2 (by rw [LE.ev_addc]; omega) rfl
     rw [denL_tk] at a1
     refine⟨wgt c.Φ fs::ns,by simp [b1],?_,fun k m hkm=>?_,fun m hm=>?_⟩
     · rw [sumL,LE.ev_addc,LE.ev_add,<-b2,a2]; simp only [List.sum_cons,List.length_cons]; omega
     · cases k with
       | zero=>cases hkm; rw [Nat.zero_mul,List.drop_zero,Nat.add_zero]; exact⟨fs,a1,Nat.le_refl _,a3⟩
       | succ k =>
         have:=b3 k m hkm
         rw [denL_drop,List.drop_drop,LE.ev_addc] at this
         rw [show q+(k+1)=(j.ev ρ+1).toNat+k by omega,show (k+1)*sz=sz+k*sz by rw [Nat.succ_mul,Nat.add_comm]]
         exact this
     · rcases List.mem_cons.1 hm with rfl | hm
       · exact⟨_,List.mem_cons_self ..,a2⟩
       · obtain⟨e,h1,h2⟩:=b4 m hm; exact⟨e,List.mem_cons_of_mem _ h1,h2⟩
   · cases h
def srcS (cf:Cf) (s:SS) (cc g:Nat) (j:LE) (u:SV):Option (LE × LE):=match u with
 | .v false [.nils]=>some (.k 0,.k 0)
 | .v false [.ref y]=>(match fSl s.ty y with
   | some (c',g')=>bif Nat.beq (cf.Φ.ty cc) (cf.Φ.ty c')&&(trnB cf.Φ cc g c' g'&&(!cf.Φ.uni cc||(cf.Φ.uni c'||ent s ((LE.k WU).sub (.a (.wt y)))))) then some (.a (.len y),.a (.wt y)) else none
   | none=>none)
 | .v false [.osl b n]=>(match locAt s.os b with
   | some (el,cs)=>bif Nat.beq cs.length (n*szOf cf.P (cf.Φ.ty cc))&&ent s j then
     (match elsS cf s g cc (szOf cf.P (cf.Φ.ty cc)) j n cs with
      | some l=>bif !cf.Φ.uni cc||l.all (fun e=>ent s ((LE.k WU).sub e)) then some (.k n,sumL l) else none
      | none=>none)
     else none
   | none=>none)
 | _=>none
theorem srcS_ok {cc g q:Nat} {j:LE} {u:SV} {n w:LE} (hP:cf.P=c.P) (hΦ:cf.Φ=c.Φ) (h:srcS cf s cc g j u=some (n,w)) (hk:Ok c T G Γ ρ s) (hJ:q=(j.ev ρ).toNat) (hsz:0<szOf c.P (c.Φ.ty cc)) :
  ∃(ns:List Nat) (E:List AV),SrcG c.P c.n0 c.nt T .e (z 0) G (szOf c.P (c.Φ.ty cc)) ns.length (u.den ρ) E/\CL E/\n.ev ρ=(ns.length:Int)/\w.ev ρ=((ns.sum+ns.length:Nat):Int)/\E.length=ns.length*szOf c.P (c.Φ.ty cc)/\(∀k m,ns[k]?=some m->ElOk c.P c.Φ G Γ m cc (ig ρ g) (q+k) ((E.drop (k*szOf c.P (c.Φ.ty cc))).take (szOf c.P (c.Φ.ty cc))))/\(c.Φ.uni cc=true->∀m∈ns,m<=WU):=by
 unfold srcS at h
 rw [hP,hΦ] at h
 split at h
 · cases h
   exact⟨[],[],srcG_nil rfl,cl_nil,by rw [LE.ev_k]; rfl,by rw [LE.ev_k]; rfl,by simp,fun k m h=>by simp at h,fun _ m h=>by cases h⟩
 · rename_i y
   split at h
   · rename_i c' g' hf
     cases hb:(Nat.beq (c.Φ.ty cc) (c.Φ.ty c')&&(trnB c.Φ cc g c' g'&&(!c.Φ.uni cc||(c.Φ.uni c'||ent s ((LE.k WU).sub (.a (.wt y))))))) with
     | false=>rw [hb] at h; cases h
     | true =>
       rw [hb] at h
       cases h
       rw [Bool.and_eq_true,Bool.and_eq_true] at hb
       obtain⟨b1,b2,b3⟩:=hb
       have b1:=beq_ok b1
       have ht:TOk c.P c.Φ G Γ (.sl (ρ y).vv c' (ig ρ g') (ρ y).ns):=hk.ty (fSl_mem hf)
       obtain⟨E,e1,e2,e3⟩:=ht.src (n0:=c.n0) (nt:=c.nt) (T:=T) hk.q.ht
       rw [<-b1] at e1 e3
       refine⟨(ρ y).ns,E,e1,e2,by rw [LE.ev_a]; rfl,by rw [LE.ev_a]; rfl,e1.1,fun k m hkm=>trn_ok b2 (e3 k m hkm),fun hu m hm=>?_⟩
       rw [hu] at b3
       simp only [Bool.not_true,Bool.false_or,Bool.or_eq_true] at b3
       rcases b3 with b3 | b3
       · obtain⟨_,htd⟩:=typedU' ht b3
         rcases htd with ⟨_,h0⟩ | ⟨b,cap,L,size,C,h1,h2,h3,_⟩
         · rw [h0] at hm; cases hm
         · obtain⟨_,q5,_⟩:=hk.q.ht.b _ _ h2
           rw [h3] at hm
           exact Nat.le_of_eq (q5 b3 _ (List.mem_of_mem_take hm))
       · have:=ent_ok b3 hk.sat
         rw [LE.ev_sub,LE.ev_k,LE.ev_a] at this
         have this:0<=(WU:Int)-(((ρ y).ns.sum+(ρ y).ns.length:Nat):Int):=this
         have h5:m<=(ρ y).ns.sum:=le_sum' hm
         omega
   · cases h
 · rename_i b n0
   split at h
   · rename_i el cs hl
     cases hb:(Nat.beq cs.length (n0*szOf c.P (c.Φ.ty cc))&&ent s j) with
     | false=>rw [hb] at h; cases h
     | true =>
       rw [hb] at h
       simp only [cond_true] at h
       rw [Bool.and_eq_true] at hb
       obtain⟨b1,b2⟩:=hb
       have b1:=beq_ok b1
       split at h
       · rename_i l hel
         cases hb3:(!c.Φ.uni cc||l.all (fun e=>ent s ((LE.k WU).sub e))) with
         | false=>rw [hb3] at h; cases h
         | true =>
           rw [hb3] at h
           cases h
           obtain⟨ns,k1,k2,k3,k4⟩:=elsS_ok hΦ hk hel (ent_ok b2 hk.sat) hJ
           have hG:=hk.loc hl
           have hlen:(denL ρ cs).length=cs.length:=by simp [denL]
           have hw:(((denL ρ cs).drop 0).take (ns.length*szOf c.P (c.Φ.ty cc)))=denL ρ cs:=by rw [List.drop_zero,k1,<-b1,<-hlen,List.take_length]
           have hcl:CL (denL ρ cs):=fun v hv=>by
            obtain⟨x,_,rfl⟩:=List.mem_map.1 hv
            exact⟨(sc_c1 x ρ).1,(sc_c1 x ρ).2.1⟩
           have hs:=srcG_win (P:=c.P) (n0:=c.n0) (nt:=c.nt) (T:=T) (sz:=szOf c.P (c.Φ.ty cc)) (v:=(SV.v false [SC.osl b n0]).den ρ) (len:=ns.length) (cap:=n0) (o:=0) (by rw [k1]; rfl) hG (by rw [hlen,b1,k1]; omega) (by rw [hw]; exact hcl)
           rw [hw] at hs
           refine⟨ns,_,hs,hcl,by rw [LE.ev_k,k1],k2.symm,hs.1,k3,fun hu m hm=>?_⟩
           rw [hu] at hb3
           simp only [Bool.not_true,Bool.false_or] at hb3
           obtain⟨e,e1,e2⟩:=k4 m hm
           have:=ent_ok (List.all_eq_true.1 hb3 e e1) hk.sat
           rw [LE.ev_sub,LE.ev_k,e2] at this
           omega
       · cases h
   · cases h
 · cases h
def capB (P:Program) (e:TypeId):Nat:=Nat.min ((281474976710656/P.bytesOf e-12288)/16) LIM
theorem capB_ok {P:Program} {e n:Nat} (h:n<=capB P e) (hb:P.bytesOf e<=1000000):(16*n+12288)*P.bytesOf e<=281474976710656/\n<=LIM:=by
 have h1:n<=(281474976710656/P.bytesOf e-12288)/16:=Nat.le_trans h (Nat.min_le_left _ _)
 refine⟨?_,Nat.le_trans h (Nat.min_le_right _ _)⟩
 rcases Nat.eq_zero_or_pos (P.bytesOf e) with h0 | h0
 · rw [h0,Nat.mul_zero]; omega
 · have h2:281474976<=281474976710656/P.bytesOf e:=(Nat.le_div_iff_mul_le h0).2 (by
    have:=Nat.mul_le_mul_left 281474976 hb
    omega)
   have h3:281474976710656/P.bytesOf e*P.bytesOf e<=281474976710656:=Nat.div_mul_le_self _ _
   have h4:16*n+12288<=281474976710656/P.bytesOf e:=by omega
   exact Nat.le_trans (Nat.mul_le_mul_right _ h4) h3
def eqF (s:SS) (a b:LE):SS:=addF (addF s (a.sub b)) (b.sub a)
theorem Ok.eqF {a b:LE} (h:Ok c T G Γ ρ s) (he:a.ev ρ=b.ev ρ):Ok c T G Γ ρ (eqF s a b):=(h.addF (by rw [LE.ev_sub]; omega)).addF (by rw [LE.ev_sub]; omega)
def rmLst:List SO->Nat->Nat->Option (List SO)
 | [],_,_=>none
 | .lst y c::l,x,cc=>bif Nat.beq y x&&Nat.beq c cc then some l else (rmLst l x cc).map (.lst y c::·)
 | o::l,x,cc=>(rmLst l x cc).map (o::·)
theorem rmLst_ok:∀{l l':List SO} {x cc:Nat},rmLst l x cc=some l'->l.Perm (l'++[.lst x cc])
 | [],_,_,_,h=>by cases h
 | .lst y c'::l,l',x,cc,h=>by
   have h:(bif Nat.beq y x&&Nat.beq c' cc then some l else (rmLst l x cc).map (.lst y c'::·))=some l':=h
   cases hb:(Nat.beq y x&&Nat.beq c' cc) with
   | true =>
     rw [hb] at h; cases h
     rw [Bool.and_eq_true] at hb
     have:=beq_ok hb.1; have:=beq_ok hb.2; subst_vars
     exact (List.perm_append_singleton _ _).symm
   | false =>
     rw [hb] at h
     cases hr:rmLst l x cc with
     | none=>rw [hr] at h; cases h
     | some l2=>rw [hr] at h; cases h; exact (rmLst_ok hr).cons _
 | .loc b el cs::l,l',x,cc,h=>by
   have h:(rmLst l x cc).map (.loc b el cs::·)=some l':=h
   cases hr:rmLst l x cc with
   | none=>rw [hr] at h; cases h
   | some l2=>rw [hr] at h; cases h; exact (rmLst_ok hr).cons _
 | .em y c'::l,l',x,cc,h=>by
   have h:(rmLst l x cc).map (.em y c'::·)=some l':=h
   cases hr:rmLst l x cc with
   | none=>rw [hr] at h; cases h
   | some l2=>rw [hr] at h; cases h; exact (rmLst_ok hr).cons _
 | .ul y c' g'::l,l',x,cc,h=>by
   have h:(rmLst l x cc).map (.ul y c' g'::·)=some l':=h
   cases hr:rmLst l x cc with
   | none=>rw [hr] at h; cases h
   | some l2=>rw [hr] at h; cases h; exact (rmLst_ok hr).cons _
 | .am y c' g'::l,l',x,cc,h=>by
   have h:(rmLst l x cc).map (.am y c' g'::·)=some l':=h
   cases hr:rmLst l x cc with
   | none=>rw [hr] at h; cases h
   | some l2=>rw [hr] at h; cases h; exact (rmLst_ok hr).cons _
 | .im y c'::l,l',x,cc,h=>by
   have h:(rmLst l x cc).map (.im y c'::·)=some l':=h
   cases hr:rmLst l x cc with
   | none=>rw [hr] at h; cases h
   | some l2=>rw [hr] at h; cases h; exact (rmLst_ok hr).cons _
 | .bl y c' g'::l,l',x,cc,h=>by
   have h:(rmLst l x cc).map (.bl y c' g'::·)=some l':=h
   cases hr:rmLst l x cc with
   | none=>rw [hr] at h; cases h
   | some l2=>rw [hr] at h; cases h; exact (rmLst_ok hr).cons _
def apTy (P:Program) (ts tx:TypeId):Option TypeId:=match P.underlying ts,P.underlying tx with
 | some (.slice e),some (.slice _)=>(match ((zeroOf P e).bind svA).bind cellsS with
   | some z=>bif Nat.ble (P.bytesOf e) 1000000&&(Nat.beq z.length (szOf P e)&&Nat.blt 0 (szOf P e)) then some e else none
   | none=>none)
 | _,_=>none
theorem apTy_ok {P:Program} {ts tx e:TypeId} (h:apTy P ts tx=some e):P.underlying ts=some (.slice e)/\(∃e',P.underlying tx=some (.slice e'))/\∃z,zeroOf P e=some z/\(Nat.ble (P.bytesOf e) 1000000&&(Nat.beq z.cells.length (szOf P e)&&Nat.blt 0 (szOf P e)))=true:=by
 unfold apTy at h
 split at h
 · rename_i e0 e1 h1 h2
   cases hz:zeroOf P e0 with
   | none=>rw [hz] at h; cases h
   | some z =>
     rw [hz] at h
     simp only [Option.bind_some] at h
     cases hv:svA z with
     | none=>rw [hv] at h; cases h
     | some w =>
       rw [hv] at h
       simp only [Option.bind_some] at h
       cases hc:cellsS w with
       | none=>rw [hc] at h; cases h
       | some cs =>
         rw [hc] at h
         simp only at h
         have hz2:z.cells.length=cs.length:=by
          rw [<-svA_ok hv (fun _=>.n 0),cellsS_ok hc]; simp [denL]
         cases hb:(Nat.ble (P.bytesOf e0) 1000000&&(Nat.beq cs.length (szOf P e0)&&Nat.blt 0 (szOf P e0))) with
         | false=>rw [hb] at h; cases h
         | true=>rw [hb] at h; cases h; exact⟨h1,⟨e1,h2⟩,z,hz,by rw [hz2]; exact hb⟩
 · cases h
def appL (cf:Cf) (e:TypeId) (d cc:Nat) (osA:List SO) (len wt:LE) (u:SV) (s:SS) (K:SS->R):R:=bif Nat.beq (cf.Φ.ty cc) e&&!cf.Φ.raw cc then
    (match srcS cf s cc 0 len u with
     | some (n,w)=>bif ent s ((LE.k (capB cf.P e)).sub (len.add n))&&((len.add n).lt s.nx&&((wt.add w).lt s.nx&&osA.all (SO.lt s.nx))) then
       fresh s fun x s=>K (sput (eqF (eqF (addTy (setO s (osA++[.lst x cc])) (.sl x cc 0)) (.a (.len x)) (len.add n)) (.a (.wt x)) (wt.add w)) d (sc (.ref x)))
       else .bad 120 s
     | none=>.bad 121 s)
 else .bad 122 s
def gIn (s:SS) (g:Nat):Bool:=Nat.beq g 0||(ghost s.gs g).isSome
theorem gIn_ok {g:Nat} (h:gIn s g=true) (hk:Ok c T G Γ ρ s):ig ρ g<Γ.ng:=by
 unfold gIn at h
 rw [Bool.or_eq_true] at h
 rcases h with h | h
 · have:=beq_ok h; subst this; exact hk.q.ht.z.2
 · obtain⟨d,hd⟩:=Option.isSome_iff_exists.1 h
   obtain⟨w,hw⟩:=ghost_mem hd
   exact (hk.q.gs (ig ρ g,(ρ d).gg,w) (List.mem_map.2 ⟨(g,d,w),hw,rfl⟩)).1
def appU (cf:Cf) (e:TypeId) (d cc g:Nat) (len:LE) (u:SV) (s:SS) (K:SS->R):R:=bif Nat.beq (cf.Φ.ty cc) e&&(gIn s g&&!cf.Φ.raw cc) then
    (match srcS cf s cc g len u with
     | some (n,_)=>bif ent s ((LE.k (capB cf.P e)).sub (len.add n))&&((len.add n).lt s.nx&&igLt s.nx g) then
       fresh s fun x s=>K (sput (eqF (addTy s (.sl x cc g)) (.a (.len x)) (len.add n)) d (sc (.ref x)))
       else .bad 123 s
     | none=>.bad 124 s)
 else .bad 125 s
def hap (cf:Cf) (ts tx:TypeId) (d:Nat) (v u:SV) (an:Option (Nat × Nat)) (s:SS) (K:SS->R):R:=match apTy cf.P ts tx,v with
 | some e,.v false [.nils]=>(match an with
   | some (cc,g)=>bif cf.Φ.uni cc then appU cf e d cc g (.k 0) u s K else appL cf e d cc s.os (.k 0) (.k 0) u s K
   | none=>.bad 126 s)
 | some e,.v false [.ref x]=>(match fSl s.ty x with
   | some (cc,g)=>bif cf.Φ.uni cc then appU cf e d cc g (.a (.len x)) u s K else
     (match rmLst s.os x cc with | some osA=>appL cf e d cc osA (.a (.len x)) (.a (.wt x)) u s K | none=>.bad 127 s)
   | none=>.bad 128 s)
 | _,_=>.bad 129 s
theorem St.ext' {a b:St} (h1:a.L=b.L) (h2:a.os=b.os) (h3:a.tys=b.tys) (h4:a.gs=b.gs):a=b:=by cases a; cases b; cases h1; cases h2; cases h3; cases h4; rfl
theorem fresh_s {K:Nat->SS->R} (h:(fresh s K).Ok):s.ok=true:=by
 unfold fresh at h
 cases hs:s.ok with
 | true=>rfl
 | false=>rw [hs] at h; cases h
theorem appL_ok {cl:Call} {ts tx e:TypeId} {ys yx:Operand} {cc:Nat} {osA:List SO} {len wt:LE} {v u:SV} {ms:List Nat} {K:SS->R} (hg:(opAt ops i).guard=none) (hd:(opAt ops i).dst=some d) (hlt:d<c.nt) (ho:(opAt ops i).op=.call cl) (hc:cl.callee=.builtin .append) (ht:cl.argTypes.toList=[ts,tx]) (hx:cl.args.toList=[ys,yx])
  (hP:cf.P=c.P) (hΦ:cf.Φ=c.Φ) (hap:apTy c.P ts tx=some e) (h:(appL cf e d cc osA len wt u s K).Ok) (hk:Ok c T G Γ ρ s) (hv:EvA c.nt T ys (v.den ρ)) (hu:EvA c.nt T yx (u.den ρ)) (hq:Q c T G Γ ⟨(s.den ρ).L,osA.map (SO.den ρ)++[.lst (v.den ρ) cc ms],(s.den ρ).tys,(s.den ρ).gs⟩) (hl:len.ev ρ=(ms.length:Int)) (hw:wt.ev ρ=((ms.sum+ms.length:Nat):Int)):Hv c T G Γ ops i s ρ K:=by
 unfold appL at h
 rw [hP,hΦ] at h
 cases hb:(Nat.beq (c.Φ.ty cc) e&&!c.Φ.raw cc) with
 | false=>rw [hb] at h; cases h
 | true =>
   rw [hb] at h
   rw [Bool.and_eq_true,Bool.not_eq_true'] at hb
   obtain⟨hb,hrw⟩:=hb
   have hb:=beq_ok hb
   subst hb
   simp only [cond_true] at h
   cases hsr:srcS cf s cc 0 len u with
   | none=>rw [hsr] at h; cases h
   | some p =>
     obtain⟨n,w⟩:=p
     rw [hsr] at h
     simp only at h
     cases hf:(ent s ((LE.k (capB c.P (c.Φ.ty cc))).sub (len.add n))&&((len.add n).lt s.nx&&((wt.add w).lt s.nx&&osA.all (SO.lt s.nx)))) with
     | false=>rw [hf] at h; cases h
     | true =>
       rw [hf] at h
       simp only [cond_true] at h
       simp only [Bool.and_eq_true] at hf
       obtain⟨f1,f2,f3,f4⟩:=hf
       obtain⟨h1,⟨e',h2⟩,zz,h3,h4⟩:=apTy_ok hap
       have h5:=h4
       simp only [Bool.and_eq_true] at h5
       have hsz:=blt_ok h5.2.2
       have hJ:ms.length=(len.ev ρ).toNat:=by rw [hl]; rfl
       obtain⟨ns,E,k1,k2,k3,k4,k5,k6,k7⟩:=srcS_ok hP hΦ hsr hk hJ hsz
       have hcap:=ent_ok f1 hk.sat
       rw [LE.ev_sub,LE.ev_k,LE.ev_add,hl,k3] at hcap
       obtain⟨c1,c2⟩:=capB_ok (P:=c.P) (e:=c.Φ.ty cc) (n:=ms.length+ns.length) (by omega) (ble_ok h5.1)
       have e0:ig ρ 0=0:=rfl
       rw [e0] at k6
       obtain⟨E1,x1,x2,x3⟩:=hq.appL (ns:=ns) (E2:=E) (osA:=osA.map (SO.den ρ)) (ms:=ms) (v:=v.den ρ) (cc:=cc) (List.Perm.refl _) hrw hsz k5 k2 k6 c2
       refine StG.appendW hg hd hlt ho hc ht hx h1 h2 (fun k h=>by cases h) h3 h4 hv hu x1 x2 k1 c1 (Nat.le_trans c2 (by unfold LIM; omega)) fun v' G' ha hnf=>?_
       obtain⟨Γ',hq'⟩:=x3 G' v' ha
       have href:isRefA v'=true:=tok_ref' (hq'.ty _ (List.mem_cons_self ..))
       have hlim:(ms++ns).length<=LIM:=by rw [List.length_append]; exact c2
       obtain⟨r1,r2,r3,r4⟩:=fresh_ok h hk (.v v' (ms++ns))
       have hv':(ρ.up s.nx (.v v' (ms++ns)) s.nx).vv=v':=by rw [r4]; exact U.vv_of href
       have hn':(ρ.up s.nx (.v v' (ms++ns)) s.nx).ns=ms++ns:=by rw [r4]; exact U.ns_of hlim
       have eD:=(SS.agr (fresh_s h) r2).1
       have eO:osA.map (SO.den (ρ.up s.nx (.v v' (ms++ns))))=osA.map (SO.den ρ):=List.map_congr_left fun o ho=>SO.agr r2 (List.all_eq_true.1 f4 o ho)
       refine⟨rfl,rfl,Γ',_,_,r1,r2,Nat.le_succ _,?_⟩
       have hbase:Ok c T G' Γ' (ρ.up s.nx (.v v' (ms++ns))) (addTy (setO (bump s) (osA++[.lst s.nx cc])) (.sl s.nx cc 0)):=by
        refine⟨⟨r3.sat.fs,r3.sat.bs,r3.sat.pw,r3.sat.ats,r3.sat.fls,r3.sat.ne,r3.sat.fz,r3.sat.sb⟩,?_⟩
        have:(addTy (setO (bump s) (osA++[.lst s.nx cc])) (.sl s.nx cc 0)).den (ρ.up s.nx (.v v' (ms++ns)))=⟨(s.den ρ).L,osA.map (SO.den ρ)++[.lst v' cc (ms++ns)],.sl v' cc 0 (ms++ns)::(s.den ρ).tys,(s.den ρ).gs⟩:=by
         refine St.ext' (by have:=congrArg St.L eD; exact this) ?_ ?_ (by have:=congrArg St.gs eD; exact this)
         · show (osA++[SO.lst s.nx cc]).map (SO.den _)=_
           rw [List.map_append,eO,List.map_singleton]
           simp only [SO.den]; rw [hv',hn']
         · show STF.den _ (.sl s.nx cc 0)::s.ty.map (STF.den _)=_
           rw [show s.ty.map (STF.den (ρ.up s.nx (.v v' (ms++ns))))=(s.den ρ).tys from congrArg St.tys eD]
           simp only [STF.den]; rw [hv',hn']; rfl
        rw [this]
        exact hq'
       have a1:(LE.a (.len s.nx)).ev (ρ.up s.nx (.v v' (ms++ns)))=(len.add n).ev (ρ.up s.nx (.v v' (ms++ns))):=by
        rw [LE.agr r2 f2,LE.ev_add,hl,k3,LE.ev_a]
        show (((ρ.up s.nx (.v v' (ms++ns)) s.nx).ns.length:Nat):Int)=_
        rw [hn',List.length_append]; omega
       have a2:(LE.a (.wt s.nx)).ev (ρ.up s.nx (.v v' (ms++ns)))=(wt.add w).ev (ρ.up s.nx (.v v' (ms++ns))):=by
        rw [LE.agr r2 f3,LE.ev_add,hw,k4,LE.ev_a]
        show (((ρ.up s.nx (.v v' (ms++ns)) s.nx).ns.sum+(ρ.up s.nx (.v v' (ms++ns)) s.nx).ns.length:Nat):Int)=_
        rw [hn',List.length_append,List.sum_append]; omega
       have:=((hbase.eqF a1).eqF a2).put (v:=sc (.ref s.nx)) d
       rw [show (sc (.ref s.nx)).den (ρ.up s.nx (.v v' (ms++ns)))=v' from hv'] at this
       exact this
theorem appU_ok {cl:Call} {ts tx e:TypeId} {ys yx:Operand} {cc g:Nat} {len:LE} {v u:SV} {ms:List Nat} {K:SS->R} (hg:(opAt ops i).guard=none) (hd:(opAt ops i).dst=some d) (hlt:d<c.nt) (ho:(opAt ops i).op=.call cl) (hc:cl.callee=.builtin .append) (ht:cl.argTypes.toList=[ts,tx]) (hx:cl.args.toList=[ys,yx])
  (hP:cf.P=c.P) (hΦ:cf.Φ=c.Φ) (hap:apTy c.P ts tx=some e) (h:(appU cf e d cc g len u s K).Ok) (hk:Ok c T G Γ ρ s) (hv:EvA c.nt T ys (v.den ρ)) (hu:EvA c.nt T yx (u.den ρ)) (hun:c.Φ.uni cc=true) (htv:TOk c.P c.Φ G Γ (.sl (v.den ρ) cc (ig ρ g) ms)) (hl:len.ev ρ=(ms.length:Int)):Hv c T G Γ ops i s ρ K:=by
 unfold appU at h
 rw [hP,hΦ] at h
 cases hb:(Nat.beq (c.Φ.ty cc) e&&(gIn s g&&!c.Φ.raw cc)) with
 | false=>rw [hb] at h; cases h
 | true =>
   rw [hb] at h
   rw [Bool.and_eq_true,Bool.and_eq_true,Bool.not_eq_true'] at hb
   obtain⟨hb,hgi,hrw⟩:=hb
   have hb:=beq_ok hb
   subst hb
   simp only [cond_true] at h
   cases hsr:srcS cf s cc g len u with
   | none=>rw [hsr] at h; cases h
   | some p =>
     obtain⟨n,w⟩:=p
     rw [hsr] at h
     simp only at h
     cases hf:(ent s ((LE.k (capB c.P (c.Φ.ty cc))).sub (len.add n))&&((len.add n).lt s.nx&&igLt s.nx g)) with
     | false=>rw [hf] at h; cases h
     | true =>
       rw [hf] at h
       simp only [cond_true] at h
       simp only [Bool.and_eq_true] at hf
       obtain⟨f1,f2,f3⟩:=hf
       obtain⟨h1,⟨e',h2⟩,zz,h3,h4⟩:=apTy_ok hap
       have h5:=h4
       simp only [Bool.and_eq_true] at h5
       have hsz:=blt_ok h5.2.2
       have hJ:ms.length=(len.ev ρ).toNat:=by rw [hl]; rfl
       obtain⟨ns,E,k1,k2,k3,k4,k5,k6,k7⟩:=srcS_ok hP hΦ hsr hk hJ hsz
       have hcap:=ent_ok f1 hk.sat
       rw [LE.ev_sub,LE.ev_k,LE.ev_add,hl,k3] at hcap
       obtain⟨c1,c2⟩:=capB_ok (P:=c.P) (e:=c.Φ.ty cc) (n:=ms.length+ns.length) (by omega) (ble_ok h5.1)
       obtain⟨E1,x1,x2,x3⟩:=hk.q.appU (n:=ns.length) (E2:=E) (v:=v.den ρ) (cc:=cc) htv hun hrw (gIn_ok hgi hk) k5 k2 (fun j hj=>(k6 j _ (List.getElem?_eq_getElem hj)).more (k7 hun _ (List.getElem_mem hj))) c2
       refine StG.appendW hg hd hlt ho hc ht hx h1 h2 (fun k h=>by cases h) h3 h4 hv hu x1 x2 k1 c1 (Nat.le_trans c2 (by unfold LIM; omega)) fun v' G' ha hnf=>?_
       obtain⟨Γ',hq'⟩:=x3 G' v' ha
       have href:isRefA v'=true:=tok_ref' (hq'.ty _ (List.mem_cons_self ..))
       have hlim:(List.replicate (ms.length+ns.length) WU).length<=LIM:=by rw [List.length_replicate]; exact c2
       obtain⟨r1,r2,r3,r4⟩:=fresh_ok h hk (.v v' (List.replicate (ms.length+ns.length) WU))
       have hv':(ρ.up s.nx (.v v' (List.replicate (ms.length+ns.length) WU)) s.nx).vv=v':=by rw [r4]; exact U.vv_of href
       have hn':(ρ.up s.nx (.v v' (List.replicate (ms.length+ns.length) WU)) s.nx).ns=List.replicate (ms.length+ns.length) WU:=by rw [r4]; exact U.ns_of hlim
       have eD:=(SS.agr (fresh_s h) r2).1
       refine⟨rfl,rfl,Γ',_,_,r1,r2,Nat.le_succ _,?_⟩
       have hbase:Ok c T G' Γ' (ρ.up s.nx (.v v' (List.replicate (ms.length+ns.length) WU))) (addTy (bump s) (.sl s.nx cc g)):=by
        refine⟨⟨r3.sat.fs,r3.sat.bs,r3.sat.pw,r3.sat.ats,r3.sat.fls,r3.sat.ne,r3.sat.fz,r3.sat.sb⟩,?_⟩
        have:(addTy (bump s) (.sl s.nx cc g)).den (ρ.up s.nx (.v v' (List.replicate (ms.length+ns.length) WU)))=⟨(s.den ρ).L,(s.den ρ).os,.sl v' cc (ig ρ g) (List.replicate (ms.length+ns.length) WU)::(s.den ρ).tys,(s.den ρ).gs⟩:=by
         refine St.ext' (by have:=congrArg St.L eD; exact this) (by have:=congrArg St.os eD; exact this) ?_ (by have:=congrArg St.gs eD; exact this)
         show STF.den _ (.sl s.nx cc g)::s.ty.map (STF.den _)=_
         rw [show s.ty.map (STF.den (ρ.up s.nx (.v v' (List.replicate (ms.length+ns.length) WU))))=(s.den ρ).tys from congrArg St.tys eD]
         simp only [STF.den]; rw [hv',hn',ig_agr r2 f3]
        rw [this]
        exact hq'
       have a1:(LE.a (.len s.nx)).ev (ρ.up s.nx (.v v' (List.replicate (ms.length+ns.length) WU)))=(len.add n).ev (ρ.up s.nx (.v v' (List.replicate (ms.length+ns.length) WU))):=by
        rw [LE.agr r2 f2,LE.ev_add,hl,k3,LE.ev_a]
        show (((ρ.up s.nx (.v v' (List.replicate (ms.length+ns.length) WU)) s.nx).ns.length:Nat):Int)=_
        rw [hn',List.length_replicate]; omega
       have:=(hbase.eqF a1).put (v:=sc (.ref s.nx)) d
       rw [show (sc (.ref s.nx)).den (ρ.up s.nx (.v v' (List.replicate (ms.length+ns.length) WU)))=v' from hv'] at this
       exact this
theorem hap_ok {cl:Call} {ts tx:TypeId} {ys yx:Operand} {v u:SV} {an:Option (Nat × Nat)} {K:SS->R} (hg:(opAt ops i).guard=none) (hd:(opAt ops i).dst=some d) (hlt:d<c.nt) (ho:(opAt ops i).op=.call cl) (hc:cl.callee=.builtin .append) (ht:cl.argTypes.toList=[ts,tx]) (hx:cl.args.toList=[ys,yx])
  (hP:cf.P=c.P) (hΦ:cf.Φ=c.Φ) (h:(hap cf ts tx d v u an s K).Ok) (hk:Ok c T G Γ ρ s) (hv:EvA c.nt T ys (v.den ρ)) (hu:EvA c.nt T yx (u.den ρ)):Hv c T G Γ ops i s ρ K:=by
 unfold hap at h
 rw [hP] at h
 split at h
 · rename_i e hap
   split at h
   · rename_i cc g
     rw [hΦ] at h
     cases hun:c.Φ.uni cc with
     | true =>
       rw [hun] at h
       exact appU_ok (v:=.v false [.nils]) (ms:=[]) hg hd hlt ho hc ht hx hP hΦ hap h hk hv hu hun ⟨Nat.zero_le _,.inl ⟨rfl,rfl⟩⟩ (by rw [LE.ev_k]; rfl)
     | false =>
       rw [hun] at h
       refine appL_ok (v:=.v false [.nils]) (ms:=[]) hg hd hlt ho hc ht hx hP hΦ hap h hk hv hu ?_ (by rw [LE.ev_k]; rfl) (by rw [LE.ev_k]; rfl)
       have q:=hk.q
       refine⟨q.ml,q.at_,q.ht0,q.rl,q.grow,fun o ho=>?_,fun o ho b hb=>?_,?_,q.ht,q.ty,q.gs⟩
       · rcases List.mem_append.1 ho with ho | ho
         · exact q.own o ho
         · rw [List.mem_singleton.1 ho]; exact⟨hun,Nat.zero_le _,.inl ⟨rfl,rfl⟩⟩
       · rcases List.mem_append.1 ho with ho | ho
         · exact q.new o ho b hb
         · rw [List.mem_singleton.1 ho] at hb; cases hb
       · show (blks (_++[Own.lst .nils cc []])).Nodup
         rw [blks_append]
         have:blks [Own.lst .nils cc []]=[]:=rfl
         rw [this,List.append_nil]
         exact q.nd
   · cases h
 · rename_i e x hap
   split at h
   · rename_i cc g hf
     rw [hΦ] at h
     cases hun:c.Φ.uni cc with
     | true =>
       rw [hun] at h
       exact appU_ok (v:=.v false [.ref x]) (ms:=(ρ x).ns) hg hd hlt ho hc ht hx hP hΦ hap h hk hv hu hun (hk.ty (fSl_mem hf)) (by rw [LE.ev_a]; rfl)
     | false =>
       rw [hun] at h
       simp only [cond_false] at h
       cases hr:rmLst s.os x cc with
       | none=>rw [hr] at h; cases h
       | some osA =>
         rw [hr] at h
         refine appL_ok (v:=.v false [.ref x]) (ms:=(ρ x).ns) hg hd hlt ho hc ht hx hP hΦ hap h hk hv hu ?_ (by rw [LE.ev_a]; rfl) (by rw [LE.ev_a]; rfl)
         refine hk.q.weak (fun _ _ h=>h) ⟨[],?_⟩ (fun f h=>h) (fun p h=>h)
         have:=(rmLst_ok hr).map (SO.den ρ)
         rw [List.map_append,List.map_singleton] at this
         rw [List.append_nil]
         exact this
   · cases h
 · cases h
end
end Go.Rd
namespace Go.Rd
open Go.Rex Go.RowKit Go.Rt
inductive OwD where | ul (c g:Nat) | bl (m:Nat) (el:TypeId)
def fOw:List SO->Nat->Option OwD
 | [],_=>none
 | .ul y c g::l,x=>bif Nat.beq y x then some (.ul c g) else fOw l x
 | .bl y m el::l,x=>bif Nat.beq y x then some (.bl m el) else fOw l x
 | _::l,x=>fOw l x
def OwD.so (x:Nat):OwD->SO | .ul c g=>.ul x c g | .bl m el=>.bl x m el
theorem fOw_mem:∀{l:List SO} {x:Nat} {w:OwD},fOw l x=some w->w.so x∈l
 | [],_,_,h=>by cases h
 | .ul y c g::l,x,w,h=>by
   have h:(bif Nat.beq y x then some (.ul c g) else fOw l x)=some w:=h
   cases hb:Nat.beq y x with
   | true=>rw [hb] at h; cases h; have:=beq_ok hb; subst this; exact List.mem_cons_self ..
   | false=>rw [hb] at h; exact List.mem_cons_of_mem _ (fOw_mem h)
 | .bl y m el::l,x,w,h=>by
   have h:(bif Nat.beq y x then some (.bl m el) else fOw l x)=some w:=h
   cases hb:Nat.beq y x with
   | true=>rw [hb] at h; cases h; have:=beq_ok hb; subst this; exact List.mem_cons_self ..
   | false=>rw [hb] at h; exact List.mem_cons_of_mem _ (fOw_mem h)
 | .loc _ _ _::l,_,_,h=>List.mem_cons_of_mem _ (fOw_mem (l:=l) h)
 | .lst _ _::l,_,_,h=>List.mem_cons_of_mem _ (fOw_mem (l:=l) h)
 | .em _ _::l,_,_,h=>List.mem_cons_of_mem _ (fOw_mem (l:=l) h)
 | .am _ _ _::l,_,_,h=>List.mem_cons_of_mem _ (fOw_mem (l:=l) h)
 | .im _ _::l,_,_,h=>List.mem_cons_of_mem _ (fOw_mem (l:=l) h)
inductive OmD where | am (g k:Nat) | im (e:LE) | em (pk:KK)
def fOm:List SO->Nat->Option OmD
 | [],_=>none
 | .am y g k::l,x=>bif Nat.beq y x then some (.am g k) else fOm l x
 | .im y e::l,x=>bif Nat.beq y x then some (.im e) else fOm l x
 | .em y pk::l,x=>bif Nat.beq y x then some (.em pk) else fOm l x
 | _::l,x=>fOm l x
def OmD.so (x:Nat):OmD->SO | .am g k=>.am x g k | .im e=>.im x e | .em pk=>.em x pk
theorem fOm_mem:∀{l:List SO} {x:Nat} {w:OmD},fOm l x=some w->w.so x∈l
 | [],_,_,h=>by cases h
 | .am y g k::l,x,w,h=>by
   have h:(bif Nat.beq y x then some (.am g k) else fOm l x)=some w:=h
   cases hb:Nat.beq y x with
   | true=>rw [hb] at h; cases h; have:=beq_ok hb; subst this; exact List.mem_cons_self ..
   | false=>rw [hb] at h; exact List.mem_cons_of_mem _ (fOm_mem h)
 | .im y e::l,x,w,h=>by
   have h:(bif Nat.beq y x then some (.im e) else fOm l x)=some w:=h
   cases hb:Nat.beq y x with
   | true=>rw [hb] at h; cases h; have:=beq_ok hb; subst this; exact List.mem_cons_self ..
   | false=>rw [hb] at h; exact List.mem_cons_of_mem _ (fOm_mem h)
 | .em y pk::l,x,w,h=>by
   have h:(bif Nat.beq y x then some (.em pk) else fOm l x)=some w:=h
   cases hb:Nat.beq y x with
   | true=>rw [hb] at h; cases h; have:=beq_ok hb; subst this; exact List.mem_cons_self ..
   | false=>rw [hb] at h; exact List.mem_cons_of_mem _ (fOm_mem h)
 | .loc _ _ _::l,_,_,h=>List.mem_cons_of_mem _ (fOm_mem (l:=l) h)
 | .lst _ _::l,_,_,h=>List.mem_cons_of_mem _ (fOm_mem (l:=l) h)
 | .ul _ _ _::l,_,_,h=>List.mem_cons_of_mem _ (fOm_mem (l:=l) h)
 | .bl _ _ _::l,_,_,h=>List.mem_cons_of_mem _ (fOm_mem (l:=l) h)
def OwD.ln (x:Nat):OwD->Nat | .ul _ _=>x | .bl m _=>m
def inO (s:SS) (w:OwD) (y:Nat) (e:LE):Bool:=ent s e&&ent s (((LE.a (.len (w.ln y))).sub e).addc (-1))
def OwD.el (Φ:Forms):OwD->TypeId | .ul c _=>Φ.ty c | .bl _ el=>el
def oao (cf:Cf) (t:TypeId) (v:SV) (f:Nat) (s:SS) (K:SV->SS->R):R:=match v with
 | .v false [.elp y e sz o]=>(match fOw s.os y,fieldOff cf.P t f with
   | some w,some (off,ft)=>bif !Nat.beq (szOf cf.P ft) 0&&inO s w y e then K (sc (.elp y e sz (o+off))) s else .bad 140 s
   | _,_=>fao cf t v f s K)
 | _=>fao cf t v f s K
def oix (cf:Cf) (t:TypeId) (x:SV) (e:SV) (s:SS) (K:SV->SS->R):R:=match x,e with
 | .v false [.ref y],.v false [.int kd e']=>(match fOw s.os y,cf.P.underlying t with
   | some w,some (.slice el)=>bif Nat.beq el (w.el cf.Φ)&&((cf.P.info? el).isSome&&inO s w y e') then K (sc (.elp y e' (szOf cf.P el) 0)) s else .bad 141 s
   | _,_=>ixo cf t x e s K)
 | _,_=>ixo cf t x e s K
def obl (y m:Nat) (e:LE) (s:SS) (K:SV->SS->R):R:=bif Nat.blt m s.nx&&e.lt s.nx then
 (K (sc (.bool (.k true))) s).and (fresh s fun p s=>K (sc (.bool (.k false))) (addF (addPw (addPw s (m,e,.a (.n p))) (m,e.addc 1,(LE.a (.n p)).addc 2)) (((LE.a (.wt m)).sub (.a (.n p))).addc (-2))))
 else .bad 142 s
def old (cf:Cf) (t:TypeId) (x:SV) (s:SS) (K:SV->SS->R):R:=match x with
 | .v false [.elp y e sz o]=>(match fOw s.os y with
   | some (.ul cc g)=>bif inO s (.ul cc g) y e&&(Nat.beq sz (szOf cf.P (cf.Φ.ty cc))) then
     (bif aggT cf.P t then prt cf cc g e o (szOf cf.P t) true (.k WU) s K else bif knownT cf.P t then prt cf cc g e o 1 false (.k WU) s K else .bad 143 s) else .bad 144 s
   | some (.bl m el)=>bif inO s (.bl m el) y e&&(Nat.beq sz 1&&(Nat.beq o 0&&(!aggT cf.P t&&knownT cf.P t))) then obl y m e s K else .bad 145 s
   | none=>ldo cf t x s K)
 | _=>ldo cf t x s K
def olk (cf:Cf) (t:TypeId) (m k:SV) (ok:Bool) (s:SS) (K:SV->SS->R):R:=match m with
 | .v false [.rmp b]=>(match cf.P.underlying t,fOm s.os b with
   | some (.map kt et),some w=>(match (zeroOf cf.P et).bind svA with
     | some (.v ag cs)=>(match w with
       | .am g q=>bif keyT cf kt .str&&keyS .str k then lka cf g q k ok (ag,cs) s K else .bad 146 s
       | .im e=>bif keyT cf kt .str&&(keyS .str k&&e.lt s.nx) then (K (missV ok (ag,cs)) s).and (fresh s fun n s=>K (hitV ok (false,[.int .i64 (.a (.n n))])) (addF s ((e.sub (.a (.n n))).addc (-1)))) else .bad 146 s
       | .em pk=>bif keyT cf kt pk&&keyS pk k then K (missV ok (ag,cs)) s else .bad 146 s)
     | _=>.bad 147 s)
   | _,_=>.bad 148 s)
 | _=>lko cf t m k ok s K
def oln (cf:Cf) (t:TypeId) (x:SV) (s:SS) (K:SV->SS->R):R:=match x with
 | .v false [.ref y]=>(match fOw s.os y,cf.P.underlying t with
   | some w,some (.slice _)=>K (sc (.int .i64 (.a (.len (w.ln y))))) s
   | _,_=>leo cf t x s K)
 | .v false [.osl b n]=>(match cf.P.underlying t with
   | some (.slice _)=>K (sc (.int .i64 (.k n))) s
   | _=>.bad 149 s)
 | _=>leo cf t x s K
def lop2 (cf:Cf) (o:Op) (s:SS) (K:SV->SS->R):R:=match o with
 | .fieldAddr t (.tmp x) f=>wv s (.tmp x) fun v=>oao cf t v f s K
 | .load t (.tmp x)=>wv s (.tmp x) fun v=>old cf t v s K
 | .indexAddr t (.tmp x) y=>wv s (.tmp x) fun v=>wv s y fun u=>oix cf t v u s K
 | .lookup t x y ok=>wv s x fun v=>wv s y fun u=>olk cf t v u ok s K
 | .nilCheck (.tmp x)=>wv s (.tmp x) fun v=>(match v with
   | .v false [.elp y e sz o]=>(match fOw s.os y with
     | some w=>bif inO s w y e then K v s else .bad 150 s
     | none=>nco v s K)
   | _=>nco v s K)
 | .call cl=>(match cl.callee,cl.args.toList,cl.argTypes.toList with
   | .builtin .len,[x],t::_=>wv s x fun v=>oln cf t v s K
   | _,_,_=>.bad 12 s)
 | o=>lop cf o s K
section
variable {c:Cx} {T:Tm} {G:GH} {Γ:Gam} {ρ ρ':Rho} {s s':SS} {cf:Cf} {ops:Array Oper} {i d:Nat}
theorem inO_ok {w:OwD} {y:Nat} {e:LE} (hw:fOw s.os y=some w) (h:inO s w y e=true) (hk:Ok c T G Γ ρ s):∃b cp size C,(ρ y).vv=.rsl b 0 (ρ (w.ln y)).ns.length cp/\0<=e.ev ρ/\(e.ev ρ).toNat<(ρ (w.ln y)).ns.length/\Γ.m b=none/\G b=some (.cells .data (w.el c.Φ) size C) /\
  (match w with | .ul cc g=>C.length=(ρ y).ns.length*szOf c.P (c.Φ.ty cc)/\ElOk c.P c.Φ G Γ WU cc (ig ρ g) (e.ev ρ).toNat ((C.drop ((e.ev ρ).toNat*szOf c.P (c.Φ.ty cc))).take (szOf c.P (c.Φ.ty cc))) | .bl m el=>C=(ρ m).ns.map (fun m=>AV.bool (Nat.beq m 0))/\∀q∈(ρ m).ns,q<=1):=by
 unfold inO at h
 rw [Bool.and_eq_true] at h
 have e1:=ent_ok h.1 hk.sat
 have e2:=ent_ok h.2 hk.sat
 rw [LE.ev_addc,LE.ev_sub,LE.ev_a] at e2
 have e2:0<=((ρ (w.ln y)).ns.length:Int)-e.ev ρ+-1:=e2
 have ho:=hk.own (fOw_mem hw)
 cases w with
 | ul cc g =>
   obtain⟨_,_,h3⟩:_/\_/\_:=ho
   rcases h3 with ⟨_,h0⟩ | ⟨b,cp,size,C,q1,q2,q3,q4,q5,q6,q7⟩
   · have h0:(ρ y).ns.length=0:=h0
     have e2:0<=((ρ y).ns.length:Int)-e.ev ρ+-1:=e2
     omega
   · have e2:0<=((ρ y).ns.length:Int)-e.ev ρ+-1:=e2
     exact⟨b,cp,size,C,q1,e1,by show (e.ev ρ).toNat<(ρ y).ns.length; omega,q2,q3,q4,q7 _ (by show (e.ev ρ).toNat<(ρ y).ns.length; omega)⟩
 | bl m el =>
   obtain⟨_,hm,b,size,q1,q2,q3⟩:=ho
   have e2:0<=((ρ m).ns.length:Int)-e.ev ρ+-1:=e2
   exact⟨b,_,size,_,q1,e1,by show (e.ev ρ).toNat<(ρ m).ns.length; omega,q2,q3,rfl,hm⟩
theorem elp_den {y sz o b cp l:Nat} {e:LE} (h:(ρ y).vv=.rsl b 0 l cp):(SV.v false [.elp y e sz o]).den ρ=.rpt b ((e.ev ρ).toNat*sz+o):=by
 show elpA (ρ y).vv _=_
 rw [elp_rpt h,Nat.zero_add]
theorem oao_ok {t:TypeId} {x f:Nat} {v:SV} {K:SV->SS->R} (ho:(opAt ops i).op=.fieldAddr t (.tmp x) f) (hg:(opAt ops i).guard=none) (hP:cf.P=c.P) (h:(oao cf t v f s K).Ok) (hk:Ok c T G Γ ρ s) (hx:T.at x=v.den ρ):Lo c T G Γ ops i s ρ K:=by
 unfold oao at h
 split at h
 · rename_i y e sz o
   split at h
   · rename_i w off ft hw hf
     rw [hP] at h hf
     cases hb:(!Nat.beq (szOf c.P ft) 0&&inO s w y e) with
     | false=>rw [hb] at h; cases h
     | true =>
       rw [hb] at h
       rw [Bool.and_eq_true,Bool.not_eq_true'] at hb
       obtain⟨b,cp,size,C,q1,_⟩:=inO_ok hw hb.2 hk
       refine Lo.here hk h ?_
       have e1:(sc (.elp y e sz (o+off))).den ρ=.rpt b ((e.ev ρ).toNat*sz+(o+off)):=elp_den q1
       rw [e1,<-Nat.add_assoc]
       exact LVG.field hg ho (hx.trans (elp_den q1)) hf hb.1
   · exact fao_ok ho hg hP h hk hx
 · exact fao_ok ho hg hP h hk hx
theorem oix_ok {t:TypeId} {x:Nat} {y:Operand} {v u:SV} {K:SV->SS->R} (ho:(opAt ops i).op=.indexAddr t (.tmp x) y) (hg:(opAt ops i).guard=none) (hP:cf.P=c.P) (hΦ:cf.Φ=c.Φ) (h:(oix cf t v u s K).Ok) (hk:Ok c T G Γ ρ s) (hx:T.at x=v.den ρ) (hy:EvA c.nt T y (u.den ρ)):Lo c T G Γ ops i s ρ K:=by
 unfold oix at h
 split at h
 · rename_i q kd e'
   split at h
   · rename_i w el hw hu
     rw [hP,hΦ] at h
     rw [hP] at hu
     cases hb:(Nat.beq el (w.el c.Φ)&&((c.P.info? el).isSome&&inO s w q e')) with
     | false=>rw [hb] at h; cases h
     | true =>
       rw [hb] at h
       simp only [Bool.and_eq_true] at hb
       obtain⟨b,cp,size,C,q1,q2,q3,_⟩:=inO_ok hw hb.2.2 hk
       refine Lo.here hk h ?_
       have e1:(sc (.elp q e' (szOf c.P el) 0)).den ρ=.rpt b ((e'.ev ρ).toNat*szOf c.P el+0):=elp_den q1
       rw [e1,Nat.add_zero,<-Nat.zero_add ((e'.ev ρ).toNat*szOf c.P el)]
       refine LVG.indexE hg ho (hx.trans q1) ?_ hu hb.2.1 rfl q3 (kd:=kd)
       have:(SV.v false [.int kd e']).den ρ=.int kd (.ofNat (e'.ev ρ).toNat):=by show AV.int kd (e'.ev ρ)=_; congr 1; exact (Int.toNat_of_nonneg q2).symm
       rw [<-this]; exact hy
   · exact ixo_ok ho hg hP hΦ h hk hx hy
 · exact ixo_ok ho hg hP hΦ h hk hx hy
theorem old_ok {t:TypeId} {x:Nat} {v:SV} {K:SV->SS->R} (ho:(opAt ops i).op=.load t (.tmp x)) (hg:(opAt ops i).guard=none) (hP:cf.P=c.P) (hΦ:cf.Φ=c.Φ) (h:(old cf t v s K).Ok) (hk:Ok c T G Γ ρ s) (hx:T.at x=v.den ρ):Lo c T G Γ ops i s ρ K:=by
 unfold old at h
 split at h
 · rename_i y e sz o
   split at h
   · rename_i cc g hw
     rw [hP,hΦ] at h
     cases hb:(inO s (.ul cc g) y e&&(Nat.beq sz (szOf c.P (c.Φ.ty cc)))) with
     | false=>rw [hb] at h; cases h
     | true =>
       rw [hb] at h
       simp only [cond_true] at h
       rw [Bool.and_eq_true] at hb
       obtain⟨b,cp,size,C,q1,q2,q3,q4,q5,q6,q7⟩:=inO_ok hw hb.1 hk
       have q3:(e.ev ρ).toNat<(ρ y).ns.length:=q3
       have hsz:=beq_ok hb.2
       subst hsz
       have hx':T.at x=.rpt b ((e.ev ρ).toNat*szOf c.P (c.Φ.ty cc)+o):=hx.trans (elp_den q1)
       have h1:((e.ev ρ).toNat+1)*szOf c.P (c.Φ.ty cc)<=(ρ y).ns.length*szOf c.P (c.Φ.ty cc):=Nat.mul_le_mul_right _ q3
       rw [Nat.succ_mul] at h1
       have hlen:(c.Φ.ks cc).length=szOf c.P (c.Φ.ty cc):=by
        obtain⟨fs,w1,_⟩:=q7
        rw [<-w1.len,List.length_take,List.length_drop]; omega
       have fin:∀{n:Nat} {ag:Bool},(prt cf cc g e o n ag (.k WU) s K).Ok->(ag=true/\aggT c.P t=true/\n=szOf c.P t)∨(ag=false/\aggT c.P t=false/\knownT c.P t=true/\n=1)->Lo c T G Γ ops i s ρ K:=fun {n ag} h hcs=>by
        have hle:o+n<=(c.Φ.ks cc).length:=by
         have hp:=h
         unfold prt at hp
         rw [hΦ] at hp
         cases hc:Nat.ble (o+n) (c.Φ.ks cc).length with
         | false=>rw [hc] at hp; cases hp
         | true=>exact ble_ok hc
        refine (prt_ok hΦ h hk ⟨q2,rfl⟩ q7 (by rw [LE.ev_k]; exact Int.le_refl _)).mono fun ρ2 s2 a2 n2 o2 hh=>?_
        obtain⟨xs,g1,g2⟩:=hh
        have e1:(((C.drop ((e.ev ρ).toNat*szOf c.P (c.Φ.ty cc))).take (szOf c.P (c.Φ.ty cc))).drop o).take n=(C.drop ((e.ev ρ).toNat*szOf c.P (c.Φ.ty cc)+o)).take n:=by
         rw [List.drop_take,List.take_take,List.drop_drop,Nat.min_eq_left (by omega)]
        rw [e1] at g2
        rcases hcs with ⟨rfl,h1,rfl⟩ | ⟨rfl,h1,h2,h3⟩
        · exact⟨_,g1,by
           show LVG _ _ _ _ _ _ _ _ _ (.agg (denL ρ2 xs))
           rw [g2]
           exact LVG.loadA hg ho hx' h1 rfl q5 (by omega) rfl⟩
        · obtain⟨u,rfl,hu⟩:=part1 g2 h3 (by omega)
          exact⟨_,g1,LVG.loadO hg ho hx' h2 h1 q5 hu⟩
       cases ha:aggT c.P t with
       | true=>rw [ha] at h; exact fin h (.inl ⟨rfl,ha,rfl⟩)
       | false =>
         rw [ha] at h
         cases hkn:knownT c.P t with
         | false=>rw [hkn] at h; cases h
         | true=>rw [hkn] at h; exact fin h (.inr ⟨rfl,ha,hkn,rfl⟩)
   · rename_i m el hw
     rw [hP] at h
     cases hb:(inO s (.bl m el) y e&&(Nat.beq sz 1&&(Nat.beq o 0&&(!aggT c.P t&&knownT c.P t)))) with
     | false=>rw [hb] at h; cases h
     | true =>
       rw [hb] at h
       simp only [cond_true] at h
       simp only [Bool.and_eq_true,Bool.not_eq_true'] at hb
       obtain⟨b1,b2,b3,b4,b5⟩:=hb
       obtain⟨b,cp,size,C,q1,q2,q3,q4,q5,q6,q7⟩:=inO_ok hw b1 hk
       have q3:(e.ev ρ).toNat<(ρ m).ns.length:=q3
       have b2:=beq_ok b2
       have b3:=beq_ok b3
       subst b2 b3
       have hx':T.at x=.rpt b (e.ev ρ).toNat:=(hx.trans (elp_den q1)).trans (by rw [Nat.mul_one,Nat.add_zero])
       have hm:(ρ m).ns[(e.ev ρ).toNat]?=some (ρ m).ns[(e.ev ρ).toNat]:=List.getElem?_eq_getElem q3
       have hC:C[(e.ev ρ).toNat]?=some (.bool (Nat.beq (ρ m).ns[(e.ev ρ).toNat] 0)):=by rw [q6,List.getElem?_map,hm]; rfl
       have hl:LVG c.P ops c.n0 c.nt i T .e (Rex.z 0) G (.bool (Nat.beq (ρ m).ns[(e.ev ρ).toNat] 0)):=LVG.loadO hg ho hx' b5 b4 q5 hC
       unfold obl at h
       cases hb2:(Nat.blt m s.nx&&e.lt s.nx) with
       | false=>rw [hb2] at h; cases h
       | true =>
         rw [hb2] at h
         rw [Bool.and_eq_true] at hb2
         obtain⟨h1,h2⟩:=R.and_ok h
         cases hz:Nat.beq (ρ m).ns[(e.ev ρ).toNat] 0 with
         | true=>rw [hz] at hl; exact Lo.here hk h1 hl
         | false =>
           rw [hz] at hl
           have hone:(ρ m).ns[(e.ev ρ).toNat]=1:=by
            have:=q7 _ (List.getElem_mem q3)
            have:(ρ m).ns[(e.ev ρ).toNat]≠0:=fun h0=>by rw [h0] at hz; cases hz
            omega
           obtain⟨k1,k2,k3,k4⟩:=fresh_ok h2 hk (.n (((ρ m).ns.take (e.ev ρ).toNat).sum+(e.ev ρ).toNat))
           have hmm:=k2 m (blt_ok hb2.1)
           have hp:(LE.a (.n s.nx)).ev (ρ.up s.nx (.n (((ρ m).ns.take (e.ev ρ).toNat).sum+(e.ev ρ).toNat)))=((((ρ m).ns.take (e.ev ρ).toNat).sum+(e.ev ρ).toNat:Nat):Int):=by rw [LE.ev_a]; show ((ρ.up s.nx (.n _) s.nx).nn:Int)=_; rw [k4]; rfl
           have hsum:((ρ m).ns.take ((e.ev ρ).toNat+1)).sum=((ρ m).ns.take (e.ev ρ).toNat).sum+1:=by
            rw [List.take_add_one,hm,List.sum_append,hone]; simp
           have htot:((ρ m).ns.take ((e.ev ρ).toNat+1)).sum<=(ρ m).ns.sum:=by
            have:=List.take_append_drop ((e.ev ρ).toNat+1) (ρ m).ns
            have h2:=congrArg List.sum this
            rw [List.sum_append] at h2
            omega
           refine Pst.mk k2 (Nat.le_succ _) (((k3.addPw (p:=(m,e,.a (.n s.nx))) ?_).addPw (p:=(m,e.addc 1,(LE.a (.n s.nx)).addc 2)) ?_).addF ?_) ⟨_,k1,hl⟩
           · show 0<=e.ev _/\((((ρ.up s.nx (.n _) m).ns.take (e.ev _).toNat).sum:Nat):Int)+e.ev _=(LE.a (.n s.nx)).ev _
             rw [hp,LE.agr k2 hb2.2,hmm]
             exact⟨q2,by omega⟩
           · show 0<=(e.addc 1).ev _/\((((ρ.up s.nx (.n _) m).ns.take ((e.addc 1).ev _).toNat).sum:Nat):Int)+(e.addc 1).ev _=((LE.a (.n s.nx)).addc 2).ev _
             rw [LE.ev_addc,LE.ev_addc,hp,LE.agr k2 hb2.2,hmm,show (e.ev ρ+1).toNat=(e.ev ρ).toNat+1 by omega,hsum]
             exact⟨by omega,by omega⟩
           · rw [LE.ev_addc,LE.ev_sub,hp,LE.ev_a]
             show 0<=(((ρ.up s.nx (.n _) m).ns.sum+(ρ.up s.nx (.n _) m).ns.length:Nat):Int)-_+-2
             rw [hmm]
             omega
   · exact ldo_ok ho hg hP hΦ h hk hx
 · exact ldo_ok ho hg hP hΦ h hk hx
theorem olk_ok {t:TypeId} {x y:Operand} {v u:SV} {ok:Bool} {K:SV->SS->R} (ho:(opAt ops i).op=.lookup t x y ok) (hg:(opAt ops i).guard=none) (hP:cf.P=c.P) (hΦ:cf.Φ=c.Φ) (hK:KeysOk cf) (h:(olk cf t v u ok s K).Ok) (hk:Ok c T G Γ ρ s) (hx:EvA c.nt T x (v.den ρ)) (hy:EvA c.nt T y (u.den ρ)):Lo c T G Γ ops i s ρ K:=by
 unfold olk at h
 split at h
 · rename_i b
   have hx:EvA c.nt T x (.rmp (ρ b).nn):=hx
   split at h
   · rename_i kt et w hu hw
     rw [hP] at h hu
     split at h
     · rename_i ag cs hz
       cases hzz:zeroOf c.P et with
       | none=>rw [hzz] at hz; cases hz
       | some zz =>
         rw [hzz] at hz
         have hz:svA zz=some (.v ag cs):=hz
         have hz1:∀ρ,den1 ρ (ag,cs)=zz:=fun ρ=>svA_ok hz ρ
         have hown:=hk.own (fOm_mem hw)
         split at h
         · rename_i g q
           cases hb:(keyT cf kt .str&&keyS .str u) with
           | false=>rw [hb] at h; cases h
           | true =>
             rw [hb] at h
             rw [Bool.and_eq_true] at hb
             have hMt:=keyT_ok hb.1 hK
             rw [hP] at hMt
             obtain⟨_,_,hbd,es,r1,r2,r3⟩:=hown
             exact lka_ok (cf:=cf) h hk hz1 hb.2 r3 hbd (LVG.lookup hg ho hu hzz hMt hx hy (keyS_ok hb.2 ρ) r1 fun p hp=>(r2 p hp).1)
         · rename_i e
           cases hb:(keyT cf kt .str&&(keyS .str u&&e.lt s.nx)) with
           | false=>rw [hb] at h; cases h
           | true =>
             rw [hb] at h
             simp only [Bool.and_eq_true] at hb
             have hMt:=keyT_ok hb.1 hK
             rw [hP] at hMt
             obtain⟨_,es,r1,r2⟩:=hown
             have hl:=LVG.lookup (n0:=c.n0) (nt:=c.nt) (T:=T) (hp:=.e) (nx:=Rex.z 0) hg ho hu hzz hMt hx hy (keyS_ok hb.2.1 ρ) r1 fun p hp=>(r2 p hp).1
             obtain⟨h1,h2⟩:=R.and_ok h
             cases hf:findA (u.den ρ) es with
             | none=>rw [hf] at hl; exact Lo.here hk h1 (by rw [miss_den,hz1]; exact hl)
             | some v =>
               rw [hf] at hl
               obtain⟨p,m1,rfl⟩:=findA_mem hf
               obtain⟨_,n,e1,e2⟩:=r2 p m1
               obtain⟨k1,k2,k3,k4⟩:=fresh_ok h2 hk (.n n)
               have hev:(LE.a (.n s.nx)).ev (ρ.up s.nx (.n n))=n:=by rw [LE.ev_a]; show ((ρ.up s.nx (.n n) s.nx).nn:Int)=n; rw [k4]; rfl
               refine Pst.mk k2 (Nat.le_succ _) (k3.addF ?_) ⟨_,k1,?_⟩
               · rw [LE.ev_addc,LE.ev_sub,hev,LE.agr k2 hb.2.2]; omega
               · rw [hit_den]
                 have e3:den1 (ρ.up s.nx (.n n)) (false,[SC.int .i64 (.a (.n s.nx))])=.int .i64 (.ofNat n):=by show AV.int .i64 ((LE.a (.n s.nx)).ev _)=_; rw [hev]; rfl
                 rw [e3]; rw [e1] at hl; exact hl
         · rename_i pk
           cases hb:(keyT cf kt pk&&keyS pk u) with
           | false=>rw [hb] at h; cases h
           | true =>
             rw [hb] at h
             rw [Bool.and_eq_true] at hb
             have hMt:=keyT_ok hb.1 hK
             rw [hP] at hMt
             have r1:G (ρ b).nn=some (.map []):=hown.1
             have hl:=LVG.lookup (n0:=c.n0) (nt:=c.nt) (T:=T) (hp:=.e) (nx:=Rex.z 0) hg ho hu hzz hMt hx hy (keyS_ok hb.2 ρ) r1 fun p hp=>by cases hp
             exact Lo.here hk h (by rw [miss_den,hz1]; exact hl)
     · cases h
   · cases h
 · exact lko_ok ho hg hP hΦ hK h hk hx hy
theorem oln_ok {cl:Call} {t:TypeId} {ats:List TypeId} {x:Operand} {v:SV} {K:SV->SS->R} (ho:(opAt ops i).op=.call cl) (hc:cl.callee=.builtin .len) (hats:cl.argTypes.toList=t::ats) (hxa:cl.args.toList=[x]) (hg:(opAt ops i).guard=none) (hP:cf.P=c.P) (h:(oln cf t v s K).Ok) (hk:Ok c T G Γ ρ s) (hx:EvA c.nt T x (v.den ρ)):Lo c T G Γ ops i s ρ K:=by
 unfold oln at h
 split at h
 · rename_i y
   split at h
   · rename_i w e hw hu
     rw [hP] at hu
     have ho':=hk.own (fOw_mem hw)
     refine Lo.here hk h ?_
     show LVG _ _ _ _ _ _ _ _ _ (.int .i64 ((LE.a (.len (w.ln y))).ev ρ))
     rw [LE.ev_a]
     refine LVG.lenE (n:=(ρ (w.ln y)).ns.length) hg ho hc hats hxa hu hx ?_
     cases w with
     | ul cc g =>
       obtain⟨_,_,h3⟩:_/\_/\_:=ho'
       rcases h3 with ⟨h1,h0⟩ | ⟨b,cp,size,C,q1,_⟩
       · exact .inl ⟨h1,h0⟩
       · exact .inr ⟨b,0,cp,q1⟩
     | bl m el =>
       obtain⟨_,_,b,size,q1,_⟩:=ho'
       exact .inr ⟨b,0,_,q1⟩
   · exact leo_ok ho hc hats hxa hg hP h hk hx
 · rename_i b n
   split at h
   · rename_i e hu
     rw [hP] at hu
     refine Lo.here hk h ?_
     show LVG _ _ _ _ _ _ _ _ _ (.int .i64 ((LE.k n).ev ρ))
     rw [LE.ev_k]
     exact LVG.lenE (n:=n) hg ho hc hats hxa hu hx (.inr ⟨(ρ b).nn,0,n,rfl⟩)
   · cases h
 · exact leo_ok ho hc hats hxa hg hP h hk hx
theorem lop2_ok {K:SV->SS->R} (hg:(opAt ops i).guard=none) (hP:cf.P=c.P) (hΦ:cf.Φ=c.Φ) (hK:KeysOk cf) (h:(lop2 cf (opAt ops i).op s K).Ok) (hk:Ok c T G Γ ρ s):Lo c T G Γ ops i s ρ K:=by
 unfold lop2 at h
 split at h
 · rename_i ho; obtain⟨v,h,e0,e⟩:=wv_ok h hk; exact oao_ok ho hg hP h hk (opv_tmp e0 hk.q)
 · rename_i ho; obtain⟨v,h,e0,e⟩:=wv_ok h hk; exact old_ok ho hg hP hΦ h hk (opv_tmp e0 hk.q)
 · rename_i ho; obtain⟨v,h,e0,e⟩:=wv_ok h hk; obtain⟨u,h,_,e'⟩:=wv_ok h hk; exact oix_ok ho hg hP hΦ h hk (opv_tmp e0 hk.q) e'
 · rename_i ho; obtain⟨v,h,_,e⟩:=wv_ok h hk; obtain⟨u,h,_,e'⟩:=wv_ok h hk; exact olk_ok ho hg hP hΦ hK h hk e e'
 · rename_i x ho
   obtain⟨v,h,e0,e⟩:=wv_ok h hk
   split at h
   · rename_i y e' sz o
     split at h
     · rename_i w hw
       cases hi:inO s w y e' with
       | false=>rw [hi] at h; cases h
       | true =>
         rw [hi] at h
         obtain⟨b,cp,size,C,q1,_⟩:=inO_ok hw hi hk
         have e1:(SV.v false [.elp y e' sz o]).den ρ=.rpt b ((e'.ev ρ).toNat*sz+o):=elp_den q1
         exact Lo.here hk h (by rw [e1]; exact LVG.nil hg ho ((opv_tmp e0 hk.q).trans e1))
     · exact nco_ok ho hg h hk (opv_tmp e0 hk.q)
   · exact nco_ok ho hg h hk (opv_tmp e0 hk.q)
 · rename_i cl ho
   split at h
   · rename_i x t ats h1 h2 h3
     obtain⟨v,h,_,e⟩:=wv_ok h hk
     exact oln_ok ho h1 h3 h2 hg hP h hk e
   · cases h
 · exact lop_ok hg hP hΦ hK h hk
def gop2 (cf:Cf) (ops:Array Oper) (i:Nat) (s:SS) (K:SV->SS->R):R:=match (opAt ops i).guard with
 | none=>lop2 cf (opAt ops i).op s K
 | some (g,b)=>(match (opAt ops g).dst with
   | some dg=>(match lkS s.L dg with
     | some (.v false [.bool be])=>split s be (fun s=>bif b then lop2 cf (opAt ops i).op s K else K .undef s) (fun s=>bif b then K .undef s else lop2 cf (opAt ops i).op s K)
     | some .undef=>K .undef s
     | _=>.bad 13 s)
   | none=>.bad 14 s)
theorem gop2_ok {K:SV->SS->R} (hP:cf.P=c.P) (hΦ:cf.Φ=c.Φ) (hK:KeysOk cf) (h:(gop2 cf ops i s K).Ok) (hk:Ok c T G Γ ρ s):Lo c T G Γ ops i s ρ K:=by
 unfold gop2 at h
 split at h
 · rename_i hg
   exact lop2_ok hg hP hΦ hK h hk
 · rename_i g b hg
   split at h
   · rename_i dg hdg
     split at h
     · rename_i be hl
       have hT:T.at dg=.bool (be.ev ρ):=hk.q.at_ _ _ (lkS_den hl)
       have run:∀s1,s1.nx=s.nx->Ok c T G Γ ρ s1->be.ev ρ=b->(lop2 cf (opAt ops i).op s1 K).Ok->Lo c T G Γ ops i s ρ K:=fun s1 n1 o1 e1 h1=>by
        rw [e1] at hT
        refine Lo.to n1 (Lo.map (ops':=clrA ops) (lop2_ok (clr_guard ops i) hP hΦ hK (by rw [clr_op]; exact h1) o1) fun v hv=>lvg_guard1 hg hdg hT hv)
       have idle:∀s1,s1.nx=s.nx->Ok c T G Γ ρ s1->be.ev ρ≠b->(K .undef s1).Ok->Lo c T G Γ ops i s ρ K:=fun s1 n1 o1 e1 h1 =>
        Lo.to n1 (Lo.here o1 h1 (lvg_guard0 hg hdg hT e1))
       obtain⟨s1,n1,_,o1,h1 | h1⟩:=split_ok h hk
       · obtain⟨e1,h1⟩:=h1
         cases b with
         | true=>exact run s1 n1 o1 e1 h1
         | false=>exact idle s1 n1 o1 (by rw [e1]; decide) h1
       · obtain⟨e1,h1⟩:=h1
         cases b with
         | true=>exact idle s1 n1 o1 (by rw [e1]; decide) h1
         | false=>exact run s1 n1 o1 e1 h1
     · rename_i hl
       exact Lo.here hk h (lvg_guardU hg hdg (hk.q.at_ _ _ (lkS_den hl)))
     · cases h
   · cases h
end
end Go.Rd
namespace Go.Rt
open Go.Rex Go.RowKit
section
variable {c:Cx} {ops:Array Oper} {i m d f:Nat} {T:Tm} {G G':GH} {Γ Γ':Gam} {st st':St} {v u:AV}
theorem Q.appO (hq:Q c T G Γ st) {cc g n k:Nat} {E2:List AV} {osA:List Own} (ho:st.os.Perm (osA++[.ul v cc g n])) (hE2:E2.length=k*szOf c.P (c.Φ.ty cc)) (hcl:CL E2) (hel:∀j,j<k->ElOk c.P c.Φ G Γ WU cc g (n+j) ((E2.drop (j*szOf c.P (c.Φ.ty cc))).take (szOf c.P (c.Φ.ty cc)))) (hlim:n+k<=LIM) :
  ∃E1,Ext G v (c.Φ.ty cc) (szOf c.P (c.Φ.ty cc)) n E1/\nfL E1/\(∀G' v',AppR c.n0 G G' v v' (c.Φ.ty cc) (szOf c.P (c.Φ.ty cc)) n k E1 E2->∃Γ',Q c T G' Γ' ⟨st.L,osA++[.ul v' cc g (n+k)],st.tys,st.gs⟩):=by
 have hown:OwnOk c.P c.Φ G Γ (.ul v cc g n):=hq.own _ (ho.mem_iff.2 (by simp))
 obtain⟨hg,hlm,hown'⟩:=hown
 obtain⟨E1,t1,t2,t3,t4⟩:∃E1,Ext G v (c.Φ.ty cc) (szOf c.P (c.Φ.ty cc)) n E1/\CL E1/\E1.length=n*szOf c.P (c.Φ.ty cc)/\(∀j,j<n->ElOk c.P c.Φ G Γ WU cc g j ((E1.drop (j*szOf c.P (c.Φ.ty cc))).take (szOf c.P (c.Φ.ty cc)))):=by
  rcases hown' with ⟨h1,rfl⟩ | ⟨b,cap,size,C,h1,h2,h3,h4,h5,h6,h7⟩
  · exact⟨[],.inl ⟨h1,rfl,rfl⟩,cl_nil,by simp,fun j hj=>absurd hj (by omega)⟩
  · exact⟨C,.inr ⟨b,0,cap,size,C,h1,h3,by omega,by rw [List.drop_zero,<-h4,List.take_length],by omega,h6⟩,cl_win h4 fun j hj=>(h7 j hj).cl,h4,h7⟩
 refine⟨E1,t1,t2.nf,fun G' v' ha'=>?_⟩
 have fin:∀(b c' size:Nat),G'=upd G b (.cells .data (c.Φ.ty cc) size (E1++E2))->v'=.rsl b 0 (n+k) c'->c'*szOf c.P (c.Φ.ty cc)<=size->n+k<=c'->((Own.ul v cc g n).blk=some b∨G b=none)->Γ.m b=none->((G b).isSome=true∨c.n0<=b)->(∀el size C,G b≠some (.cells .raw el size C))->(∀el size' C,G b=some (.cells .data el size' C)->el=c.Φ.ty cc/\size'=size) ->
   ∃Γ',Q c T G' Γ' ⟨st.L,osA++[.ul v' cc g (n+k)],st.tys,st.gs⟩:=by
  intro b c' size hG hv hcs hlc hob hΓ hgr hraw hdat
  subst hG hv
  refine⟨Γ,?_⟩
  have:=hq.chgO (b:=b) (G':=upd G b (.cells .data (c.Φ.ty cc) size (E1++E2))) (Γ':=Γ) (o':=.ul (.rsl b 0 (n+k) c') cc g (n+k)) (tys':=[]) ho (grow_upd hgr) (fun _ _=>rfl) (fun k h=>upd_ne h) (by rw [upd_same]; rfl) hraw (fun el size' C' h=>⟨E1++E2,by obtain⟨r1,r2⟩:=hdat _ _ _ h; subst r1 r2; exact upd_same _ _ _⟩)
   (fun x h=>by rw [hΓ] at h; cases h) rfl rfl hob rfl (fun x _ _ h=>by rw [hΓ] at h; cases h)
   (fun hr hl=>⟨hg,hlim,.inr ⟨b,c',size,E1++E2,rfl,hΓ,upd_same _ _ _,by rw [List.length_append,t3,hE2,Nat.add_mul],hcs,hlc,fun j hj=>by
    by_cases hlt:j<n
    · have h1:(j+1)*szOf c.P (c.Φ.ty cc)<=n*szOf c.P (c.Φ.ty cc):=Nat.mul_le_mul_right _ hlt
      rw [Nat.succ_mul] at h1
      rw [List.drop_append_of_le_length (by omega),List.take_append_of_le_length (by rw [List.length_drop]; omega)]
      exact (t4 j hlt).le hr hl hg
    · have h1:j*szOf c.P (c.Φ.ty cc)=n*szOf c.P (c.Φ.ty cc)+(j-n)*szOf c.P (c.Φ.ty cc):=by rw [<-Nat.add_mul]; congr 1; omega
      rw [h1,<-t3,List.drop_append]
      rw [List.drop_of_length_le (by omega),List.nil_append,Nat.add_sub_cancel_left]
      have:=hel (j-n) (by omega)
      rw [show n+(j-n)=j by omega] at this
      exact this.le hr hl hg⟩⟩) (fun f hf=>by cases hf)
  exact this
 rcases ha' with ⟨rfl,rfl,h1,h2,rfl⟩ | ⟨b,o,cap,size,C,rfl,h2,h3,h4,h5,h6,h7⟩ | ⟨b,c',size,h1,h2,h3,h4,h5,h6⟩
 · subst h1 h2
   exact⟨Γ,hq.weak (fun _ _ h=>h) ⟨[],by simpa using ho⟩ (fun f h=>h) (fun p h=>h)⟩
 · rcases hown' with ⟨h,_⟩ | ⟨b',cap2,size2,C2,k1,k2,k3,k4,k5,k6,k7⟩
   · cases h
   · cases k1
     rw [h2] at k3; cases k3
     have hC:C=E1:=by
      rcases t1 with ⟨h,_⟩ | ⟨_,_,_,_,_,g1,g2,g3,g4,_⟩
      · cases h
      · cases g1; rw [h2] at g2; cases g2
        rw [<-g4,List.drop_zero,<-k4,List.take_length]
     subst hC
     exact fin b cap size (by rw [h7,overL_end (by omega)]) h3 (by omega) h4 (.inl rfl) k2 (.inl (by rw [h2]; rfl)) (fun _ _ _ h=>by rw [h2] at h; cases h) fun el size' C' h=>by rw [h2] at h; cases h; exact⟨rfl,rfl⟩
 · exact fin b c' size h6 h3 h5 h4 (.inr h2) (hq.ht.none h2) (.inr h1) (fun _ _ _ h=>by rw [h2] at h; cases h) fun _ _ _ h=>by rw [h2] at h; cases h
end
end Go.Rt
namespace Go.Rex
open Go.RowKit
section
variable {P:Program} {n0 nt:Nat} {T T2:Tm} {hp H:Tr AO} {nx X:Pz} {G:GH} {ops:Array Oper} {light:List Nat} {i m d:Nat} {v u:AV}
theorem StG.makeSW {t e:TypeId} {yl yc:Operand} {n:Nat} {z:AV} {R:Tm->Tr AO->Pz->GH->Prop} (hg:(opAt ops i).guard=none) (hd:(opAt ops i).dst=some d) (hlt:d<nt) (ho:(opAt ops i).op=.makeSlice t yl yc) (hu:P.underlying t=some (.slice e)) (hz:zeroOf P e=some z)
  (hgz:(Nat.beq z.cells.length (szOf P e)&&(Nat.ble (szOf P e) 1000&&(Nat.blt 0 (szOf P e)&&Nat.ble (P.bytesOf e) 1000000)))=true) (hl:EvA nt T yl (.int .i64 (.ofNat n))) (hc:EvA nt T yc (.int .i64 (.ofNat n))) (hn:n<=16777216) (hnf:nfL z.cells)
  (hr:∀b,n0<=b->G b=none->R (T.put d (.rsl b 0 n n)) hp nx (upd G b (.cells .data e (n*szOf P e) (repl n z.cells)))):StG P n0 nt ops i T hp nx G R:=by
 intro B w0 ι a w hs
 refine .inl ⟨by simp [Region.wanted,hg],?_⟩
 rw [hd]
 have hval:=(hs.1.2 ι (Agree.refl _ _)).1
 simp only [Bool.and_eq_true] at hgz
 obtain⟨g1,g2,g3,g5⟩:=hgz
 have g1:=beq_ok g1
 have g2:=ble_ok g2
 have g3:=blt_ok g3
 have g5:=ble_ok g5
 obtain⟨j,zv,q1,q2,q3,q4⟩:=zeroOf_ok hz
 have hbytes:P.bytesOf e=j.bytes:=by unfold Program.bytesOf; rw [q1]; rfl
 have hsz:j.size=szOf P e:=by unfold szOf; rw [q1]; rfl
 have hm:j.bytes*n<=1000000*16777216:=Nat.mul_le_mul (by omega) hn
 have hz':zv.cells=(renL ι z.cells).toArray:=by rw [<-absV_ren 8 zv z q3 ι,ren_cells]
 have hmade:madeCells zv.cells (n*j.size)=(renL ι (repl n z.cells)).toArray:=by
  unfold madeCells
  rw [hz',hsz,<-g1]
  exact made_ren ι z.cells (by omega) n
 have hrun:(execOp a.eval (opAt ops i)).run P w=.ok (.value (.slice (some ⟨w.heap.size,0,none⟩) n n)) (w.alloc (.cells (renL ι (repl n z.cells)).toArray e (0,0))):=by
  simp only [execOp,ho,Sem.run_bind]
  rw [hl ι a hval,hc ι a hval,ren_int]
  have hrm:=run_make w t e j zv hu q1 q2 .i64 .i64 (n:Int) (n:Int) (by omega) (by omega) (by omega) (by omega)
  rw [hrm]
  simp only [Result.andThen_ok,Sem.run_pure,Int.toNat_natCast]
  rw [hmade]
 have hrl:(repl n z.cells).length=n*szOf P e:=by rw [repl_length,g1]
 have hnfr:nfL (repl n z.cells):=by
  clear hrun hmade hm hrl hn hl hc hr
  induction n with
  | zero=>exact nfL_nil
  | succ n ih=>exact nfL_append hnf ih
 obtain⟨p1,p2,p3⟩:=satG_row (kd:=.data) (el:=e) hs hnfr
 rw [hrl] at p1
 exact .inl ⟨_,_,.inl hrun,_,_,_,_,ι,hr _ p2 p3,satG_put p1 hlt (nf_rsl _ _ _ _) (by simp [ren,radr_zero])⟩
end
end Go.Rex
