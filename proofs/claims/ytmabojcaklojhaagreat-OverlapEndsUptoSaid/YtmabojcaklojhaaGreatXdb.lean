/- Part Xdb of the proof of OverlapEnds: no condition. -/
import Derived.Test.YtmabojcaklojhaaGreatXda
set_option linter.unusedSimpArgs false
set_option linter.unusedVariables false
namespace Go.Rd
open Go.aK Go.RowKit Go.Rt
def dY:SV->Option (List SC)
 |.v true cs=>some cs
 |.v false [x]=>some [x]
 |_=>none
section
variable {c:Cx}{T:Tm}{G:GH}{Γ:dI}{ρ ρ':bm}{s s':SS}{cf:Cf}{ops:Array Oper}{i:Nat}
theorem AQ (x:SC)(ρ:bm):nf (x.den ρ)/\sK (x.den ρ)=true/\(x.den ρ).cells=[x.den ρ]:=by
 cases x with
 |int k e=>exact⟨lV _ _,rfl,rfl⟩
 |bool b=>exact⟨jr _,rfl,rfl⟩
 |str x=>exact⟨jG _ _,rfl,rfl⟩
 |my l m=>exact⟨jG _ _,rfl,rfl⟩
 |px k x=>exact⟨qv _ _,rfl,rfl⟩
 |xX k x=>exact⟨qv _ _,rfl,rfl⟩
 |ref x =>
  have:=U.rh (ρ x);show nf (ρ x).vv/\sK (ρ x).vv=true/\(ρ x).vv.cells=[(ρ x).vv];generalize (ρ x).vv=v at this;cases v<;>first|(cases this;done)|skip
  ·exact⟨nX,rfl,rfl⟩
  ·exact⟨lW,rfl,rfl⟩
  ·exact⟨nY,rfl,rfl⟩
  ·exact⟨jf _ _ _ _,rfl,rfl⟩
  ·exact⟨lX _ _,rfl,rfl⟩
  ·exact⟨xO _,rfl,rfl⟩
 |ab=>exact⟨lW,rfl,rfl⟩
 |c7=>exact⟨nX,rfl,rfl⟩
 |bg=>exact⟨nY,rfl,rfl⟩
 |cJ=>exact⟨Cb,rfl,rfl⟩
 |bZ b o=>exact⟨lX _ _,rfl,rfl⟩
 |py x e sz o =>
  show nf (pz _ _)/\sK (pz _ _)=true/\(pz _ _).cells=[pz _ _];unfold pz;split
  ·exact⟨lX _ _,rfl,rfl⟩
  ·exact⟨nX,rfl,rfl⟩
 |vb x o =>
  show nf (mz _ _)/\sK (mz _ _)=true/\(mz _ _).cells=[mz _ _];unfold mz;split
  ·exact⟨lX _ _,rfl,rfl⟩
  ·exact⟨nX,rfl,rfl⟩
 |cV b=>exact⟨xO _,rfl,rfl⟩
 |wA b n=>exact⟨jf _ _ _ _,rfl,rfl⟩
 |fn f=>exact⟨fun _ _=>by simp[SC.den,ak,aq,kR],rfl,rfl⟩
theorem gj (cs:List SC)(ρ:bm):nW (aD ρ cs):=fun v hv=>by
 obtain⟨x,_,rfl⟩:=List.mem_map.1 hv;exact (AQ x ρ).1
theorem rz (cs:List SC)(ρ:bm):flat (aD ρ cs)=true:=Ax fun v hv=>by
 obtain⟨x,_,rfl⟩:=List.mem_map.1 hv;exact (AQ x ρ).2.1
theorem gk {v:SV}{cs:List SC}(h:dY v=some cs)(ρ:bm):(v.den ρ).cells=aD ρ cs:=by
 unfold dY at h;split at h
 ·cases h;rfl
 ·rename_i x;cases h;exact (AQ x ρ).2.2
 ·cases h
theorem DR (p:Bool×List SC)(ρ:bm):nf (cj ρ p):=by
 unfold cj;split
 ·exact xP (gj _ _)
 ·cases h:aD ρ p.2 with
  |nil=>exact lW
  |cons v l=>exact gj p.2 ρ v (by rw[h];exact zac ..)
theorem uL (v:SV)(ρ:bm):nf (v.den ρ):=by
 cases v with
 |v ag cs=>exact DR _ _
 |cN l=>exact uq fun u hu=>by obtain⟨p,_,rfl⟩:=List.mem_map.1 hu;exact DR _ _
 |undef=>exact ur
 |wB f bs cs=>exact fun ι ι'=>by simp only[SV.den,ak,kR,aq];rw[qw (gj cs ρ) ι ι',qw (gj bs ρ) ι ι']
 |slt q e sz =>
  show nf (HR (ρ q).vv (e.ev ρ).toNat sz);have hr:=U.rh (ρ q);unfold HR;split
  ·exact jf _ _ _ _
  ·exact fun ι ι'=>by
     cases hv:(ρ q).vv<;>first|(rw[hv]at hr;cases hr;done)|simp[ak]
def WO (x:SV)(k:Nat)(s:SS)(K:SV->SS->R):R:=match x with
 |.cN l=>(match l[k]? with|some p=>K (.v p.1 p.2) s|none=>.bad 70 s)
 |_=>.bad 71 s
theorem Qe {x:Operand}{k:Nat}{v:SV}{K:SV->SS->R}(ho:(ae ops i).op=.extract x k)(hg:(ae ops i).guard=none)(h:(WO v k s K).Ok)(hk:Ok c T G Γ ρ s)(hx:a9 c.nt T x (v.den ρ)):Lo c T G Γ ops i s ρ K:=by
 unfold WO at h;split at h
 ·rename_i l;cases hl:l[k]? with
  |none=>rw[hl]at h;cases h
  |some p =>
   rw[hl]at h;exact Lo.here hk h (ba.HW hg ho hx (by rw[zcd,hl];rfl))
 ·cases h
def WQ (cf:Cf)(t:TypeId)(x:SV)(f:Nat)(s:SS)(K:SV->SS->R):R:=match x,fj cf.P t f with
 |.v true cs,some (off,ft)=>bif ec cf.P ft then K (.v true ((cs.drop off).take (af cf.P ft))) s
  else bif cM cf.P ft then (match cs[off]? with|some x=>K (sc x) s|none=>.bad 72 s)else .bad 73 s
 |_,_=>.bad 74 s
theorem Qf {t:TypeId}{x:Operand}{f:Nat}{v:SV}{K:SV->SS->R}(ho:(ae ops i).op=.field t x f)(hg:(ae ops i).guard=none)(hP:cf.P=c.P)(h:(WQ cf t v f s K).Ok)(hk:Ok c T G Γ ρ s)(hx:a9 c.nt T x (v.den ρ)):Lo c T G Γ ops i s ρ K:=by
 unfold WQ at h;rw[hP]at h;split at h
 ·rename_i cs off ft hf;have hx:a9 c.nt T x (.agg (aD ρ cs)):=hx;cases ha:ec c.P ft with
  |true =>
   rw[ha]at h;refine Lo.here hk h ?_;show ba _ _ _ _ _ _ _ _ _ (.agg (aD ρ _));rw[ry];exact ba.HX hg ho hf hx (tR ha)
  |false =>
   rw[ha]at h;cases hkn:cM c.P ft with
   |false=>rw[hkn]at h;cases h
   |true =>
    rw[hkn]at h;simp only[cond_true,cond_false]at h;cases hc:cs[off]? with
    |none=>rw[hc]at h;cases h
    |some u =>
     rw[hc]at h;exact Lo.here hk h (ba.HX hg ho hf hx (nh hkn ha (by simp[aD,hc];rfl)))
 ·cases h
def WR (x:SV)(a b:Option SV)(s:SS)(K:SV->SS->R):R:=match x with
 |.v false [.bool be]=>split s be (fun s=>match a with|some v=>K v s|none=>.bad 75 s) (fun s=>match b with|some v=>K v s|none=>.bad 75 s)
 |_=>.bad 76 s
theorem Qg {x y y':Operand}{v:SV}{a b:Option SV}{K:SV->SS->R}(ho:(ae ops i).op=.pick x y y')(hg:(ae ops i).guard=none)(h:(WR v a b s K).Ok)(hk:Ok c T G Γ ρ s)(hx:a9 c.nt T x (v.den ρ))(ha:∀u,a=some u->a9 c.nt T y (u.den ρ))(hb:∀u,b=some u->a9 c.nt T y' (u.den ρ)):Lo c T G Γ ops i s ρ K:=by
 unfold WR at h;split at h
 ·rename_i be;have hx:a9 c.nt T x (.bool (be.ev ρ)):=hx;obtain⟨s1,n1,d1,o1,h1|h1⟩:=nF h hk
  ·obtain⟨e1,h1⟩:=h1;cases ha':a with
   |none=>rw[ha']at h1;cases h1
   |some u=>rw[ha']at h1;exact Lo.to n1 (Lo.here o1 h1 (ba.M4 hg ho hx (fun _=>ha u ha') (fun e=>by rw[e1]at e;cases e)))
  ·obtain⟨e1,h1⟩:=h1;cases hb':b with
   |none=>rw[hb']at h1;cases h1
   |some u=>rw[hb']at h1;exact Lo.to n1 (Lo.here o1 h1 (ba.M4 hg ho hx (fun e=>by rw[e1]at e;cases e) (fun _=>hb u hb')))
 ·cases h
def sy (place:Nat->Option (Nat×Nat)):List (Nat×List SC)->List SC->Option (List SC)
 | [],cs=>some cs
 |p::ps,cs=>match place p.1 with
  |none=>none
  |some (off,size)=>bif Nat.beq p.2.length size&&Nat.ble (off+size) cs.length then sy place ps (rn off p.2 cs)else none
def rA (s:SS):List (Nat×Operand)->Option (List (Nat×SV×List SC))
 | []=>some []
 |p::ps=>match JR s p.2,rA s ps with
  |some v,some l=>(match dY v with|some cs=>some ((p.1,v,cs)::l)|none=>none)
  |_,_=>none
theorem n6 (hq:Q c T G Γ (s.den ρ)):∀{ps:List (Nat×Operand)}{l:List (Nat×SV×List SC)},rA s ps=some l->HY c.nt T ps (l.map fun p=>(p.1,p.2.1.den ρ))/\∀p∈l,(p.2.1.den ρ).cells=aD ρ p.2.2
 | [],l,h=>by cases h;exact⟨trivial,fun p hp=>by cases hp⟩
 |p::ps,l,h=>by
  unfold rA at h;split at h
  ·rename_i v l' hv hl;cases hc:dY v with
   |none=>rw[hc]at h;cases h
   |some cs =>
    rw[hc]at h;cases h;obtain⟨h1,h2⟩:=n6 hq hl;refine⟨⟨rfl,rp hv hq,h1⟩,fun q hqm=>?_⟩;rcases List.mem_cons.1 hqm with rfl|hqm
    ·exact gk hc ρ
    ·exact h2 q hqm
  ·cases h
theorem qD {place:Nat->Option (Nat×Nat)}:∀{l:List (Nat×SV×List SC)}{cs cs':List SC},sy place (l.map fun p=>(p.1,p.2.2)) cs=some cs'->(∀p∈l,(p.2.1.den ρ).cells=aD ρ p.2.2)->sx place (l.map fun p=>(p.1,p.2.1.den ρ)) (aD ρ cs)=some (aD ρ cs')
 | [],cs,cs',h,_=>by cases h;rfl
 |p::l,cs,cs',h,hc=>by
  have h:(match place p.1 with
   |none=>none
   |some (off,size)=>bif Nat.beq p.2.2.length size&&Nat.ble (off+size) cs.length then sy place (l.map fun p=>(p.1,p.2.2)) (rn off p.2.2 cs)else none)=some cs':=h
  show (match place p.1 with
   |none=>none
   |some (off,size)=>if (p.2.1.den ρ).cells.length=size/\off+size<=(aD ρ cs).length then sx place (l.map fun (p:Nat×SV×List SC)=>(p.1,p.2.1.den ρ)) (rn off (p.2.1.den ρ).cells (aD ρ cs))else none)=_
  cases hp:place p.1 with
  |none=>rw[hp]at h;cases h
  |some q =>
   obtain⟨off,size⟩:=q;rw[hp]at h;simp only at h ⊢;cases hb:(Nat.beq p.2.2.length size&&Nat.ble (off+size) cs.length)with
   |false=>rw[hb]at h;cases h
   |true =>
    rw[hb]at h;rw[za]at hb;have e1:=hc p (zac ..);have hl:(aD ρ p.2.2).length=p.2.2.length:=by simp[aD]
    have hl2:(aD ρ cs).length=cs.length:=by simp[aD]
    rw[e1,if_pos ⟨by rw[hl];exact aj hb.1,by rw[hl2];exact aN hb.2⟩];have e2:rn off (aD ρ p.2.2) (aD ρ cs)=aD ρ (rn off p.2.2 cs):=(DK (SC.den ρ) off p.2.2 cs).symm;rw[e2];exact qD h fun q hq=>hc q (zaa _ hq)
def AR (l:List (Nat×SV×List SC)):List (Nat×List SC):=l.map fun p=>(p.1,p.2.2)
def Ih (P:Program)(fs:Array Field):Option (List (Nat×Nat)):=fs.toList.mapM fun f=>(P.info? f.type).map fun i=>(f.offset,i.size)
def WS (cf:Cf)(t:TypeId)(ps:List (Nat×Operand))(s:SS)(K:SV->SS->R):R:=match cf.P.underlying t with
 |some (.struct fs)=>(match Ih cf.P fs,(zeroOf cf.P t).bind tg,rA s ps with
  |some pl,some (.v true cs),some l=>(match sy (fun i=>pl[i]?) (AR l) cs with|some cs'=>K (.v true cs') s|none=>.bad 77 s)
  |_,_,_=>.bad 78 s)
 |_=>.bad 79 s
theorem Qh {t:TypeId}{ps:Array (Nat×Operand)}{K:SV->SS->R}(ho:(ae ops i).op=.build t ps)(hg:(ae ops i).guard=none)(hP:cf.P=c.P)(h:(WS cf t ps.toList s K).Ok)(hk:Ok c T G Γ ρ s):Lo c T G Γ ops i s ρ K:=by
 unfold WS at h;rw[hP]at h;split at h
 ·rename_i fs hu;split at h
  ·rename_i pl cs l hpl hz hl;cases hf:sy (fun i=>pl[i]?) (AR l) cs with
   |none=>rw[hf]at h;cases h
   |some cs' =>
    rw[hf]at h;cases hzz:zeroOf c.P t with
    |none=>rw[hzz]at hz;cases hz
    |some zz =>
     rw[hzz]at hz;have hz:tg zz=some (.v true cs):=hz;have e1:=kD hz ρ;obtain⟨p1,p2⟩:=n6 hk.q hl;refine Lo.here hk h (ba.P6 hg ho hzz hu hpl p1 ?_);have e2:zz.cells=aD ρ cs:=by rw[<-e1];rfl
     rw[e2];exact qD hf p2
  ·cases h
 ·cases h
def WT (x:SV)(s:SS)(K:SV->SS->R):R:=match x with
 |.v false [.bool b]=>K (sc (.bool b.not)) s
 |_=>.bad 80 s
theorem Qi {t:TypeId}{x:Operand}{v:SV}{K:SV->SS->R}(ho:(ae ops i).op=.unOp .not t x)(hg:(ae ops i).guard=none)(h:(WT v s K).Ok)(hk:Ok c T G Γ ρ s)(hx:a9 c.nt T x (v.den ρ)):Lo c T G Γ ops i s ρ K:=by
 unfold WT at h;split at h
 ·rename_i b;refine Lo.here hk h ?_;show ba _ _ _ _ _ _ _ _ _ (.bool (b.not.ev ρ));rw[BE.Cp];exact ba.WJ hg ho hx
 ·cases h
def WV (cf:Cf)(t t':TypeId)(x:SV)(s:SS)(K:SV->SS->R):R:=match cf.P.underlying t,cf.P.underlying t',x with
 |some (.int ks),some (.int kt),.v false [.int k e]=>bif di k ks then KS s kt (some e) K else .bad 81 s
 |_,_,_=>.bad 82 s
theorem Qj {t t':TypeId}{x:Operand}{v:SV}{K:SV->SS->R}(ho:(ae ops i).op=.convert t t' x)(hg:(ae ops i).guard=none)(hP:cf.P=c.P)(h:(WV cf t t' v s K).Ok)(hk:Ok c T G Γ ρ s)(hx:a9 c.nt T x (v.den ρ)):Lo c T G Γ ops i s ρ K:=by
 unfold WV at h;rw[hP]at h;split at h
 ·rename_i ks kt k e hu hu';cases hb:di k ks with
  |false=>rw[hb]at h;cases h
  |true =>
   rw[hb]at h;have:k=ks:=of_decide_eq_true hb;subst this;simp only[cond_true]at h;exact H8 h hk (fun e' he=>by cases he;rfl) (ba.M5 hg ho hu hu' hx)
 ·cases h
def AS:SC->Option LE
 |.str y=>some (.a (.sl y))
 |.my l _=>some (.k l)
 |_=>none
theorem AW {x:SC}{e:LE}(h:AS x=some e)(ρ:bm):∃l m:Nat,x.den ρ=.str l m/\e.ev ρ=l:=by
 cases x<;>first|(cases h;done)|skip
 ·cases h;exact⟨_,_,rfl,by rw[LE.aV];rfl⟩
 ·cases h;exact⟨_,_,rfl,by rw[LE.bk]⟩
def WW (cf:Cf)(t:TypeId)(x y:SV)(s:SS)(K:SV->SS->R):R:=match cf.P.underlying t,x,y with
 |some .string,.v false [x],.v false [.int kd e]=>(match AS x with
  |some l=>bif aX s e&&aX s ((l.sub e).aO (-1))then fresh s fun z s=>K (sc (.int .u8 (.a (.n z)))) s else .bad 83 s
  |none=>.bad 84 s)
 |_,_,_=>.bad 85 s
theorem Qk {t:TypeId}{x y:Operand}{v u:SV}{K:SV->SS->R}(ho:(ae ops i).op=.index t x y)(hg:(ae ops i).guard=none)(hP:cf.P=c.P)(h:(WW cf t v u s K).Ok)(hk:Ok c T G Γ ρ s)(hx:a9 c.nt T x (v.den ρ))(hy:a9 c.nt T y (u.den ρ)):Lo c T G Γ ops i s ρ K:=by
 unfold WW at h;rw[hP]at h;split at h
 ·rename_i x' kd e hu;cases hl:AS x' with
  |none=>rw[hl]at h;cases h
  |some le =>
   rw[hl]at h;simp only at h;obtain⟨l,m,e1,e2⟩:=AW hl ρ;cases hb:(aX s e&&aX s ((le.sub e).aO (-1)))with
   |false=>rw[hb]at h;cases h
   |true =>
    rw[hb]at h;simp only[cond_true]at h;rw[za]at hb;have k1:=av hb.1 hk.sat;have k2:=av hb.2 hk.sat;rw[LE.aE,LE.au,e2]at k2;have hx:a9 c.nt T x (.str l m):=by rw[<-e1];exact hx
    have hy:a9 c.nt T y (.int kd (.ofNat (e.ev ρ).toNat)):=by
     have:(SV.v false [.int kd e]).den ρ=.int kd (.ofNat (e.ev ρ).toNat):=by show AV.int kd (e.ev ρ)=_;congr 1;exact (zbm k1).symm
     rw[<-this];exact hy
    have hlv:=ba.HL hg ho hu hx hy (by omega) (P:=c.P) (n0:=c.n0) (hp:=.e) (nx:=z 0) (G:=G);obtain⟨h1,h2,h3,h4⟩:=az h hk (.n (Nat.mod (Nat.div m (kO (Nat.sub l ((e.ev ρ).toNat+1)))) 256));refine Lo.fr h3 h1 ?_
    have:(sc (.int .u8 (.a (.n s.nx)))).den (ρ.up s.nx (.n (Nat.mod (Nat.div m (kO (Nat.sub l ((e.ev ρ).toNat+1)))) 256)))=.int .u8 (.ofNat (Nat.mod (Nat.div m (kO (Nat.sub l ((e.ev ρ).toNat+1)))) 256)):=by
     show AV.int .u8 ((LE.a (.n s.nx)).ev _)=_;rw[LE.aV];show AV.int .u8 ((ρ.up s.nx _ s.nx).nn:Int)=_;rw[h4];rfl
    rw[this];exact hlv
 ·cases h
def WX (cf:Cf)(t:TypeId)(x y:SV)(s:SS)(K:SV->SS->R):R:=match cf.P.underlying t,x,y with
 |some .string,.v false [x],.v false [.int kd e]=>(match AS x with
  |some l=>bif aX s e&&(aX s (l.sub e)&&(e.lt s.nx&&aX s ((LE.k kC).sub e)))then fresh s fun z s=>K (sc (.str z)) (aF (aF s ((LE.a (.sl z)).sub e)) (e.sub (.a (.sl z))))else .bad 86 s
  |none=>.bad 87 s)
 |some (.slice el),.v false [.ref q],.v false [.int kd e]=>(match oJ s.ty q with
  |some (cc,g)=>bif cf.Φ.fV cc&&(Nat.beq el (cf.Φ.ty cc)&&((cf.P.info? el).isSome&&(aX s e&&(aX s ((LE.a (.len q)).sub e)&&(aX s ((LE.a (.len q)).aO (-1))&&(e.lt s.nx&&bG s.nx g))))))then
   fresh s fun z s=>K (sc (.ref z)) (aF (aF (bL s (.sl z cc g)) ((LE.a (.len z)).sub e)) (e.sub (.a (.len z))))else .bad 88 s
  |none=>.bad 89 s)
 |_,_,_=>.bad 90 s
theorem yf {v:AV}{cc g:Nat}{ns:List Nat}(h:fF c.P c.Φ G Γ (.sl v cc g ns))(hu:c.Φ.fV cc=true):ns.length<=ma/\((v=.ab/\ns=[])∨∃b cap L size C,v=.dx b 0 ns.length cap/\Γ.m b=some (.cells cc g L)/\ns=L.take ns.length/\G b=some (.cells .data (c.Φ.ty cc) size C)/\cap*af c.P (c.Φ.ty cc)<=size/\ns.length<=cap):=by
 obtain⟨hl,h⟩:=h;refine⟨hl,?_⟩;rcases h with h|⟨_,h⟩|h
 ·exact .inl h
 ·cases h with
  |nil=>exact .inl ⟨rfl,rfl⟩
  |emp hu'=>rw[hu]at hu';cases hu'
  |aY _ hu' _ _=>rw[hu]at hu';cases hu'
 ·exact .inr h
theorem Ql {t:TypeId}{x:Operand}{y:Nat}{v u:SV}{K:SV->SS->R}(ho:(ae ops i).op=.slice t x none (some (.tmp y)) none)(hg:(ae ops i).guard=none)(hP:cf.P=c.P)(hΦ:cf.Φ=c.Φ)(h:(WX cf t v u s K).Ok)(hk:Ok c T G Γ ρ s)(hx:a9 c.nt T x (v.den ρ))(hy:T.at y=u.den ρ):Lo c T G Γ ops i s ρ K:=by
 unfold WX at h;rw[hP,hΦ]at h;split at h
 ·rename_i x' kd e hu;cases hl:AS x' with
  |none=>rw[hl]at h;cases h
  |some le =>
   rw[hl]at h;simp only at h;obtain⟨l,m,e1,e2⟩:=AW hl ρ;cases hb:(aX s e&&(aX s (le.sub e)&&(e.lt s.nx&&aX s ((LE.k kC).sub e))))with
   |false=>rw[hb]at h;cases h
   |true =>
    rw[hb]at h;simp only[cond_true]at h;simp only[za]at hb;obtain⟨b1,b2,b3,b4⟩:=hb;have k1:=av b1 hk.sat;have k2:=av b2 hk.sat;have k3:=av b4 hk.sat;rw[LE.au,e2]at k2;rw[LE.au,LE.bk]at k3;have hlim:(e.ev ρ).toNat<=kC:=by omega
    have hx:a9 c.nt T x (.str l m):=by rw[<-e1];exact hx
    have hy:T.at y=.int kd (.ofNat (e.ev ρ).toNat):=hy.trans (by show AV.int kd (e.ev ρ)=_;congr 1;exact (zbm k1).symm);have hlv:=ba.To hg ho hu hx hy (by omega) (P:=c.P) (n0:=c.n0) (nt:=c.nt) (hp:=.e) (nx:=z 0) (G:=G);obtain⟨h1,h2,h3,h4⟩:=az h hk (.s (e.ev ρ).toNat (Nat.div m (kO (Nat.sub l (e.ev ρ).toNat))))
    have hsl:(LE.a (.sl s.nx)).ev (ρ.up s.nx (.s (e.ev ρ).toNat (Nat.div m (kO (Nat.sub l (e.ev ρ).toNat)))))=e.ev ρ:=by
     rw[LE.aV];show ((ρ.up s.nx _ s.nx).sl:Int)=_;rw[h4,U.oF hlim];exact zbm k1
    refine fO.mk h2 (zan _) ((h3.aF ?_).aF ?_) ⟨_,h1,?_⟩
    ·rw[LE.au,hsl,LE.cg h2 b3];omega
    ·rw[LE.au,hsl,LE.cg h2 b3];omega
    ·show ba _ _ _ _ _ _ _ _ _ (.str (ρ.up s.nx _ s.nx).sl (ρ.up s.nx _ s.nx).sm);rw[h4,U.oF hlim];exact hlv
 ·rename_i el q kd e hu;cases hf:oJ s.ty q with
  |none=>rw[hf]at h;cases h
  |some p =>
   obtain⟨cc,g⟩:=p;rw[hf]at h;simp only at h;cases hb:(c.Φ.fV cc&&(Nat.beq el (c.Φ.ty cc)&&((c.P.info? el).isSome&&(aX s e&&(aX s ((LE.a (.len q)).sub e)&&(aX s ((LE.a (.len q)).aO (-1))&&(e.lt s.nx&&bG s.nx g)))))))with
   |false=>rw[hb]at h;cases h
   |true =>
    rw[hb]at h;simp only[cond_true]at h;simp only[za]at hb;obtain⟨b0,b1,b2,b3,b4,b5,b6,b7⟩:=hb;have b1:=aj b1;subst b1;have k1:=av b3 hk.sat;have k2:=av b4 hk.sat;have k3:=av b5 hk.sat;rw[LE.au,LE.aV]at k2;rw[LE.aE,LE.aV]at k3;have k2:0<=((ρ q).ns.length:Int)-e.ev ρ:=k2;have k3:0<=((ρ q).ns.length:Int)+-1:=k3;have ht:=hk.ty (gI hf);obtain⟨hlim,ht⟩:=yf ht b0;rcases ht with ⟨_,h0⟩|⟨b,cap,L,size,C,q1,q2,q3,q4,q5,q6⟩
    ·rw[h0]at k3;simp at k3
    ·have hx:a9 c.nt T x (.dx b 0 (ρ q).ns.length cap):=by have hx:a9 c.nt T x (ρ q).vv:=hx;rw[q1]at hx;exact hx
     have hy:T.at y=.int kd (.ofNat (e.ev ρ).toNat):=hy.trans (by show AV.int kd (e.ev ρ)=_;congr 1;exact (zbm k1).symm);have hlv:=ba.Wz hg ho hu b2 hx hy (by omega) (P:=c.P) (n0:=c.n0) (nt:=c.nt) (hp:=.e) (nx:=z 0) (G:=G);have hLL:=jK q3;have hlen:(L.take (e.ev ρ).toNat).length=(e.ev ρ).toNat:=by rw[zag];omega
     obtain⟨h1,h2,h3,h4⟩:=az h hk (.v (.dx b 0 (e.ev ρ).toNat cap) (L.take (e.ev ρ).toNat));have e1:(ρ.up s.nx (.v (.dx b 0 (e.ev ρ).toNat cap) (L.take (e.ev ρ).toNat)) s.nx).vv=.dx b 0 (e.ev ρ).toNat cap:=by rw[h4];rfl
     have e2:(ρ.up s.nx (.v (.dx b 0 (e.ev ρ).toNat cap) (L.take (e.ev ρ).toNat)) s.nx).ns=L.take (e.ev ρ).toNat:=by rw[h4];exact U.lr (by rw[hlen];omega)
     have hl2:(LE.a (.len s.nx)).ev (ρ.up s.nx (.v (.dx b 0 (e.ev ρ).toNat cap) (L.take (e.ev ρ).toNat)))=e.ev ρ:=by
      rw[LE.aV];show ((ρ.up s.nx _ s.nx).ns.length:Int)=_;rw[e2,hlen];exact zbm k1
     refine fO.mk h2 (zan _) (((h3.bL (f:=.sl s.nx cc g) ?_).aF ?_).aF ?_) ⟨_,h1,?_⟩
     ·show fF c.P c.Φ G Γ (.sl _ cc (ig _ g) _);rw[e1,e2,bR h2 b7];exact⟨by rw[hlen];omega,.inr (.inr ⟨b,cap,L,size,C,by rw[hlen],q2,by rw[hlen],q4,q5,by rw[hlen];omega⟩)⟩
     ·rw[LE.au,hl2,LE.cg h2 b6];omega
     ·rw[LE.au,hl2,LE.cg h2 b6];omega
     ·show ba _ _ _ _ _ _ _ _ _ (ρ.up s.nx _ s.nx).vv;rw[e1];exact hlv
 ·cases h
end
end Go.Rd
namespace Go.Rd
open Go.aK Go.RowKit Go.Rt
theorem wI {k v:AV}:∀{es:List (AV×AV)},cn k es=some v->∃p∈es,p.2=v/\aZ k p.1=true
 | [],h=>by cases h
 |p::es,h=>by
  have h:(bif aZ k p.1 then some p.2 else cn k es)=some v:=h;cases hq:aZ k p.1 with
  |true=>rw[hq]at h;exact⟨p,zac ..,Option.some.inj h,hq⟩
  |false =>
   rw[hq]at h;obtain⟨q,h1,h2⟩:=wI h;exact⟨q,zaa _ h1,h2⟩
def ZK:KK->KK->Bool
 |.str,.str=>true|.pair,.pair=>true|.int,.int=>true|.fy,.fy=>true|.kz,.kz=>true|.yJ,.yJ=>true|_,_=>false
theorem Qm {a b:KK}(h:ZK a b=true):a=b:=by cases a<;>cases b<;>first|rfl|cases h
def gl (cf:Cf)(kt:TypeId)(pk:KK):Bool:=cf.keys.any fun p=>Nat.beq p.1 kt&&ZK p.2 pk
def dJ (cf:Cf):Prop:=∀p∈cf.keys,lj cf.P p.1 p.2
theorem gm {cf:Cf}{kt:TypeId}{pk:KK}(h:gl cf kt pk=true)(hk:dJ cf):lj cf.P kt pk:=by
 obtain⟨p,h1,h2⟩:=List.any_eq_true.1 h;rw[za]at h2;have:=zab h2.1;subst this;have:=Qm h2.2;subst this;exact hk p h1
def eC (pk:KK)(x:SV):Bool:=match pk,x with
 |.str,.v false [x]=>(jO x).isSome
 |.kz,.v false [x]=>(jO x).isSome
 |.pair,.v true [x,y]=>(jO x).isSome&&(jO y).isSome
 |.int,.v false [.int k _]=>fK k
 |.fy,.v true [.int k _,.int k' _]=>fK k&&fK k'
 |.yJ,.v true [x,.int k _,.bool _]=>(jO x).isSome&&fK k
 |_,_=>false
theorem ew {pk:KK}{x:SV}(h:eC pk x=true)(ρ:bm):de pk (x.den ρ):=by
 unfold eC at h;split at h
 ·rename_i x;obtain⟨q,hq⟩:=Option.isSome_iff_exists.1 h;obtain⟨l,m,e,_⟩:=fE hq ρ;exact⟨l,m,e⟩
 ·rename_i x;obtain⟨q,hq⟩:=Option.isSome_iff_exists.1 h;obtain⟨l,m,e,_⟩:=fE hq ρ;exact⟨l,m,e,ly h e⟩
 ·rename_i x y;rw[za]at h;obtain⟨q,hq⟩:=Option.isSome_iff_exists.1 h.1;obtain⟨q',hq'⟩:=Option.isSome_iff_exists.1 h.2;obtain⟨l,m,e,_⟩:=fE hq ρ;obtain⟨l',m',e',_⟩:=fE hq' ρ;exact⟨l,m,l',m',by show AV.agg [x.den ρ,y.den ρ]=_;rw[e,e']⟩
 ·rename_i k e;have:=eu h;subst this;exact⟨_,rfl⟩
 ·rename_i k e k' e';rw[za]at h;have:=eu h.1;have:=eu h.2
  subst_vars
  exact⟨_,_,rfl⟩
 ·rename_i x k e b;rw[za]at h;obtain⟨q,hq⟩:=Option.isSome_iff_exists.1 h.1;obtain⟨l,m,e0,_⟩:=fE hq ρ;have:=eu h.2;subst this;exact⟨l,m,_,_,by show AV.agg [x.den ρ,.int .i64 _,.bool _]=_;rw[e0]⟩
 ·cases h
def yg:List (Nat×SC×LE)->Nat->SC->Option LE
 | [],_,_=>none
 |p::l,d,x=>bif Nat.beq p.1 d&&p.2.1.same x then some p.2.2 else yg l d x
theorem qE:∀{l:List (Nat×SC×LE)}{d:Nat}{x:SC}{e:LE},yg l d x=some e->∃x',(d,x',e)∈l/\∀ρ,x'.den ρ=x.den ρ
 | [],d,x,e,h=>by cases h
 |p::l,d,x,e,h=>by
  have h:(bif Nat.beq p.1 d&&p.2.1.same x then some p.2.2 else yg l d x)=some e:=h;cases hb:(Nat.beq p.1 d&&p.2.1.same x)with
  |true =>
   rw[hb]at h;cases h;rw[za]at hb;have:=zab hb.1;subst this;exact⟨p.2.1,zac ..,SC.bc hb.2⟩
  |false=>rw[hb]at h;obtain⟨x',h1,h2⟩:=qE h;exact⟨x',zaa _ h1,h2⟩
def qF (ok:Bool)(x:Bool×List SC):SV:=bif ok then .cN [x,(false,[.bool (.k true)])]else .v x.1 x.2
def jP (ok:Bool)(x:Bool×List SC):SV:=bif ok then .cN [x,(false,[.bool (.k false)])]else .v x.1 x.2
def V4 (cf:Cf)(g b:Nat)(k:SV)(ok:Bool)(zr:Bool×List SC)(s:SS)(K:SV->SS->R):R:=match k,ghost s.gs g with
 |.v false [x],some d=>(match yg s.ats d x with
  |some e=>bif aX s e then K (qF ok (false,[.int .i64 e])) (aF s (((LE.a (.gn d b)).sub e).aO (-1)))else bif aX s ((LE.k (-1)).sub e)then K (jP ok zr) s else .bad 88 s
  |none=>bif x.lt s.nx&&Nat.blt d s.nx then (K (jP ok zr) (mq s (d,x,.k (-1)))).and (fresh s fun n s=>K (qF ok (false,[.int .i64 (.a (.n n))])) (mq (aF s (((LE.a (.gn d b)).sub (.a (.n n))).aO (-1))) (d,x,.a (.n n))))else .bad 92 s)
 |_,_=>.bad 93 s
def TH (cf:Cf)(g:Nat)(mv:MV)(k:SV)(ok:Bool)(zr:Bool×List SC)(s:SS)(K:SV->SS->R):R:=match mv with
 |.kd kd=>bif bG s.nx g&&AM s.nx (ghost s.gs g)then (K (jP ok zr) s).and (pI cf g (ghost s.gs g) (.k 0) kd s fun x _ s=>K (qF ok (false,[x])) s)else .bad 91 s
 |.kn _ kd=>bif bG s.nx g&&AM s.nx (ghost s.gs g)then (K (jP ok zr) s).and (pI cf g (ghost s.gs g) (.k 0) kd s fun x _ s=>K (qF ok (false,[x])) s)else .bad 91 s
 |.unit=>(K (jP ok zr) s).and (K (qF ok (true,[])) s)
 |.FM b=>V4 cf g b k ok zr s K
 |.DD=>(match k,ghost s.gs g with
  |.v true [x,_],some d=>bif x.lt s.nx&&Nat.blt d s.nx then (K (jP ok zr) s).and (fresh s fun j s=>fresh s fun f s=>fresh s fun n s=>K (qF ok (false,[.int .i64 (.a (.n n))])) (wC (mq (aF s (((LE.a (.n f)).sub (.a (.n n))).aO (-1))) (d,x,.a (.n j))) (d,.a (.n j),.a (.n f))))else .bad 92 s
  |_,_=>.bad 93 s)
def V5 (cf:Cf)(t:TypeId)(m k:SV)(ok:Bool)(s:SS)(K:SV->SS->R):R:=match cf.P.underlying t with
 |some (.map kt et)=>(match (zeroOf cf.P et).bind tg with
  |some (.v ag cs)=>(match m with
   |.v false [.bg]=>bif gl cf kt .str&&eC .str k||(gl cf kt .pair&&eC .pair k||(gl cf kt .int&&eC .int k||gl cf kt .fy&&eC .fy k))then K (jP ok (ag,cs)) s else .bad 94 s
   |.v false [.ref y]=>(match wE s.ty y with
    |some (cc,g)=>bif gl cf kt (cf.Φ.pk cc)&&eC (cf.Φ.pk cc) k then TH cf g (cf.Φ.mv cc) k ok (ag,cs) s K else .bad 95 s
    |none=>.bad 96 s)
   |_=>.bad 97 s)
  |_=>.bad 98 s)
 |_=>.bad 99 s
section
variable {c:Cx}{T:Tm}{G:GH}{Γ:dI}{ρ ρ':bm}{s s':SS}{cf:Cf}{ops:Array Oper}{i:Nat}
theorem ba.FR {P:Program}{n0 nt:Nat}{hp:Tr AO}{nx:Pz}{t kt et:TypeId}{ym yk:Operand}{ok:Bool}{pk:KK}{z k:AV}(hg:(ae ops i).guard=none)(ho:(ae ops i).op=.lookup t ym yk ok)(hu:P.underlying t=some (.map kt et))(hz:zeroOf P et=some z)(hM:lj P kt pk)
  (hm:a9 nt T ym .bg) (hk:a9 nt T yk k) (hkf:de pk k):ba P ops n0 nt i T hp nx G (if ok then .cN [z,.bool false]else z):=by
 refine bQ hg fun B w0 ι a w hs=>?_;have hval:=(hs.1.2 ι (ao.refl _ _)).1;obtain⟨dd,hd⟩:=hM.KD;obtain⟨_,zv,_,_,_,hzero⟩:=cG hz;simp only[execOp,ho,Sem.run_bind];rw[hm ι a hval,hk ι a hval]
 have hfind:(Instr.findKey kt (ak ι k) (#[]:Array MapEntry).toList).run P w=.ok none w:=by
  simp[Instr.findKey,ay hd,Instr.findNow]
 simp only[ak,Instr.lookup,Sem.run_bind,ay hu,Result.andThen_ok,Sem.run_pure,hM.Ay k hkf,hfind,hzero ι];cases ok<;>simp[ak,aq]
theorem iQ (ok:Bool)(x:Bool×List SC)(ρ:bm):(qF ok x).den ρ=(if ok then .cN [cj ρ x,.bool true]else cj ρ x):=by cases ok<;>rfl
theorem iX (ok:Bool)(x:Bool×List SC)(ρ:bm):(jP ok x).den ρ=(if ok then .cN [cj ρ x,.bool false]else cj ρ x):=by cases ok<;>rfl
theorem Ii {g b:Nat}{k:SV}{ok:Bool}{zr:Bool×List SC}{K:SV->SS->R}{es:List (AV×AV)}{z:AV}(h:(V4 cf g b k ok zr s K).Ok)(hk:Ok c T G Γ ρ s)(hz:∀ρ,cj ρ zr=z)(hks:eC .str k=true)(hat:∀l n,cn (.str l n) es=((Γ.gd (ig ρ g)).at_ l n).map fun j=>.int .i64 (.ofNat j))(hb:∀l n j,(Γ.gd (ig ρ g)).at_ l n=some j->j<(Γ.gd (ig ρ g)).n b)
  (hl:ba c.P ops c.n0 c.nt i T .e (aK.z 0) G (match cn (k.den ρ) es with|some v=>(if ok then .cN [v,.bool true]else v)|none=>(if ok then .cN [z,.bool false]else z))):Lo c T G Γ ops i s ρ K:=by
 have miss:(K (jP ok zr) s).Ok->cn (k.den ρ) es=none->Lo c T G Γ ops i s ρ K:=fun h hf=>by
  rw[hf]at hl;exact Lo.here hk h (by rw[iX,hz];exact hl)
 unfold V4 at h;split at h
 ·rename_i x d hgd;have hdd:=bz hgd hk;rw[hdd]at hat hb;obtain⟨l,m,ek⟩:=ew hks ρ;have ek':x.den ρ=.str l m:=ek;rw[ek,hat]at hl;cases ha:yg s.ats d x with
  |some e =>
   rw[ha]at h;simp only at h;obtain⟨x',m1,m2⟩:=qE ha;cases he:aX s e with
   |true =>
    rw[he]at h;have hpos:=av he hk.sat;rcases hk.sat.ats _ m1 with ⟨q1,q2⟩|⟨q1,_⟩
    ·have q2:Bu (ρ d).gg (x'.den ρ)=some (e.ev ρ).toNat:=q2;have q1:0<=e.ev ρ:=q1;rw[m2 ρ,ek']at q2;have q2:(ρ d).gg.at_ l m=some (e.ev ρ).toNat:=q2;rw[q2]at hl;have hlt:=hb l m _ q2;refine Lo.to (s':=aF s (((LE.a (.gn d b)).sub e).aO (-1))) rfl (Lo.here (hk.aF ?_) h ?_)
     ·rw[LE.aE,LE.au,LE.aV];show 0<=(((ρ d).gg.n b:Nat):Int)-e.ev ρ+-1;omega
     rw[iQ];have e1:cj ρ (false,[SC.int .i64 e])=.int .i64 (.ofNat (e.ev ρ).toNat):=by show AV.int .i64 (e.ev ρ)=_;congr 1;exact (zbm q1).symm
     rw[e1];exact hl
    ·have q1:e.ev ρ<0:=q1;omega
   |false =>
    rw[he]at h;simp only[cond_false]at h;cases he2:aX s ((LE.k (-1)).sub e)with
    |false=>rw[he2]at h;cases h
    |true =>
     rw[he2]at h;have hneg:=av he2 hk.sat;rw[LE.au,LE.bk]at hneg;rcases hk.sat.ats _ m1 with ⟨q1,_⟩|⟨_,q2⟩
     ·have q1:0<=e.ev ρ:=q1;omega
     ·have q2:Bu (ρ d).gg (x'.den ρ)=none:=q2;rw[m2 ρ,ek']at q2;have q2:(ρ d).gg.at_ l m=none:=q2;exact miss h (by rw[ek,hat,q2];rfl)
  |none =>
   rw[ha]at h;simp only at h;cases hbb:(x.lt s.nx&&Nat.blt d s.nx)with
   |false=>rw[hbb]at h;cases h
   |true =>
    rw[hbb]at h;simp only[cond_true]at h;rw[za]at hbb;obtain⟨h1,h2⟩:=R.eW h;cases hj:(ρ d).gg.at_ l m with
    |none =>
     rw[hj]at hl;refine Lo.to (s':=mq s (d,x,.k (-1))) rfl (Lo.here (hk.mq (p:=(d,x,.k (-1))) (.inr ⟨by rw[LE.bk];decide,?_⟩)) h1 (by rw[iX,hz];exact hl));show Bu (ρ d).gg (x.den ρ)=none;rw[ek'];exact hj
    |some j =>
     rw[hj]at hl;obtain⟨k1,k2,k3,k4⟩:=az h2 hk (.n j);have hev:(LE.a (.n s.nx)).ev (ρ.up s.nx (.n j))=j:=by rw[LE.aV];show ((ρ.up s.nx (.n j) s.nx).nn:Int)=j;rw[k4];rfl
     have hd2:=k2 d (ax hbb.2);refine fO.mk k2 (zan _) ((k3.aF ?_).mq ?_) ⟨_,k1,?_⟩
     ·rw[LE.aE,LE.au,hev,LE.aV];show 0<=(((ρ.up s.nx (.n j) d).gg.n b:Nat):Int)-j+-1;rw[hd2];have:=hb l m j hj;omega
     ·refine .inl ?_;show 0<=(LE.a (.n s.nx)).ev _/\Bu (ρ.up s.nx (.n j) d).gg (x.den (ρ.up s.nx (.n j)))=some ((LE.a (.n s.nx)).ev _).toNat;rw[hev,hd2,SC.cg k2 hbb.1,ek'];exact⟨zdj _,hj⟩
     ·rw[iQ];have e1:cj (ρ.up s.nx (.n j)) (false,[SC.int .i64 (.a (.n s.nx))])=.int .i64 (.ofNat j):=by show AV.int .i64 ((LE.a (.n s.nx)).ev _)=_;rw[hev];rfl
      rw[e1];exact hl
 ·cases h
theorem CI {g:Nat}{cc:Nat}{k:SV}{ok:Bool}{zr:Bool×List SC}{K:SV->SS->R}{es:List (AV×AV)}{z:AV}(hΦ:cf.Φ=c.Φ)(h:(TH cf g (c.Φ.mv cc) k ok zr s K).Ok)(hk:Ok c T G Γ ρ s)(hz:∀ρ,cj ρ zr=z)(hks:eC (c.Φ.pk cc) k=true)(hM:dA c.P c.Φ G Γ cc (ig ρ g) es)
  (hl:ba c.P ops c.n0 c.nt i T .e (aK.z 0) G (match cn (k.den ρ) es with|some v=>(if ok then .cN [v,.bool true]else v)|none=>(if ok then .cN [z,.bool false]else z))):Lo c T G Γ ops i s ρ K:=by
 obtain⟨hkeys,hM⟩:=hM
 have miss:(K (jP ok zr) s).Ok->cn (k.den ρ) es=none->Lo c T G Γ ops i s ρ K:=fun h hf=>by
  rw[hf]at hl;exact Lo.here hk h (by rw[iX,hz];exact hl)
 unfold TH at h;cases hmv:c.Φ.mv cc with
 |kd kd =>
  rw[hmv]at h hM;simp only at h hM;cases hb:(bG s.nx g&&AM s.nx (ghost s.gs g))with
  |false=>rw[hb]at h;cases h
  |true =>
   rw[hb]at h;simp only[cond_true]at h;rw[za]at hb;obtain⟨h1,h2⟩:=R.eW h;cases hf:cn (k.den ρ) es with
   |none=>exact miss h1 hf
   |some v =>
    rw[hf]at hl;obtain⟨p,m1,rfl⟩:=iH hf;obtain⟨fs,kv,kf⟩:=hM p m1;refine (pB h2 hΦ hk hb.1 (J:=0) (fun dv hd=>?_) ⟨rfl,by rw[LE.bk];exact zby _,by rw[LE.bk];rfl⟩ kv kf).mono fun ρ' s' a1 n1 o1 hh=>?_
    ·have:=hb.2;rw[hd]at this;exact⟨ax this,bz hd hk⟩
    ·obtain⟨x,o,g1,g2,_⟩:=hh;refine⟨_,g1,?_⟩;rw[iQ];show ba _ _ _ _ _ _ _ _ _ (if ok then .cN [x.den ρ',.bool true]else x.den ρ');rw[g2];exact hl
 |kn bd kd =>
  rw[hmv]at h hM;simp only at h hM;have hM:=hM.2;cases hb:(bG s.nx g&&AM s.nx (ghost s.gs g))with
  |false=>rw[hb]at h;cases h
  |true =>
   rw[hb]at h;simp only[cond_true]at h;rw[za]at hb;obtain⟨h1,h2⟩:=R.eW h;cases hf:cn (k.den ρ) es with
   |none=>exact miss h1 hf
   |some v =>
    rw[hf]at hl;obtain⟨p,m1,rfl⟩:=iH hf;obtain⟨fs,kv,kf⟩:=hM p m1;refine (pB h2 hΦ hk hb.1 (J:=0) (fun dv hd=>?_) ⟨rfl,by rw[LE.bk];exact zby _,by rw[LE.bk];rfl⟩ kv kf).mono fun ρ' s' a1 n1 o1 hh=>?_
    ·have:=hb.2;rw[hd]at this;exact⟨ax this,bz hd hk⟩
    ·obtain⟨x,o,g1,g2,_⟩:=hh;refine⟨_,g1,?_⟩;rw[iQ];show ba _ _ _ _ _ _ _ _ _ (if ok then .cN [x.den ρ',.bool true]else x.den ρ');rw[g2];exact hl
 |unit =>
  rw[hmv]at h hM;simp only at h hM;obtain⟨h1,h2⟩:=R.eW h;cases hf:cn (k.den ρ) es with
  |none=>exact miss h1 hf
  |some v =>
   rw[hf]at hl;obtain⟨p,m1,rfl⟩:=iH hf;rw[hM p m1]at hl;exact Lo.here hk h2 (by rw[iQ];exact hl)
 |FM b =>
  rw[hmv]at h hM;simp only at h hM;obtain⟨hpk,_,hat,hb⟩:=hM;rw[hpk]at hks;exact Ii h hk hz hks hat hb hl
 |DD =>
  rw[hmv]at h hM;simp only at h hM;obtain⟨hpk,_,hrs,hfi⟩:=hM;split at h
  ·rename_i x y d hgd;have hdd:=bz hgd hk;rw[hdd]at hrs hfi;rw[hpk]at hks;obtain⟨l,m,l2,m2,ek⟩:=ew hks ρ;have ek0:AV.agg [x.den ρ,y.den ρ]=.agg [.str l m,.str l2 m2]:=ek;have ek':x.den ρ=.str l m:=by injection ek0 with e;exact (List.cons.inj e).1
   cases hbb:(x.lt s.nx&&Nat.blt d s.nx)with
   |false=>rw[hbb]at h;cases h
   |true =>
    rw[hbb]at h;simp only[cond_true]at h;rw[za]at hbb;obtain⟨h1,h2⟩:=R.eW h;cases hf:cn (SV.den ρ (SV.v true [x,y])) es with
    |none=>exact miss h1 hf
    |some v =>
     rw[hf]at hl;obtain⟨p,m1,rfl,m3⟩:=wI hf;obtain⟨a,an,b,bn,q,j,e1,e2,e3,e4,e5⟩:=hfi p m1;rw[ek,e1]at m3;have m3:(aR l m a an&&aR l2 m2 b bn)=true:=m3;rw[za]at m3;have hat:(ρ d).gg.at_ l m=some j:=by rw[hrs l m a an m3.1];exact e4
     obtain⟨k1,k2,k3,k4⟩:=az h2 hk (.n j);obtain⟨r1,r2,r3,r4⟩:=az k1 k3 (.n ((ρ d).gg.fl j));obtain⟨t1,t2,t3,t4⟩:=az r1 r3 (.n q);have hd:=ax hbb.2;have A:dh s.nx ρ (((ρ.up s.nx (.n j)).up (s.nx+1) (.n ((ρ d).gg.fl j))).up (s.nx+2) (.n q)):=fun w hw=>by simp only[bm.up];rw[if_neg (by omega),if_neg (by omega),if_neg (by omega)]
     have v1:(LE.a (.n s.nx)).ev (((ρ.up s.nx (.n j)).up (s.nx+1) (.n ((ρ d).gg.fl j))).up (s.nx+2) (.n q))=j:=by rw[LE.aV];simp[At.ev,bm.up,U.nn]
     have v2:(LE.a (.n (s.nx+1))).ev (((ρ.up s.nx (.n j)).up (s.nx+1) (.n ((ρ d).gg.fl j))).up (s.nx+2) (.n q))=((ρ d).gg.fl j:Nat):=by rw[LE.aV];simp[At.ev,bm.up,U.nn]
     have v3:(LE.a (.n (s.nx+2))).ev (((ρ.up s.nx (.n j)).up (s.nx+1) (.n ((ρ d).gg.fl j))).up (s.nx+2) (.n q))=q:=by rw[LE.aV];simp[At.ev,bm.up,U.nn]
     refine fO.mk A (by show s.nx<=s.nx+1+1+1;omega) (((t3.aF (e:=((LE.a (.n (s.nx+1))).sub (.a (.n (s.nx+2)))).aO (-1)) ?_).mq (p:=(d,x,.a (.n s.nx))) ?_).wC (p:=(d,.a (.n s.nx),.a (.n (s.nx+1)))) ?_) ⟨_,t1,?_⟩
     ·refine Eq.subst (motive:=fun y=>0<=y) (LE.aE _ _ _).symm ?_;rw[LE.au];have v2':=v2;have v3':=v3;show 0<=(LE.a (.n (s.nx+1))).ev _-(LE.a (.n (s.nx+2))).ev _+-1;refine le_of_le_of_eq (b:=((ρ d).gg.fl j:Int)-q+-1) (by omega) ?_;congr 2
      ·exact v2.symm
      ·exact v3.symm
     ·refine .inl ?_;show 0<=(LE.a (.n s.nx)).ev _/\Bu _ _=some ((LE.a (.n s.nx)).ev _).toNat;refine⟨by show 0<=(LE.a (.n s.nx)).ev (((ρ.up s.nx (.n j)).up (s.nx+1) (.n ((ρ d).gg.fl j))).up (s.nx+2) (.n q));rw[v1];exact zdj _,?_⟩;show Bu ((((ρ.up s.nx (.n j)).up (s.nx+1) (.n ((ρ d).gg.fl j))).up (s.nx+2) (.n q)) d).gg (x.den (((ρ.up s.nx (.n j)).up (s.nx+1) (.n ((ρ d).gg.fl j))).up (s.nx+2) (.n q)))=some ((LE.a (.n s.nx)).ev (((ρ.up s.nx (.n j)).up (s.nx+1) (.n ((ρ d).gg.fl j))).up (s.nx+2) (.n q))).toNat;rw[v1,A d hd,SC.cg A hbb.1,ek'];exact hat
     ·show 0<=(LE.a (.n s.nx)).ev (((ρ.up s.nx (.n j)).up (s.nx+1) (.n ((ρ d).gg.fl j))).up (s.nx+2) (.n q))/\((((ρ.up s.nx (.n j)).up (s.nx+1) (.n ((ρ d).gg.fl j))).up (s.nx+2) (.n q)) d).gg.fz=true/\((((((ρ.up s.nx (.n j)).up (s.nx+1) (.n ((ρ d).gg.fl j))).up (s.nx+2) (.n q)) d).gg.fl ((LE.a (.n s.nx)).ev (((ρ.up s.nx (.n j)).up (s.nx+1) (.n ((ρ d).gg.fl j))).up (s.nx+2) (.n q))).toNat:Nat):Int)=(LE.a (.n (s.nx+1))).ev (((ρ.up s.nx (.n j)).up (s.nx+1) (.n ((ρ d).gg.fl j))).up (s.nx+2) (.n q));rw[v1,v2,A d hd];exact⟨zdj _,e3,rfl⟩
     ·rw[iQ];have ee:cj (((ρ.up s.nx (.n j)).up (s.nx+1) (.n ((ρ d).gg.fl j))).up (s.nx+2) (.n q)) (false,[SC.int .i64 (.a (.n (s.nx+2)))])=.int .i64 (.ofNat q):=by show AV.int .i64 ((LE.a (.n (s.nx+2))).ev _)=_;rw[v3];rfl
      rw[e2]at hl;show ba _ _ _ _ _ _ _ _ _ (if ok then .cN [cj (((ρ.up s.nx (.n j)).up (s.nx+1) (.n ((ρ d).gg.fl j))).up (s.nx+2) (.n q)) (false,[SC.int .i64 (.a (.n (s.nx+2)))]),.bool true]else cj (((ρ.up s.nx (.n j)).up (s.nx+1) (.n ((ρ d).gg.fl j))).up (s.nx+2) (.n q)) (false,[SC.int .i64 (.a (.n (s.nx+2)))]));rw[ee];exact hl
  ·cases h
theorem Ij {t:TypeId}{x y:Operand}{v u:SV}{ok:Bool}{K:SV->SS->R}(ho:(ae ops i).op=.lookup t x y ok)(hg:(ae ops i).guard=none)(hP:cf.P=c.P)(hΦ:cf.Φ=c.Φ)(hK:dJ cf)(h:(V5 cf t v u ok s K).Ok)(hk:Ok c T G Γ ρ s)(hx:a9 c.nt T x (v.den ρ))(hy:a9 c.nt T y (u.den ρ)):Lo c T G Γ ops i s ρ K:=by
 unfold V5 at h;rw[hP]at h;split at h
 ·rename_i kt et hu;split at h
  ·rename_i ag cs hz;cases hzz:zeroOf c.P et with
   |none=>rw[hzz]at hz;cases hz
   |some zz =>
    rw[hzz]at hz;have hz:tg zz=some (.v ag cs):=hz;have hz1:∀ρ,cj ρ (ag,cs)=zz:=fun ρ=>kD hz ρ;split at h
    ·have key:∀pk,gl cf kt pk=true->eC pk u=true->(K (jP ok (ag,cs)) s).Ok->Lo c T G Γ ops i s ρ K:=fun pk h1 h2 h=>by
       have hMt:=gm h1 hK;rw[hP]at hMt;exact Lo.here hk h (by rw[iX,hz1];exact ba.FR hg ho hu hzz hMt hx hy (ew h2 ρ))
     cases hb:(gl cf kt .str&&eC .str u||(gl cf kt .pair&&eC .pair u||(gl cf kt .int&&eC .int u||gl cf kt .fy&&eC .fy u)))with
     |false=>rw[hb]at h;cases h
     |true =>
      rw[hb]at h;simp only[zaq,za]at hb;rcases hb with ⟨h1,h2⟩|⟨h1,h2⟩|⟨h1,h2⟩|⟨h1,h2⟩
      ·exact key _ h1 h2 h
      ·exact key _ h1 h2 h
      ·exact key _ h1 h2 h
      ·exact key _ h1 h2 h
    ·rename_i q;cases hm:wE s.ty q with
     |none=>rw[hm]at h;cases h
     |some p =>
      obtain⟨cc,g⟩:=p;rw[hm]at h;simp only at h;rw[hΦ]at h;cases hb:(gl cf kt (c.Φ.pk cc)&&eC (c.Φ.pk cc) u)with
      |false=>rw[hb]at h;cases h
      |true =>
       rw[hb]at h;rw[za]at hb;have hMt:=gm hb.1 hK;rw[hP]at hMt;obtain⟨b,q1,q2⟩:=hk.ty (iP hm);obtain⟨_,es,r1,r2,r3⟩:=hk.q.ht.b _ _ q2;have hx:a9 c.nt T x (.cV b):=by have hx:a9 c.nt T x (ρ q).vv:=hx;rw[q1]at hx;exact hx
       exact CI hΦ h hk hz1 hb.2 r3 (ba.lookup hg ho hu hzz hMt hx hy (ew hb.2 ρ) r1 r3.1)
    ·cases h
  ·cases h
 ·cases h
end
end Go.Rd
namespace Go.Rd
open Go.aK Go.RowKit Go.Rt
def wv (s:SS)(x:Operand)(K:SV->R):R:=match JR s x with|some v=>K v|none=>.bad 10 s
def WY (cf:Cf)(o:Op)(s:SS)(K:SV->SS->R):R:=match o with
 |.move x=>wv s x fun v=>K v s
 |.assign x=>wv s x fun v=>K v s
 |.extract x k=>wv s x fun v=>WO v k s K
 |.field t x f=>wv s x fun v=>WQ cf t v f s K
 |.pick x a b=>wv s x fun v=>WR v (JR s a) (JR s b) s K
 |.build t ps=>WS cf t ps.toList s K
 |.unOp .not _ x=>wv s x fun v=>WT v s K
 |.binOp op t x y _=>wv s x fun v=>wv s y fun u=>WN cf op t v u s K
 |.fieldAddr t (.tmp x) f=>wv s (.tmp x) fun v=>TA cf t v f s K
 |.nilCheck (.tmp x)=>wv s (.tmp x) fun v=>TB v s K
 |.load t (.tmp x)=>wv s (.tmp x) fun v=>TE cf t v s K
 |.indexAddr t (.tmp x) y=>wv s (.tmp x) fun v=>wv s y fun u=>TC cf t v u s K
 |.lookup t x y ok=>wv s x fun v=>wv s y fun u=>V5 cf t v u ok s K
 |.index t x y=>wv s x fun v=>wv s y fun u=>WW cf t v u s K
 |.slice t x none (some (.tmp y)) none=>wv s x fun v=>wv s (.tmp y) fun u=>WX cf t v u s K
 |.convert t t' x=>wv s x fun v=>WV cf t t' v s K
 |.call cl=>(match cl.callee,cl.args.toList,cl.argTypes.toList with
  |.builtin .len,[x],t::_=>wv s x fun v=>TG cf t v s K
  |_,_,_=>.bad 12 s)
 |_=>.bad 11 s
section
variable {c:Cx}{T:Tm}{G:GH}{Γ:dI}{ρ ρ':bm}{s s':SS}{cf:Cf}{ops:Array Oper}{i:Nat}
theorem br {x:Operand}{K:SV->R}(h:(wv s x K).Ok)(hk:Ok c T G Γ ρ s):∃v,(K v).Ok/\JR s x=some v/\a9 c.nt T x (v.den ρ):=by
 unfold wv at h;cases hx:JR s x with
 |none=>rw[hx]at h;cases h
 |some v=>rw[hx]at h;exact⟨v,h,rfl,rp hx hk.q⟩
theorem Qn {K:SV->SS->R}(hg:(ae ops i).guard=none)(hP:cf.P=c.P)(hΦ:cf.Φ=c.Φ)(hK:dJ cf)(h:(WY cf (ae ops i).op s K).Ok)(hk:Ok c T G Γ ρ s):Lo c T G Γ ops i s ρ K:=by
 unfold WY at h;split at h
 ·rename_i x ho;obtain⟨v,h,_,e⟩:=br h hk;exact Lo.here hk h (ba.Tv hg (.inl ho) e)
 ·rename_i x ho;obtain⟨v,h,_,e⟩:=br h hk;exact Lo.here hk h (ba.Tv hg (.inr ho) e)
 ·rename_i ho;obtain⟨v,h,_,e⟩:=br h hk;exact Qe ho hg h hk e
 ·rename_i ho;obtain⟨v,h,_,e⟩:=br h hk;exact Qf ho hg hP h hk e
 ·rename_i ho;obtain⟨v,h,_,e⟩:=br h hk;exact Qg ho hg h hk e (fun u hu=>rp hu hk.q) (fun u hu=>rp hu hk.q)
 ·rename_i ho;exact Qh ho hg hP h hk
 ·rename_i ho;obtain⟨v,h,_,e⟩:=br h hk;exact Qi ho hg h hk e
 ·rename_i ho;obtain⟨v,h,_,e⟩:=br h hk;obtain⟨u,h,_,e'⟩:=br h hk;exact Qc ho hg hP h hk e e'
 ·rename_i ho;obtain⟨v,h,e0,e⟩:=br h hk;exact Cv ho hg hP h hk (gh e0 hk.q)
 ·rename_i ho;obtain⟨v,h,e0,e⟩:=br h hk;exact Cw ho hg h hk (gh e0 hk.q)
 ·rename_i ho;obtain⟨v,h,e0,e⟩:=br h hk;exact CD ho hg hP hΦ h hk (gh e0 hk.q)
 ·rename_i ho;obtain⟨v,h,e0,e⟩:=br h hk;obtain⟨u,h,_,e'⟩:=br h hk;exact Cz ho hg hP hΦ h hk (gh e0 hk.q) e'
 ·rename_i ho;obtain⟨v,h,_,e⟩:=br h hk;obtain⟨u,h,_,e'⟩:=br h hk;exact Ij ho hg hP hΦ hK h hk e e'
 ·rename_i ho;obtain⟨v,h,_,e⟩:=br h hk;obtain⟨u,h,_,e'⟩:=br h hk;exact Qk ho hg hP h hk e e'
 ·rename_i ho;obtain⟨v,h,_,e⟩:=br h hk;obtain⟨u,h,e0,e'⟩:=br h hk;exact Ql ho hg hP hΦ h hk e (gh e0 hk.q)
 ·rename_i ho;obtain⟨v,h,_,e⟩:=br h hk;exact Qj ho hg hP h hk e
 ·rename_i cl ho;split at h
  ·rename_i x t ats h1 h2 h3;obtain⟨v,h,_,e⟩:=br h hk;exact CG ho h1 h3 h2 hg hP h hk e
  ·cases h
 ·cases h
theorem Lo.map {ops':Array Oper}{K:SV->SS->R}(h:Lo c T G Γ ops' i s ρ K)(hh:∀v,ba c.P ops' c.n0 c.nt i T .e (z 0) G v->ba c.P ops c.n0 c.nt i T .e (z 0) G v):Lo c T G Γ ops i s ρ K :=
 fO.mono h fun ρ' s' a n o hx=>by obtain⟨v,h1,h2⟩:=hx;exact⟨v,h1,hh _ h2⟩
theorem wJ (ops:Array Oper)(i:Nat):(ae (xY ops) i).guard=none:=by rw[jM]
theorem Ik (ops:Array Oper)(i:Nat):(ae (xY ops) i).op=(ae ops i).op:=by rw[jM]
theorem DS (ops:Array Oper)(i:Nat):(ae (xY ops) i).dst=(ae ops i).dst:=by rw[jM]
end
end Go.Rd
namespace Go.aK
open Go.RowKit
section
variable {P:Program}
theorem rB {ts tx e:TypeId}{i:TypeInfo}{z:Value}{d:TypeDesc}(hT:Kc P ts tx e i z d){ty:TypeId}{w:World}{base:Option Addr}{len cap n:Nat}{x:Value}{old nw:List Value}
  (hx:(Builtin.lenOf x).run P w=.ok n w) (hf:(Builtin.firstCells (af P e) n x).run P w.drew=.ok nw.toArray w.drew)
  (ho:(Builtin.firstCells (af P e) len (.slice base len cap)).run P w.drew=.ok old.toArray w.drew) (hn:cap<len+n) (hsm:(16*(len+n)+12288)*i.bytes<=281474976710656) (hsl:len+n<=2199023255552) :
  ∃c rest,len+n<=c/\(Builtin.append_ #[ts,tx] ty #[.slice base len cap,x]).run P w=.ok (.slice (some ⟨w.heap.size,0,none⟩) (len+n) c) (w.drew.alloc (.cells (old++nw++rest).toArray e (0,0)))/\rest.length=(c-(len+n))*z.cells.size:=by
 have htx:=hT.tx;have hni:=hT.ni;have hcap:=tT hn;have hb:Builtin.nextslicecap (len+n) cap*i.bytes<=(16*(len+n)+12288)*i.bytes:=zae _ hcap
 have hmax:¬(((len+n:Nat):Int) > IntKind.i64.max/\i.bytes=0):=by
  have:IntKind.i64.max=9223372036854775807:=by decide
  rw[this];omega
 have ee:∀Z:Array Value,old.toArray++nw.toArray++Z=(old++nw++Z.toList).toArray:=fun Z=>by apply Array.ext';simp
 have hbig:¬Builtin.nextslicecap (len+n) cap*i.bytes > 2 ^ 48:=by omega
 refine⟨(Question.appendCap (len+n) cap e).cut (w.tape w.drawn (.appendCap (len+n) cap e)),(Builtin.zeroCells z.cells ((Question.appendCap (len+n) cap e).cut (w.tape w.drawn (.appendCap (len+n) cap e))-(len+n))).toList,?_,?_,?_⟩
 ·simp only[Question.cut];omega
 ·cases d
  case int=>exact absurd rfl (hni _)
  all_goals
   simp only[Builtin.append_,zao,zba,zbn];simp only[Sem.run_bind,ay hT.ts,ay htx,Result.andThen_ok,Sem.run_pure,dy hT.inf,zaf,if_false,hx,Sem.run_ite];rw[if_neg (by omega)];simp only[Sem.run_bind,nQ hT.inf,Result.andThen_ok,Sem.run_ite,false_or,if_neg hmax,if_neg hbig];simp only[Sem.run_bind,run_choose,Question.forced,zaf,if_false,Result.andThen_ok,run_askRoom];have e1:({ w with drawn:=w.drawn+1 }:World)=w.drew:=rfl;simp only[e1,Sem.run_pure,Result.andThen_ok,nQ hT.inf,zew,if_true,ho,hf,run_askRoom,Sem.run_bind,zeroValue,hT.ZC,newRow,run_newObj,ee];rfl
 ·simp[Builtin.zeroCells]
end
section
variable {P:Program}{n0 nt:Nat}{T T2:Tm}{hp H:Tr AO}{nx X:Pz}{G:GH}{ops:Array Oper}{aI:List Nat}{i m d:Nat}{v u:AV}
theorem fI.yh {c:Call}{ts tx e:TypeId}{ys yx:Operand}{len m:Nat}{E L:List AV}{d0:TypeDesc}{z:AV}{R:Tm->Tr AO->Pz->GH->Prop}(hg:(ae ops i).guard=none)(hd:(ae ops i).dst=some d)(hlt:d<nt)
  (ho:(ae ops i).op=.call c) (hc:c.callee=.builtin .append) (ht:c.argTypes.toList=[ts,tx]) (hx:c.args.toList=[ys,yx]) (hts:P.underlying ts=some (.slice e)) (htx:P.underlying tx=some d0) (hni:∀k,d0≠.int k)
  (hz:zeroOf P e=some z) (hgz:(Nat.ble (P.bytesOf e) 1000000&&(Nat.beq z.cells.length (af P e)&&Nat.blt 0 (af P e)))=true) (hsv:a9 nt T ys v) (hxv:a9 nt T yx u)
  (hs:Ext G v e (af P e) len E) (hE:nW E) (hsrc:Aw P n0 nt T hp nx G (af P e) m u L) (hsm:(16*(len+m)+12288)*P.bytesOf e<=281474976710656) (hsl:len+m<=2199023255552)
  (hr:∀v' G',KC n0 G G' v v' e (af P e) len m E L->nf v'->R (T.put d v') hp nx G'):fI P n0 nt ops i T hp nx G R:=by
 intro B w0 ι a w hsat;refine .inl ⟨by simp[Region.wanted,hg],?_⟩;rw[hd];have hval:=(hsat.1.2 ι (ao.refl _ _)).1;obtain⟨j,zv,q1,q2,q3,q4⟩:=cG hz;simp only[za]at hgz;obtain⟨g1,g2,g3⟩:=hgz;have g1:=aN g1;have g2:=aj g2;have g3:=ax g3;have hbytes:P.bytesOf e=j.bytes:=by unfold Program.bytesOf;rw[q1];rfl
 have hT:Kc P ts tx e j zv d0:=⟨hts,htx,hni,q1,q2,by omega⟩;have hzs:zv.cells.size=af P e:=by rw[<-ei 8 zv z q3 ι,bY];simp[aw,g2]
 have hrun:(execOp a.eval (ae ops i)).run P w=((Builtin.append_ #[ts,tx] (ae ops i).type #[a.eval ys,a.eval yx]).run P w).andThen fun v w'=>.ok (.value v) w':=tX ho hc ht hx (fun _ _ _ _=>rfl);obtain⟨hL1,hL2,hL4,hL3⟩:=hsrc;obtain⟨hl1,hl2⟩:=hL3 B w0 ι a w hsat;obtain⟨hl3,hl4⟩:=hL3 B w0 ι a w.drew (wq hsat);have hev:a.eval yx=ak ι u:=hxv ι a hval;have hfl:∀v∈aq ι L,vj v=true:=jx ι _ hL4
 -- a new block
 have grow:∀(base:Option Addr) (cap:Nat),a.eval ys=.slice base len cap->cap<len+m->E.length=len*af P e->(Builtin.firstCells (af P e) len (.slice base len cap)).run P w.drew=.ok (aq ι E).toArray w.drew ->
   dU P (execOp a.eval (ae ops i)) w fun cv w'=>∃T' hp' nx' G' ι2,R T' hp' nx' G'/\dX n0 B w0 nt T' hp' nx' G' ι2 (a.put (some d) cv) w':=by
  intro base cap hsv hcap hEl hold;obtain⟨c',rest,hc1,hc2,hc3⟩:=rB hT (ty:=(ae ops i).type) (base:=base) (len:=len) (cap:=cap) (x:=ak ι u) (old:=aq ι E) (nw:=aq ι L) hl1 hl4 hold hcap (by rw[hbytes]at hsm;exact hsm) hsl
  have hnew:=HH (kd:=.data) (A:=(aq ι E++aq ι L++rest).toArray) (el:=e) (C:=E++L) hsat (iE hE hL2) (by simp[aw]) (fun i hi=>by
   rw[<-e8,zao,zat (by rw[aw];exact hi),bx])
  obtain⟨hsn,hn1,hn2⟩:=hnew;have hlen:(E++L).length=(len+m)*af P e:=by rw[zak,hEl,hL1,zbh]
  refine .inl ⟨.slice (some ⟨w.heap.size,0,none⟩) (len+m) c',_,.inl (by rw[hrun,hsv,hev,hc2];rfl),T.put d (.dx w.heap.size 0 (len+m) c'),hp,nx,fx G w.heap.size (.cells .data e (aq ι E++aq ι L++rest).toArray.size (E++L)),ι,hr _ _ (.inr (.inr ⟨w.heap.size,c',_,hn1,hn2,rfl,hc1,?_,rfl⟩)) (jf _ _ _ _),?_⟩
  ·simp only[zee,zak,aw,hEl,hL1,hc3,hzs];rw[<-zbh,<-zbh];exact zae _ (by omega)
  ·exact eo hsn hlt (jf _ _ _ _) (by simp[ak,fD])
 rcases hs with ⟨rfl,rfl,rfl⟩|⟨b,o,cap,size,C,rfl,hb,hoC,hdrop,hsz,hlc⟩
 ·have hsv:a.eval ys=.slice none 0 0:=by rw[hsv ι a hval];simp[ak]
  by_cases hm0:m=0
  ·subst hm0;have hL0:L=[]:=List.length_eq_zero_iff.1 (by rw[hL1];simp);subst hL0;have:=mm hT (ty:=(ae ops i).type) (x:=ak ι u) (nw:=aq ι []) hl1 hl2;refine .inl ⟨.slice none 0 0,w,.inl (by rw[hrun,hsv,hev,this];rfl),T.put d .ab,hp,nx,G,ι,hr _ _ (.inl ⟨rfl,rfl,rfl,rfl,rfl⟩) lW,eo hsat hlt lW (by simp[ak,fD])⟩
  ·exact grow none 0 hsv (by omega) (by simp) (by simp[Builtin.firstCells,aq])
 ·have hsv:a.eval ys=.slice (some (oU b o len cap)) len cap:=by rw[hsv ι a hval];simp[ak]
  obtain⟨hnC,A,fz,h1,h2,h3,h4,h5⟩:=hsat.2.1 b _ hb;obtain⟨hnB,hfz⟩:=h5 (fun e=>by cases e);have hEl:E.length=len*af P e:=by rw[<-hdrop,zag,zas];omega
  by_cases hcap:len+m<=cap
  ·have MX:(len+m)*af P e<=cap*af P e:=zae _ hcap;rw[zbh]at MX;have hcan:lP w b (o+len*af P e) (aq ι L).length:=by rw[aw,hL1];exact kS h1 (by omega) hfz
   have hrun2:=sO hT (ty:=(ae ops i).type) (b:=b) (o:=o) (len:=len) (cap:=cap) (x:=ak ι u) (nw:=aq ι L) (by rw[aw,hL1]) hl1 hl2 hcap hfl hcan
   have hnb:∀id ob,hp.get id=some ob->own hp ob->ι.aY id≠b:=fun id ob hid hown e=>by
    have:=hsat.2.2.1 id ob hid hown;rw[e,hb]at this;cases this
   have hk:Kept (fun k=>B k∨uw hp ι k) w (bp w b (o+len*af P e) (aq ι L)):=eN _ _ _ _ (by
    rintro (hB|⟨id,ob,hid,hown,e⟩)
    ·exact hnB hB
    ·exact hnb id ob hid hown e) (Kept.refl _ _)
   have hgh:pj B (bp w b (o+len*af P e) (aq ι L)) b (.cells .data e size (nA C (o+len*af P e) L)):=by
    refine⟨iE (iE (Ap _ hnC) hL2) (Aq _ hnC),ef A (o+len*af P e) (aq ι L),fz,c9 (aq ι L) w b (o+len*af P e) A e fz h1,by rw[bq];exact h2,?_,fun k hk' _ ι'=>?_,fun _=>⟨hnB,by rw[bq];exact hfz⟩⟩
    ·rw[lZ hoC,hL1];omega
    ·rw[lZ hoC]at hk';rw[dF _ _ _ _ (by rw[aw,hL1];omega),ra hoC,aw];by_cases hlo:o+len*af P e<=k/\k<o+len*af P e+L.length
     ·rw[if_pos hlo,if_pos hlo,bx];cases hc':L[k-(o+len*af P e)]? with
      |none=>rfl
      |some q=>exact congrArg some (hL2 q (zaw hc') ι ι')
     ·rw[if_neg hlo,if_neg hlo];exact h4 k (by omega) (fun h=>by cases h) ι'
   have hsn:=lh (b:=b) (g:=.cells .data e size (nA C (o+len*af P e) L)) hsat hk (fun k g' hne _=>gS _ _ _ _ _ hne) hgh hnb;exact .inl ⟨.slice (some (oU b o (len+m) cap)) (len+m) cap,_,.inl (by rw[hrun,hsv,hev,hrun2];rfl),T.put d (.dx b o (len+m) cap),hp,nx,_,ι,hr _ _ (.inr (.inl ⟨b,o,cap,size,C,rfl,hb,rfl,hcap,hsz,hoC,rfl⟩)) (jf _ _ _ _),eo hsn hlt (jf _ _ _ _) (by simp[ak,fD])⟩
  ·exact grow _ cap hsv (by omega) hEl (by
     rw[kV (l:=aq ι E) (by rw[aw,hEl]) fun j hj=>?_];show (w.drew).cell? _=_
     rw[show (w.drew).cell? ⟨b,o+j,none⟩=w.cell? ⟨b,o+j,none⟩from rfl,iF hsat hb _ (by omega),bx,<-hdrop,zbe hj,zbb])
theorem qG {kd:BK}{el:TypeId}{C:List AV}{B:Nat->Prop}{w0 w:World}{ι:En}{a:Act}(hs:dX n0 B w0 nt T hp nx G ι a w)(hC:nW C) :
  dX n0 B w0 nt T hp nx (fx G w.heap.size (.cells kd el C.length C)) ι a (w.alloc (.cells (aq ι C).toArray el (0,0)))/\n0<=w.heap.size/\G w.heap.size=none:=by
 refine tb (g:=.cells kd el C.length C) (y:=.cells (aq ι C).toArray el (0,0)) hs fun hB=>?_;refine⟨hC,_,(0,0),cb w _,by simp[aw],zad _,fun q hq _ ι'=>?_,fun _=>⟨fun h=>absurd (hB _ h) (by omega),.inl rfl⟩⟩;rw[zao,bx];cases hc':C[q]? with
 |none=>rfl
 |some x=>exact congrArg some (hC x (zaw hc') _ _)
theorem fI.Qo (kd:BK){e:TypeId}{z:AV}{R:Tm->Tr AO->Pz->GH->Prop}(hg:(ae ops i).guard=none)(hd:(ae ops i).dst=some d)(hlt:d<nt)(ho:(ae ops i).op=.alloc e)(hz:zeroOf P e=some z)(hnf:nW z.cells)
  (hr:∀b,n0<=b->G b=none->R (T.put d (.bZ b 0)) hp nx (fx G b (.cells kd e z.cells.length z.cells))):fI P n0 nt ops i T hp nx G R:=by
 intro B w0 ι a w hs;refine .inl ⟨by simp[Region.wanted,hg],?_⟩;rw[hd];obtain⟨j,zv,h1,h2,h3,h4⟩:=cG hz
 have hrun:(execOp a.eval (ae ops i)).run P w=.ok (.value (.pointer (some ⟨w.heap.size,0,none⟩))) (w.alloc (.cells (aq ι z.cells).toArray e (0,0))):=by
  simp only[execOp,ho,Instr.alloc,Sem.run_bind,h4 ι,Result.andThen_ok,newVar,newRow,run_newObj,Sem.run_pure,bY];rfl
 obtain⟨q1,q2,q3⟩:=qG (kd:=kd) (el:=e) hs hnf;exact .inl ⟨_,_,.inl hrun,_,_,_,_,ι,hr _ q2 q3,eo q1 hlt (lX _ _) (by simp[ak,fD])⟩
theorem fI.WZ (kd:BK){e:TypeId}{x:Operand}{R:Tm->Tr AO->Pz->GH->Prop}(hg:(ae ops i).guard=none)(hd:(ae ops i).dst=some d)(hlt:d<nt)(ho:(ae ops i).op=.box e x)(hx:a9 nt T x v)(hnf:nW v.cells)
  (hr:∀b,n0<=b->G b=none->R (T.put d (.bZ b 0)) hp nx (fx G b (.cells kd e v.cells.length v.cells))):fI P n0 nt ops i T hp nx G R:=by
 intro B w0 ι a w hs;refine .inl ⟨by simp[Region.wanted,hg],?_⟩;rw[hd]
 have hrun:(execOp a.eval (ae ops i)).run P w=.ok (.value (.pointer (some ⟨w.heap.size,0,none⟩))) (w.alloc (.cells (aq ι v.cells).toArray e (0,0))):=by
  simp only[execOp,ho];rw[hx ι a (hs.1.2 ι (ao.refl _ _)).1];simp only[Instr.box,Sem.run_bind,Result.andThen_ok,newVar,newRow,run_newObj,Sem.run_pure,bY];rfl
 obtain⟨q1,q2,q3⟩:=qG (kd:=kd) (el:=e) hs hnf;exact .inl ⟨_,_,.inl hrun,_,_,_,_,ι,hr _ q2 q3,eo q1 hlt (lX _ _) (by simp[ak,fD])⟩
theorem fI.sB (kd:BK){t e:TypeId}{len:Nat}{z:AV}{ps:Array (Nat×Operand)}{vs:List (Nat×AV)}{cs:List AV}{R:Tm->Tr AO->Pz->GH->Prop}(hg:(ae ops i).guard=none)(hd:(ae ops i).dst=some d)(hlt:d<nt)(ho:(ae ops i).op=.buildSlice t len ps)(hu:P.underlying t=some (.slice e))(hz:zeroOf P e=some z)
  (hgz:(Nat.ble len 10000&&(Nat.ble (af P e) 1000&&(Nat.beq z.cells.length (af P e)&&Nat.blt 0 (af P e))))=true) (hv:Rt.HY nt T ps.toList vs) (h:Rt.sx (fun i=>some (i*af P e,af P e)) vs (gY len z.cells)=some cs) (hnf:nW cs) (hcs:cs.length=len*af P e)
  (hr:∀b,n0<=b->G b=none->R (T.put d (.dx b 0 len len)) hp nx (fx G b (.cells kd e cs.length cs))):fI P n0 nt ops i T hp nx G R:=by
 intro B w0 ι a w hs;refine .inl ⟨by simp[Region.wanted,hg],?_⟩;rw[hd];have ha:=(hs.1.2 ι (ao.refl _ _)).1;simp only[za]at hgz;obtain⟨g1,g2,g3,g4⟩:=hgz;have g1:=aN g1;have g2:=aN g2;have g3:=aj g3;have g4:=ax g4;obtain⟨j,zv,h1,h2,h3,h4⟩:=cG hz;have hmul:len*af P e<=10000*1000:=zdq g1 g2;have hfl:=Rt.qA ι h;rw[<-Rt.HY.map ha hv]at hfl
 have hrun:(execOp a.eval (ae ops i)).run P w=.ok (.value (.slice (some ⟨w.heap.size,0,none⟩) len len)) (w.alloc (.cells (aq ι cs).toArray e (0,0))):=by
  simp only[execOp,ho,Instr.buildSlice,Sem.run_bind,ay hu,Result.andThen_ok,dy h1];rw[show (ps.map fun x=>match x with|(i,x)=>(i,a.eval x))=ps.map fun x=>(x.1,a.eval x.2)from rfl];simp only[Sem.run_ite];rw[if_neg (by simp;omega)];by_cases h0:len*af P e=0
  ·have hl0:len=0:=by rcases Nat.mul_eq_zero.1 h0 with h|h<;>omega
   subst hl0;have hfl0:Instr.fill (fun i=>some (i*af P e,af P e)) #[] (ps.map fun x=>(x.1,a.eval x.2)).toList=some (aq ι cs).toArray:=by rw[e9];exact hfl
   simp only[zbw,if_true,Sem.run_bind,Sem.run_pure,Result.andThen_ok];rw[show (Array.range 0).map ((#[]:Array Value)[·%(#[]:Array Value).size]!)=#[] by simp];rw[hfl0];simp only[Sem.run_bind,newRow,run_newObj,Sem.run_pure,Result.andThen_ok];rfl
  ·have hfl':Instr.fill (fun i=>some (i*af P e,af P e)) ((Array.range (len*af P e)).map ((aq ι z.cells).toArray[·%(aq ι z.cells).toArray.size]!)) (ps.map fun x=>(x.1,a.eval x.2)).toList=some (aq ι cs).toArray:=by
     rw[e9,<-g3,qi ι z.cells (by omega) len,g3];exact hfl
   simp only[if_neg h0,Sem.run_bind,h4 ι,Result.andThen_ok,bY,Sem.run_pure];rw[hfl'];simp only[Sem.run_bind,newRow,run_newObj,Sem.run_pure,Result.andThen_ok];rfl
 obtain⟨q1,q2,q3⟩:=qG (kd:=kd) (el:=e) hs hnf;exact .inl ⟨_,_,.inl hrun,_,_,_,_,ι,hr _ q2 q3,eo q1 hlt (jf _ _ _ _) (by simp[ak,fD])⟩
end
end Go.aK
namespace Go.Rt
open Go.aK Go.RowKit
theorem fb (a b:List Own):eV (a++b)=eV a++eV b:=zdd
theorem il {os:List Own}{b:Nat}:b∈eV os ↔ ∃o∈os,o.aY=some b:=List.mem_filterMap
theorem df.told {P:Program}{Φ:Forms}{G:GH}{Γ:dI}{o:Own}(h:df P Φ G Γ o){b:Nat}(hb:o.aY=some b):(G b).isSome=true:=by
 cases o with
 |loc b' el C=>cases hb;have h:G b=_:=h.1;rw[h];rfl
 |map b' pk es=>cases hb;have h:G b=_:=h.1;rw[h];rfl
 |jg v e ms =>
  rcases h.2.2 with ⟨rfl,_⟩|⟨b',cap,size,C,h1,h2,h3,h4⟩
  ·cases hb
  ·rw[h1]at hb;cases hb;rw[h3];rfl
 |ul v c g n =>
  rcases h.2.2 with ⟨rfl,_⟩|⟨b',cap,size,C,h1,h2,h3,h4⟩
  ·cases hb
  ·rw[h1]at hb;cases hb;rw[h3];rfl
 |am b' g k=>cases hb;obtain⟨_,_,_,es,h1,_⟩:=h;rw[h1];rfl
 |im b' k=>cases hb;obtain⟨_,es,h1,_⟩:=h;rw[h1];rfl
 |bl v el ms=>obtain⟨_,_,b',size,h1,h2,h3⟩:=h;rw[h1]at hb;cases hb;rw[h3];rfl
 |km b' c g n=>cases hb;obtain⟨_,_,_,es,h1,_⟩:=h;rw[h1];rfl
 |kq b' c g n q=>cases hb;obtain⟨_,_,_,es,h1,_⟩:=h;rw[h1];rfl
 |rm v c g n=>cases hb
 |it b' m n r st ty=>cases hb;obtain⟨_,⟨mo,seen,_,h1,_⟩,_⟩:=h;rw[h1];rfl
section
variable {c:Cx}{ops:Array Oper}{i m d f:Nat}{T:Tm}{G G':GH}{Γ Γ':dI}{st st':St}{v u:AV}
theorem Q.TI (hq:Q c T G Γ st){b:Nat}(h:(c.G0 b).isSome=true):(G b).isSome=true:=hq.rl.SJ b h
theorem Q.jQ (hq:Q c T G Γ st){b:Nat}(h:G b=none):c.G0 b=none:=by
 cases h0:c.G0 b with
 |none=>rfl
 |some g=>have:=hq.TI (b:=b) (by rw[h0];rfl);rw[h]at this;cases this
theorem HT.told (h:HT c.P c.Φ G Γ){b:Nat}{x:Ds}(hb:Γ.m b=some x):(G b).isSome=true:=(h.b b x hb).told
theorem HT.none (h:HT c.P c.Φ G Γ){b:Nat}(hb:G b=none):Γ.m b=none:=by
 cases h0:Γ.m b with
 |none=>rfl
 |some x=>have:=h.told h0;rw[hb]at this;cases this
theorem Q.call (hq:Q c T G Γ st){osA osB os':List Own}{tys':List TF}{gsA gs':List (Nat×Gd×Bool)}{Sg:List Nat}(ho:st.os.Perm (osA++osB))(hr:Rl c.Φ (eV osB) Sg G Γ G' Γ')(hgr:oj c.n0 G G')(ht:HT c.P c.Φ G' Γ')(h1:∀o∈os',df c.P c.Φ G' Γ' o)(h2:(eV os').Nodup)
  (h3:∀o∈os',∀b,o.aY=some b->b∈eV osB∨G b=none) (h4:∀f∈tys',fF c.P c.Φ G' Γ' f) (hSg:∀g∈Sg,g∈c.Sg∨c.Γ0.ng<=g) (hgA:∀p∈gsA,p∈st.gs/\Γ'.gd p.1=Γ.gd p.1) (hgs':∀p∈gs',p.1<Γ'.ng/\Γ'.gd p.1=p.2.1/\(p.2.2=true->(p.1∈c.Sg∨c.Γ0.ng<=p.1)/\p.2.1.fz=false/\0<p.1)) (hin:∀o∈osA,∀g,o.inst=some g->Γ'.gd g=Γ.gd g) (hpin:∀o∈osA,o.Tq=true->∀b c g,Γ.m b=some (.map c g)->G' b=G b) :
  Q c T G' Γ' ⟨st.L,osA++os',tys'++st.eF,gs'++gsA⟩:=by
 have hnd:(eV (osA++osB)).Nodup:=(ho.filterMap Own.aY).nodup_iff.1 hq.nd;have hmem:∀o,o∈osA++osB->o∈st.os:=fun o h=>ho.mem_iff.2 h;rw[fb,List.nodup_append]at hnd;obtain⟨n1,n2,n3⟩:=hnd
 have hB:∀b∈eV osB,b∈c.S∨c.G0 b=none:=fun b hb=>by
  obtain⟨o,m1,m2⟩:=il.1 hb;exact hq.new o (hmem o (by simp[m1])) b m2
 have hA:∀o∈osA,o∈st.os:=fun o h=>hmem o (by simp[h]);refine⟨hq.ml,hq.at_,hq.xU,hq.rl.trans (P:=c.P) hq.xU hr hB hSg,hq.grow.trans hgr,fun o h=>?_,fun o h b hb=>?_,?_,ht,fun f hf=>?_,fun p hp=>?_⟩
 ·rcases List.mem_append.1 h with h|h
  ·exact (hq.own o (hA o h)).aU hr (fun b hb hm=>n3 b (il.2 ⟨o,h,hb⟩) b hm rfl) (hin o h) (hpin o h)
  ·exact h1 o h
 ·rcases List.mem_append.1 h with h|h
  ·exact hq.new o (hA o h) b hb
  ·rcases h3 o h b hb with h|h
   ·exact hB b h
   ·exact .inr (hq.jQ h)
 ·show (eV (osA++os')).Nodup;rw[fb];refine List.nodup_append.2 ⟨n1,h2,fun x hx y hy e=>?_⟩;subst e;obtain⟨o,m1,m2⟩:=il.1 hy;rcases h3 o m1 x m2 with h|h
  ·exact n3 x hx x h rfl
  ·obtain⟨o2,k1,k2⟩:=il.1 hx;have:=(hq.own o2 (hA o2 k1)).told k2;rw[h]at this;cases this
 ·rcases List.mem_append.1 hf with h|h
  ·exact h4 f h
  ·exact (hq.ty f h).le hr.r hr.le
 ·rcases List.mem_append.1 hp with h|h
  ·exact hgs' p h
  ·obtain⟨h1,h2⟩:=hgA p h;obtain⟨q1,q2,q3⟩:=hq.gs p h1;exact⟨zbj q1 hr.le.ng,h2.trans q2,q3⟩
def updΓ (Γ:dI)(b:Nat)(x:Ds):dI:=⟨fun k=>if k=b then some x else Γ.m k,Γ.gd,Γ.ng⟩
theorem updΓ_same (Γ:dI)(b:Nat)(x:Ds):(updΓ Γ b x).m b=some x:=by simp[updΓ]
theorem updΓ_ne {b k:Nat}{x:Ds}(h:k≠b):(updΓ Γ b x).m k=Γ.m k:=by simp[updΓ,h]
theorem dA.le {P:Program}{Φ:Forms}{cc g:Nat}{es:List (AV×AV)}(h:dA P Φ G Γ cc g es)(hr:dQ G G')(hl:dV Γ Γ')(hg:Γ'.gd g=Γ.gd g):dA P Φ G' Γ' cc g es:=by
 unfold dA at h ⊢;refine⟨h.1,?_⟩;have h:=h.2;rw[hg];cases hm:Φ.mv cc with
 |kd k =>
  rw[hm]at h;intro p hp;obtain⟨fs,k1,k2⟩:=h p hp;exact⟨fs,k1,fun f hf=>(k2 f hf).le hr hl⟩
 |unit=>rw[hm]at h;exact h
 |FM b=>rw[hm]at h;exact h
 |DD=>rw[hm]at h;exact h
 |kn b k =>
  rw[hm]at h;refine⟨h.1,fun p hp=>?_⟩;obtain⟨fs,k1,k2⟩:=h.2 p hp;exact⟨fs,k1,fun f hf=>(k2 f hf).le hr hl⟩
theorem uD.same {P:Program}{Φ:Forms}{k:Nat}{x:Ds}(h:uD P Φ G Γ k x)(hG:G' k=G k)(hr:dQ G G')(hl:dV Γ Γ')(hg:∀g,g<Γ.ng->Γ'.gd g=Γ.gd g):uD P Φ G' Γ' k x:=by
 cases x with
 |cells cc g L =>
  obtain⟨h1,h2,size,C,h3,h4,h5⟩:=h;exact⟨⟨zbj h1.1 hl.ng,h1.2⟩,h2,size,C,by rw[hG];exact h3,h4,fun j m hj=>(h5 j m hj).le hr hl h1.1⟩
 |map cc g =>
  obtain⟨h1,es,h3,h4,h5⟩:=h;exact⟨zbj h1 hl.ng,es,by rw[hG];exact h3,h4,h5.le hr hl (hg g h1)⟩
theorem HT.chg {P:Program}{Φ:Forms}{b:Nat}(ht:HT P Φ G Γ)(hr:dQ G G')(hl:dV Γ Γ')(hgd:Γ'.gd=Γ.gd)(hk:∀k,k≠b->Γ'.m k=Γ.m k)(hG:∀k,k≠b->G' k=G k)(hb:∀x,Γ'.m b=some x->uD P Φ G' Γ' b x):HT P Φ G' Γ':=by
 refine⟨by rw[hgd];exact⟨ht.z.1,zbj ht.z.2 hl.ng⟩,fun k x h=>?_⟩;by_cases e0:k=b
 ·subst e0;exact hb x h
 ·rw[hk k e0]at h;exact (ht.b k x h).same (hG k e0) hr hl fun g _=>by rw[hgd]
theorem Qp {Φ:Forms}{S:List Nat}{b:Nat}(hk:∀k,k≠b->Γ'.m k=Γ.m k)(hG:∀k,k≠b->G' k=G k)(hb:(G' b).isSome=true)(hraw:∀el size C,G b≠some (.cells .raw el size C))(hdat:∀el size C,G b=some (.cells .data el size C)->∃C',G' b=some (.cells .data el size C'))(hle:∀x,Γ.m b=some x->∃y,Γ'.m b=some y/\oq x y)(hgd:Γ'.gd=Γ.gd)(hng:Γ'.ng=Γ.ng)
  (hS:b∈S∨G b=none∨∃x,Γ.m b=some x/\x.fixed Φ=false) (hm:∀x,Γ.m b=some x->(G b).isSome=true) (hnm:b∈S->∀c g,Γ.m b≠some (.map c g)):Rl Φ S [] G Γ G' Γ':=by
 have hne:∀k,(G k).isSome=true->k∉S->Γ.m k=none->k≠b:=fun k hk' hn h0 e=>by
  subst e;rcases hS with h|h|⟨x,h,_⟩
  ·exact hn h
  ·rw[h]at hk';cases hk'
  ·rw[h0]at h;cases h
 refine⟨fun k h hn h0=>?_,⟨fun k el size C h=>?_,fun k el size C h=>?_⟩,fun k x h hx hn=>?_,⟨fun k x h=>?_,fun g _=>by rw[hgd];exact Gd.Le.refl _,by rw[hng];exact zad _⟩,fun g _ _=>by rw[hgd],fun k h=>?_,fun k cc g h hi=>?_⟩
 ·have e:=hne k h hn h0;exact⟨hG k e,by rw[hk k e];exact h0⟩
 ·exact hG k (by rintro rfl;exact hraw _ _ _ h)
 ·by_cases e0:k=b
  ·subst e0;exact hdat _ _ _ h
  ·exact⟨C,by rw[hG k e0];exact h⟩
 ·rw[hk k ?_];exact h
  rintro rfl
  rcases hS with h'|h'|⟨y,h',hy⟩
  ·exact hn h'
  ·have:=hm x h;rw[h']at this;cases this
  ·rw[h]at h';cases h';rw[hx]at hy;cases hy
 ·by_cases e0:k=b
  ·subst e0;exact hle x h
  ·exact⟨x,by rw[hk k e0];exact h,oq.refl x⟩
 ·by_cases e0:k=b
  ·subst e0;exact hb
  ·rw[hG k e0];exact h
 ·refine hG k ?_
  rintro rfl
  rcases hS with h'|h'|⟨y,h',hy⟩
  ·exact hnm h' _ _ h
  ·have:=hm _ h;rw[h']at this;cases this
  ·rw[h]at h';cases h';have hy:Φ.im cc=false:=hy;rw[hi]at hy;cases hy
theorem df.Nh {P:Program}{Φ:Forms}{G:GH}{Γ:dI}{o:Own}(h:df P Φ G Γ o){b:Nat}(hb:o.aY=some b)(c g:Nat):Γ.m b≠some (.map c g):=by
 intro e;cases o with
 |loc b' el C=>cases hb;rw[h.2]at e;cases e
 |map b' pk es=>cases hb;rw[h.2.1]at e;cases e
 |jg v c' ms =>
  obtain⟨_,_,⟨h1,_⟩|⟨b',cap,size,C,h1,h2,_⟩⟩:=h
  ·rw[h1]at hb;cases hb
  ·rw[h1]at hb;cases hb;rw[h2]at e;cases e
 |ul v c' g' n =>
  obtain⟨_,_,⟨h1,_⟩|⟨b',cap,size,C,h1,h2,_⟩⟩:=h
  ·rw[h1]at hb;cases hb
  ·rw[h1]at hb;cases hb;rw[h2]at e;cases e
 |am b' g' k=>cases hb;rw[h.1]at e;cases e
 |im b' k=>cases hb;rw[h.1]at e;cases e
 |bl v el ms =>
  obtain⟨_,_,b',size,h1,h2,_⟩:=h;rw[h1]at hb;cases hb;rw[h2]at e;cases e
 |km b' c' g' n=>cases hb;rw[h.1]at e;cases e
 |kq b' c' g' n q=>cases hb;rw[h.1]at e;cases e
 |rm v c' g' n=>cases hb
 |it b' m n r st ty=>cases hb;rw[h.1]at e;cases e
theorem Q.oG (hq:Q c T G Γ st){osA osB os':List Own}{tys':List TF}{b:Nat}(ho:st.os.Perm (osA++osB))(hgr:oj c.n0 G G')(hk:∀k,k≠b->Γ'.m k=Γ.m k)(hG:∀k,k≠b->G' k=G k)(hb:(G' b).isSome=true)(hraw:∀el size C,G b≠some (.cells .raw el size C))(hdat:∀el size C,G b=some (.cells .data el size C)->∃C',G' b=some (.cells .data el size C'))
  (hle:∀x,Γ.m b=some x->∃y,Γ'.m b=some y/\oq x y) (hgd:Γ'.gd=Γ.gd) (hng:Γ'.ng=Γ.ng) (hS:b∈eV osB∨G b=none∨∃x,Γ.m b=some x/\x.fixed c.Φ=false)
  (hds:∀x,dQ G G'->dV Γ Γ'->Γ'.m b=some x->uD c.P c.Φ G' Γ' b x) (h1:∀o∈os',dQ G G'->dV Γ Γ'->df c.P c.Φ G' Γ' o) (h2:(eV os').Nodup) (h3:∀o∈os',∀b,o.aY=some b->b∈eV osB∨G b=none) (h4:∀f∈tys',dQ G G'->dV Γ Γ'->fF c.P c.Φ G' Γ' f) (hpin:∀cc g,Γ.m b=some (.map cc g)->∀o∈osA,o.Tq=false) :
  Q c T G' Γ' ⟨st.L,osA++os',tys'++st.eF,st.gs⟩:=by
 have hr:Rl c.Φ (eV osB) [] G Γ G' Γ':=Qp hk hG hb hraw hdat hle hgd hng hS (fun x h=>hq.ht.told h) fun h c g=>by
  obtain⟨o,m1,m2⟩:=il.1 h;exact (hq.own o (ho.mem_iff.2 (zbx _ m1))).Nh m2 c g
 have:=hq.call (gs':=[]) (gsA:=st.gs) ho hr hgr (hq.ht.chg hr.r hr.le hgd hk hG fun x h=>hds x hr.r hr.le h) (fun o h=>h1 o h hr.r hr.le) h2 h3 (fun f h=>h4 f h hr.r hr.le) (fun g h=>by cases h) (fun p hp=>⟨hp,by rw[hgd]⟩) (fun p hp=>by cases hp) (fun o _ g _=>by rw[hgd]) (fun o ho2 hp k cc g hk2=>by
  by_cases e:k=b
  ·subst e;rw[hpin cc g hk2 o ho2]at hp;cases hp
  ·exact hG k e)
 exact this
theorem Q.AX (hq:Q c T G Γ st){b:Nat}{g:Gh}(hn:c.n0<=b)(hb:G b=none)(o:Own)(ho:o.aY=some b)(hok:df c.P c.Φ (fx G b g) Γ o):Q c T (fx G b g) Γ ⟨st.L,o::st.os,st.eF,st.gs⟩:=by
 have:=hq.oG (osA:=st.os) (osB:=[]) (os':=[o]) (tys':=[]) (b:=b) (G':=fx G b g) (Γ':=Γ) (by simp) (dP (.inr hn)) (fun _ _=>rfl) (fun k h=>dH h) (by rw[aA];rfl) (fun _ _ _ h=>by rw[hb]at h;cases h) (fun _ _ _ h=>by rw[hb]at h;cases h) (fun x h=>by rw[hq.ht.none hb]at h;cases h) rfl rfl (.inr (.inl hb))
  (fun x _ _ h=>by rw[hq.ht.none hb]at h;cases h) (fun o' h _ _=>by rw[List.mem_singleton.1 h];exact hok) (by show (List.filterMap Own.aY [o]).Nodup;simp[ho]) (fun o' h b' hb'=>by rw[List.mem_singleton.1 h,ho]at hb';cases hb';exact .inr hb) (fun f h=>by cases h) (fun _ _ h=>by rw[hq.ht.none hb]at h;cases h)
 exact this.iW (fun _ _ h=>h) ⟨[],by simp⟩ (fun f h=>h) (fun p h=>h)
theorem Q.Qq (hq:Q c T G Γ st){b cc g size:Nat}{L:List Nat}{C:List AV}{tys':List TF}(hn:c.n0<=b)(hb:G b=none)(hg:g<Γ.ng)(hrw:c.Φ.raw cc=false)(hu:c.Φ.fV cc=true->∀m∈L,m=WU)(hl:C.length=L.length*af c.P (c.Φ.ty cc))(hel:∀j m,L[j]?=some m->eY c.P c.Φ G Γ m cc g j ((C.drop (j*af c.P (c.Φ.ty cc))).take (af c.P (c.Φ.ty cc))))
  (h4:∀f∈tys',fF c.P c.Φ (fx G b (.cells .data (c.Φ.ty cc) size C)) (updΓ Γ b (.cells cc g L)) f):Q c T (fx G b (.cells .data (c.Φ.ty cc) size C)) (updΓ Γ b (.cells cc g L)) ⟨st.L,st.os,tys'++st.eF,st.gs⟩:=by
 have:=hq.oG (osA:=st.os) (osB:=[]) (os':=[]) (tys':=tys') (b:=b) (G':=fx G b (.cells .data (c.Φ.ty cc) size C)) (Γ':=updΓ Γ b (.cells cc g L)) (by simp) (dP (.inr hn)) (fun k h=>updΓ_ne h) (fun k h=>dH h) (by rw[aA];rfl) (fun _ _ _ h=>by rw[hb]at h;cases h) (fun _ _ _ h=>by rw[hb]at h;cases h) (fun x h=>by rw[hq.ht.none hb]at h;cases h) rfl rfl (.inr (.inl hb))
  (fun x hr hl' h=>by rw[updΓ_same]at h;cases h;exact⟨⟨hg,hrw⟩,hu,size,C,aA _ _ _,hl,fun j m hj=>(hel j m hj).le hr hl' hg⟩) (fun o' h=>by cases h) (by show ([]:List Nat).Nodup;simp) (fun o' h=>by cases h) (fun f h _ _=>h4 f h) (fun _ _ h=>by rw[hq.ht.none hb]at h;cases h)
 exact this.iW (fun _ _ h=>h) ⟨[],by simp⟩ (fun f h=>h) (fun p h=>h)
theorem Q.W0 (hq:Q c T G Γ st){b cc g:Nat}{tys':List TF}(hn:c.n0<=b)(hb:G b=none)(hg:g<Γ.ng)(hm:dA c.P c.Φ G Γ cc g [])
  (h4:∀f∈tys',fF c.P c.Φ (fx G b (.map [])) (updΓ Γ b (.map cc g)) f):Q c T (fx G b (.map [])) (updΓ Γ b (.map cc g)) ⟨st.L,st.os,tys'++st.eF,st.gs⟩:=by
 have:=hq.oG (osA:=st.os) (osB:=[]) (os':=[]) (tys':=tys') (b:=b) (G':=fx G b (.map [])) (Γ':=updΓ Γ b (.map cc g)) (by simp) (dP (.inr hn)) (fun k h=>updΓ_ne h) (fun k h=>dH h) (by rw[aA];rfl) (fun _ _ _ h=>by rw[hb]at h;cases h) (fun _ _ _ h=>by rw[hb]at h;cases h) (fun x h=>by rw[hq.ht.none hb]at h;cases h) rfl rfl (.inr (.inl hb))
  (fun x hr hl' h=>by rw[updΓ_same]at h;cases h;exact⟨hg,[],aA _ _ _,(fun p hp=>by cases hp),hm.le hr hl' rfl⟩) (fun o' h=>by cases h) (by show ([]:List Nat).Nodup;simp) (fun o' h=>by cases h) (fun f h _ _=>h4 f h) (fun _ _ h=>by rw[hq.ht.none hb]at h;cases h)
 exact this.iW (fun _ _ h=>h) ⟨[],by simp⟩ (fun f h=>h) (fun p h=>h)
theorem Q.vu (hq:Q c T G Γ st){b:Nat}{osA:List Own}{o o':Own}{tys':List TF}(ho:st.os.Perm (osA++[o]))(hgr:oj c.n0 G G')(hk:∀k,k≠b->Γ'.m k=Γ.m k)(hG:∀k,k≠b->G' k=G k)(hb:(G' b).isSome=true)(hraw:∀el size C,G b≠some (.cells .raw el size C))(hdat:∀el size C,G b=some (.cells .data el size C)->∃C',G' b=some (.cells .data el size C'))
  (hle:∀x,Γ.m b=some x->∃y,Γ'.m b=some y/\oq x y) (hgd:Γ'.gd=Γ.gd) (hng:Γ'.ng=Γ.ng) (hob:o.aY=some b∨G b=none) (ho':o'.aY=some b)
  (hds:∀x,dQ G G'->dV Γ Γ'->Γ'.m b=some x->uD c.P c.Φ G' Γ' b x) (h1:dQ G G'->dV Γ Γ'->df c.P c.Φ G' Γ' o') (h4:∀f∈tys',dQ G G'->dV Γ Γ'->fF c.P c.Φ G' Γ' f) :
  Q c T G' Γ' ⟨st.L,osA++[o'],tys'++st.eF,st.gs⟩:=by
 refine hq.oG (b:=b) ho hgr hk hG hb hraw hdat hle hgd hng ?_ hds (fun o2 h=>by rw[List.mem_singleton.1 h];exact h1) (by show (List.filterMap Own.aY [o']).Nodup;simp[ho']) (fun o2 h b2 hb2=>?_) h4 (fun cc g hm=>?_)
 ·rcases hob with h|h
  ·exact .inl (il.2 ⟨o,by simp,h⟩)
  ·exact .inr (.inl h)
 ·rw[List.mem_singleton.1 h,ho']at hb2;cases hb2;rcases hob with h|h
  ·exact .inl (il.2 ⟨o,by simp,h⟩)
  ·exact .inr h
 ·rcases hob with h|h
  ·exact absurd hm ((hq.own o (ho.mem_iff.2 (by simp))).Nh h cc g)
  ·rw[hq.ht.none h]at hm;cases hm
theorem Q.Qr (hq:Q c T G Γ st){b:Nat}{x y:Ds}{tys':List TF}{g':Gh}(hx:Γ.m b=some x)(hf:x.fixed c.Φ=false)(hxy:oq x y)(hdat:∀el size C,G b=some (.cells .data el size C)->∃C',g'=.cells .data el size C')
  (hds:dQ G (fx G b g')->dV Γ (updΓ Γ b y)->uD c.P c.Φ (fx G b g') (updΓ Γ b y) b y) (h4:∀f∈tys',fF c.P c.Φ (fx G b g') (updΓ Γ b y) f) (hpin:∀cc g,x=.map cc g->∀o∈st.os,o.Tq=false) :
  Q c T (fx G b g') (updΓ Γ b y) ⟨st.L,st.os,tys'++st.eF,st.gs⟩:=by
 have htold:=hq.ht.told hx
 have:=hq.oG (osA:=st.os) (osB:=[]) (os':=[]) (tys':=tys') (b:=b) (G':=fx G b g') (Γ':=updΓ Γ b y) (by simp) (dP (.inl htold)) (fun k h=>updΓ_ne h) (fun k h=>dH h) (by rw[aA];rfl) (fun el size C h=>by
   have:=hq.ht.b b x hx;cases x with
   |cells cc g L=>obtain⟨_,_,s2,C2,h2,_⟩:=this;rw[h]at h2;cases h2
   |map cc g=>obtain⟨_,es,h2,_⟩:=this;rw[h]at h2;cases h2)
  (fun el size C h=>by obtain⟨C',h'⟩:=hdat el size C h;exact⟨C',by rw[aA,h']⟩) (fun x' h=>by rw[hx]at h;cases h;exact⟨y,updΓ_same _ _ _,hxy⟩) rfl rfl (.inr (.inr ⟨x,hx,hf⟩))
  (fun x' hr hl' h=>by rw[updΓ_same]at h;cases h;exact hds hr hl') (fun o' h=>by cases h) (by show ([]:List Nat).Nodup;simp) (fun o' h=>by cases h) (fun f h _ _=>h4 f h) (fun cc g h=>by rw[hx]at h;cases h;exact hpin cc g rfl)
 exact this.iW (fun _ _ h=>h) ⟨[],by simp⟩ (fun f h=>h) (fun p h=>h)
end
end Go.Rt
namespace Go.Rd
open Go.aK Go.RowKit Go.Rt
def wK (s:SS)(f:dW):Bool:=s.ty.any (dW.beq f)
theorem qH {s:SS}{f:dW}(h:wK s f=true):f∈s.ty:=by
 obtain⟨x,h1,h2⟩:=List.any_eq_true.1 h;have:=dW.aj h2;subst this;exact h1
def Qs (cf:Cf)(s:SS)(g cc:Nat)(x:SC)(K:LE->Option (Option Nat)):Option (Option Nat):=bif cf.Φ.via cc then none else match x with
 |.ab=>(K (.k 0)).map fun _=>none
 |.ref y=>bif wK s (.sl y cc (wD cf.Φ g cc))then (K (.a (.len y))).map fun _=>plain cf.Φ cc y else none
 |_=>none
def okB (b:Bool):Option (Option Nat):=bif b then some none else none
def FT:List (Nat×Nat)->Nat->Option Nat
 | [],_=>none
 |p::l,d=>bif Nat.beq p.1 d then some p.2 else FT l d
theorem yj:∀{l:List (Nat×Nat)}{d e:Nat},FT l d=some e->(d,e)∈l
 | [],_,_,h=>by cases h
 |p::l,d,e,h=>by
  have h:(bif Nat.beq p.1 d then some p.2 else FT l d)=some e:=h;cases hb:Nat.beq p.1 d with
  |true=>rw[hb]at h;cases h;have:=zab hb;subst this;exact zac ..
  |false=>rw[hb]at h;exact zaa _ (yj h)
def ZL (cf:Cf)(s:SS)(g:Nat)(d:Option Nat)(cc:Nat):Option Nat:=bif cf.Φ.via cc then (match d with|some d=>FT s.sb d|none=>none)else some (wD cf.Φ g cc)
def SN (cf:Cf)(s:SS)(g:Nat)(d:Option Nat)(cc:Nat)(x:SC):Bool:=match x,ZL cf s g d cc with
 |.ref y,some g'=>wK s (.pt y cc g')
 |_,_=>false
def SP (cf:Cf)(s:SS)(g cc:Nat)(x:SC):Bool:=match x with
 |.ref y=>!cf.Φ.via cc&&wK s (.mp y cc (wD cf.Φ g cc))
 |_=>false
def Il:SC->Bool|.c7=>true|_=>false
def Im:SC->Bool|.bg=>true|_=>false
def mB (cf:Cf)(s:SS)(g:Nat)(d:Option Nat)(j:LE)(k:K2)(x:SC):Option (Option Nat):=match k with
 |.int kd=>(match x with|.int k' _=>okB (di k' kd)|_=>none)
 |.nat b=>(match x,d with|.int k' e,some d=>okB (fK k'&&(aX s e&&aX s (((LE.a (.gn d b)).sub e).aO (-1))))|_,_=>none)
 |.pos b=>(match x,d with|.int k' e,some d=>okB (fK k'&&(aX s (e.aO (-1))&&aX s ((LE.a (.gn d b)).sub e)))|_,_=>none)
 |.str=>okB (jO x).isSome
 |.rf=>(match d with|some d=>(match jO x,yg s.ats d x with|some _,some e=>okB (e.same j)|_,_=>none)|none=>none)
 |.vt _=>none
 |.bool=>(match x with|.bool _=>some none|_=>none)
 |.px kd=>(match x with|.px k' _=>okB (pA k' kd)|.xX k' _=>okB (pA k' kd)|_=>none)
 |.sl cc=>Qs cf s g cc x fun _=>some none
 |.AB cc b=>Qs cf s g cc x fun l=>okB (aX s ((LE.k b).sub l))
 |.AD cc b=>(match d with|some d=>Qs cf s g cc x fun l=>okB (aX s ((LE.a (.gn d b)).sub l))|none=>none)
 |.yK cc b=>(match d with|some d=>Qs cf s g cc x fun l=>okB (s.fz.contains d&&(aX s ((LE.a (.gn d b)).sub l)&&aX s (l.sub (.a (.gn d b)))))|none=>none)
 |.AE cc=>(match d with|some d=>(match x6 s.dB d j with|some e=>Qs cf s g cc x fun l=>okB (aX s (e.sub l)&&aX s (l.sub e))|none=>none)|none=>none)
 |.ptr cc=>okB (SN cf s g d cc x)
 |.FJ cc=>okB (Il x||SN cf s g d cc x)
 |.mp cc=>okB (SP cf s g cc x)
 |.FL cc=>okB (Im x||SP cf s g cc x)
 |.bad=>none
section
variable {c:Cx}{T:Tm}{G:GH}{Γ:dI}{ρ ρ':bm}{s s':SS}{cf:Cf}{ops:Array Oper}{i d:Nat}
theorem dG {b:Bool}{o:Option Nat}(h:okB b=some o):b=true/\o=none:=by
 cases b with
 |true=>cases h;exact⟨rfl,rfl⟩
 |false=>cases h
theorem uM {g cc:Nat}{x:SC}{K:LE->Option (Option Nat)}{o:Option Nat}(h:Qs cf s g cc x K=some o)(hΦ:cf.Φ=c.Φ)(hk:Ok c T G Γ ρ s)(dd:Gd):∃ns le,(K le).isSome=true/\le.ev ρ=(ns.length:Int)/\fF c.P c.Φ G Γ (.sl (x.den ρ) cc (gi c.Φ dd (ig ρ g) cc) ns)/\H5 ρ o=jj c.Φ [.sl (x.den ρ) cc (gi c.Φ dd (ig ρ g) cc) ns]:=by
 unfold Qs at h;rw[hΦ]at h;cases hv:c.Φ.via cc with
 |true=>rw[hv]at h;cases h
 |false =>
  rw[hv]at h;simp only[cond_false]at h;split at h
  ·obtain⟨q,hq⟩:=Option.isSome_iff_exists.1 (show (K (.k 0)).isSome=true by cases hK:K (.k 0)with|none=>rw[hK]at h;cases h|some q=>rfl);rw[hq]at h;cases h;exact⟨[],.k 0,by rw[hq];rfl,by rw[LE.bk];rfl,⟨zbo _,.inl ⟨rfl,rfl⟩⟩,by simp[H5,jj,sw]⟩
  ·rename_i y;cases hb:wK s (.sl y cc (wD c.Φ g cc))with
   |false=>rw[hb]at h;cases h
   |true =>
    rw[hb]at h;simp only[cond_true]at h;obtain⟨q,hq⟩:=Option.isSome_iff_exists.1 (show (K (.a (.len y))).isSome=true by cases hK:K (.a (.len y))with|none=>rw[hK]at h;cases h|some q=>rfl);rw[hq]at h;cases h;have ht:=hk.ty (qH hb);have ht:fF c.P c.Φ G Γ (.sl (ρ y).vv cc (ig ρ (wD c.Φ g cc)) (ρ y).ns):=ht;rw[<-rr (d:=dd) hv]at ht;exact⟨(ρ y).ns,.a (.len y),by rw[hq];rfl,by rw[LE.aV];rfl,ht,gC rfl⟩
  ·cases h
theorem Io {g cc:Nat}{dv:Option Nat}{x:SC}(h:SN cf s g dv cc x=true)(hΦ:cf.Φ=c.Φ)(hk:Ok c T G Γ ρ s)(hd:∀v,dv=some v->Γ.gd (ig ρ g)=(ρ v).gg):fF c.P c.Φ G Γ (.pt (x.den ρ) cc (gi c.Φ (Γ.gd (ig ρ g)) (ig ρ g) cc)):=by
 unfold SN at h;split at h
 ·rename_i y g' hg';have ht:=hk.ty (qH h);have ht:fF c.P c.Φ G Γ (.pt (ρ y).vv cc (ig ρ g')):=ht
  have:gi c.Φ (Γ.gd (ig ρ g)) (ig ρ g) cc=ig ρ g':=by
   unfold ZL at hg';rw[hΦ]at hg';cases hv:c.Φ.via cc with
   |false=>rw[hv]at hg';cases hg';exact rr hv
   |true =>
    rw[hv]at hg';simp only[cond_true]at hg';cases dv with
    |none=>cases hg'
    |some v =>
     have:=hk.sat.sb _ (yj hg');have this:(ρ v).gg.sub=ig ρ g':=this;unfold gi;rw[hv,hd v rfl];exact this
  rw[this];exact ht
 ·cases h
theorem Ip {g cc:Nat}{x:SC}(h:SP cf s g cc x=true)(hΦ:cf.Φ=c.Φ)(hk:Ok c T G Γ ρ s)(dd:Gd):fF c.P c.Φ G Γ (.mp (x.den ρ) cc (gi c.Φ dd (ig ρ g) cc)):=by
 unfold SP at h;split at h
 ·rename_i y;rw[hΦ,za,zam]at h;have ht:=hk.ty (qH h.2);have ht:fF c.P c.Φ G Γ (.mp (ρ y).vv cc (ig ρ (wD c.Φ g cc))):=ht;rw[rr h.1];exact ht
 ·cases h
theorem tj {g J:Nat}{dv:Option Nat}{j:LE}{k:K2}{x:SC}{o:Option Nat}(h:mB cf s g dv j k x=some o)(hΦ:cf.Φ=c.Φ)(hk:Ok c T G Γ ρ s)(hd:∀v,dv=some v->Γ.gd (ig ρ g)=(ρ v).gg)(hj:0<=j.ev ρ/\J=(j.ev ρ).toNat) :
  ∃fs,Kv c.Φ (Γ.gd (ig ρ g)) (ig ρ g) J k (x.den ρ) fs/\H5 ρ o=jj c.Φ fs/\∀f∈fs,fF c.P c.Φ G Γ f:=by
 have jQ:∀{b:Bool},okB b=some o->H5 ρ o=0:=fun h=>by rw[(dG h).2];rfl
 cases k with
 |int kd =>
  unfold mB at h;simp only at h;split at h
  ·have:=of_decide_eq_true (dG h).1;subst this;exact⟨[],⟨⟨_,rfl⟩,rfl⟩,jQ h,fun f hf=>by cases hf⟩
  ·cases h
 |nat b =>
  unfold mB at h;simp only at h;split at h
  ·rename_i k' e v;have h1:=(dG h).1;simp only[za]at h1;have:=eu h1.1;subst this;have e1:=av h1.2.1 hk.sat;have e2:=av h1.2.2 hk.sat;rw[LE.aE,LE.au,LE.aV]at e2;have e2:0<=(((ρ v).gg.n b:Nat):Int)-e.ev ρ+-1:=e2;refine⟨[],⟨⟨(e.ev ρ).toNat,?_,?_⟩,rfl⟩,jQ h,fun f hf=>by cases hf⟩
   ·show AV.int .i64 (e.ev ρ)=_;congr 1;exact (zbm e1).symm
   ·rw[hd v rfl];omega
  ·cases h
 |pos b =>
  unfold mB at h;simp only at h;split at h
  ·rename_i k' e v;have h1:=(dG h).1;simp only[za]at h1;have:=eu h1.1;subst this;have e1:=av h1.2.1 hk.sat;have e2:=av h1.2.2 hk.sat;rw[LE.aE]at e1;rw[LE.au,LE.aV]at e2;have e2:0<=(((ρ v).gg.n b:Nat):Int)-e.ev ρ:=e2;refine⟨[],⟨⟨(e.ev ρ).toNat,?_,by omega,?_⟩,rfl⟩,jQ h,fun f hf=>by cases hf⟩
   ·show AV.int .i64 (e.ev ρ)=_;congr 1;exact (zbm (by omega)).symm
   ·rw[hd v rfl];omega
  ·cases h
 |str =>
  have h0:okB (jO x).isSome=some o:=h;obtain⟨q,hq⟩:=Option.isSome_iff_exists.1 (dG h0).1;obtain⟨l,m,e,_⟩:=fE hq ρ;exact⟨[],⟨⟨l,m,e,ly (dG h0).1 e⟩,rfl⟩,jQ h0,fun f hf=>by cases hf⟩
 |rf =>
  unfold mB at h;simp only at h;split at h
  ·rename_i v;split at h
   ·rename_i q e hq ha;have hs:=(dG h).1;obtain⟨l,m,ex,_⟩:=fE hq ρ;obtain⟨x',m1,m2⟩:=qE ha;have hej:e.ev ρ=j.ev ρ:=LE.bc hs ρ
    obtain⟨q1,q2⟩:=(hk.sat.ats _ m1).resolve_right fun hr=>by
     have hr:e.ev ρ<0:=hr.1;have:=hj.1;omega
    have q2:Bu (ρ v).gg (x'.den ρ)=some (e.ev ρ).toNat:=q2;rw[m2 ρ,ex,LE.bc hs ρ,<-hj.2]at q2;exact⟨[],⟨⟨l,m,ex,ly (by rw[hq];rfl) ex,by rw[hd v rfl];exact q2⟩,rfl⟩,jQ h,fun f hf=>by cases hf⟩
   ·cases h
  ·cases h
 |vt b=>cases h
 |bool =>
  unfold mB at h;simp only at h;split at h
  ·cases h;exact⟨[],⟨⟨_,rfl⟩,rfl⟩,rfl,fun f hf=>by cases hf⟩
  ·cases h
 |px kd =>
  unfold mB at h;simp only at h;split at h
  ·have:=of_decide_eq_true (dG h).1;subst this;exact⟨[],⟨⟨_,rfl⟩,rfl⟩,jQ h,fun f hf=>by cases hf⟩
  ·have:=of_decide_eq_true (dG h).1;subst this;exact⟨[],⟨⟨_,rfl⟩,rfl⟩,jQ h,fun f hf=>by cases hf⟩
  ·cases h
 |sl cc =>
  simp only[mB]at h;obtain⟨ns,le,h1,h2,h3,h4⟩:=uM h hΦ hk (Γ.gd (ig ρ g));exact⟨_,⟨ns,rfl⟩,h4,fun f hf=>by rw[List.mem_singleton.1 hf];exact h3⟩
 |AB cc b =>
  simp only[mB]at h;obtain⟨ns,le,h1,h2,h3,h4⟩:=uM h hΦ hk (Γ.gd (ig ρ g));obtain⟨q,hq⟩:=Option.isSome_iff_exists.1 h1;have:=av (dG hq).1 hk.sat;rw[LE.au,LE.bk,h2]at this;exact⟨_,⟨ns,rfl,by omega⟩,h4,fun f hf=>by rw[List.mem_singleton.1 hf];exact h3⟩
 |AD cc b =>
  unfold mB at h;simp only at h;cases dv with
  |none=>cases h
  |some v =>
   simp only at h;obtain⟨ns,le,h1,h2,h3,h4⟩:=uM h hΦ hk (Γ.gd (ig ρ g));obtain⟨q,hq⟩:=Option.isSome_iff_exists.1 h1;have:=av (dG hq).1 hk.sat;rw[LE.au,LE.aV,h2]at this;have this:0<=(((ρ v).gg.n b:Nat):Int)-(ns.length:Int):=this;exact⟨_,⟨ns,rfl,by rw[hd v rfl];omega⟩,h4,fun f hf=>by rw[List.mem_singleton.1 hf];exact h3⟩
 |yK cc b =>
  unfold mB at h;simp only at h;cases dv with
  |none=>cases h
  |some v =>
   simp only at h;obtain⟨ns,le,h1,h2,h3,h4⟩:=uM h hΦ hk (Γ.gd (ig ρ g));obtain⟨q,hq⟩:=Option.isSome_iff_exists.1 h1;have hb:=(dG hq).1;simp only[za]at hb;have a1:=av hb.2.1 hk.sat;have a2:=av hb.2.2 hk.sat;rw[LE.au,LE.aV,h2]at a1 a2;have a1:0<=(((ρ v).gg.n b:Nat):Int)-(ns.length:Int):=a1;have a2:0<=(ns.length:Int)-(((ρ v).gg.n b:Nat):Int):=a2;have hz:=hk.sat.fz v (List.contains_iff_mem.1 hb.1);exact⟨_,⟨ns,rfl,by rw[hd v rfl];exact hz,by rw[hd v rfl];omega⟩,h4,fun f hf=>by rw[List.mem_singleton.1 hf];exact h3⟩
 |AE cc =>
  unfold mB at h;simp only at h;cases dv with
  |none=>cases h
  |some v =>
   simp only at h;cases hl:x6 s.dB v j with
   |none=>rw[hl]at h;cases h
   |some e =>
    rw[hl]at h;simp only at h;obtain⟨ns,le,h1,h2,h3,h4⟩:=uM h hΦ hk (Γ.gd (ig ρ g));obtain⟨q,hq⟩:=Option.isSome_iff_exists.1 h1;have hb:=(dG hq).1;simp only[za]at hb;have a1:=av hb.1 hk.sat;have a2:=av hb.2 hk.sat;rw[LE.au,h2]at a1 a2;obtain⟨j',m1,m2⟩:=qC hl;obtain⟨_,r1,r2⟩:=hk.sat.dB _ m1;have r1:(ρ v).gg.fz=true:=r1;have r2:(((ρ v).gg.fl (j'.ev ρ).toNat:Nat):Int)=e.ev ρ:=r2;rw[m2 ρ,<-hj.2]at r2;exact⟨_,⟨ns,rfl,by rw[hd v rfl];exact r1,by rw[hd v rfl];omega⟩,h4,fun f hf=>by rw[List.mem_singleton.1 hf];exact h3⟩
 |ptr cc =>
  have h0:okB (SN cf s g dv cc x)=some o:=h;exact⟨_,rfl,by rw[jQ h0];rfl,fun f hf=>by rw[List.mem_singleton.1 hf];exact Io (dG h0).1 hΦ hk hd⟩
 |FJ cc =>
  have h0:okB (Il x||SN cf s g dv cc x)=some o:=h;have hb:=(dG h0).1;rw[zaq]at hb;rcases hb with hb|hb
  ·cases x<;>first|(cases hb;done)|skip
   exact⟨[],.inl ⟨rfl,rfl⟩,by rw[jQ h0];rfl,fun f hf=>by cases hf⟩
  ·exact⟨_,.inr rfl,by rw[jQ h0];rfl,fun f hf=>by rw[List.mem_singleton.1 hf];exact Io hb hΦ hk hd⟩
 |mp cc =>
  have h0:okB (SP cf s g cc x)=some o:=h;exact⟨_,rfl,by rw[jQ h0];rfl,fun f hf=>by rw[List.mem_singleton.1 hf];exact Ip (dG h0).1 hΦ hk _⟩
 |FL cc =>
  have h0:okB (Im x||SP cf s g cc x)=some o:=h;have hb:=(dG h0).1;rw[zaq]at hb;rcases hb with hb|hb
  ·cases x<;>first|(cases hb;done)|skip
   exact⟨[],.inl ⟨rfl,rfl⟩,by rw[jQ h0];rfl,fun f hf=>by cases hf⟩
  ·exact⟨_,.inr rfl,by rw[jQ h0];rfl,fun f hf=>by rw[List.mem_singleton.1 hf];exact Ip hb hΦ hk _⟩
 |bad=>cases h
def rD (cf:Cf)(s:SS)(g:Nat)(d:Option Nat)(j:LE):List K2->List SC->Option (List Nat)
 | [],[]=>some []
 |k::ks,x::xs=>match mB cf s g d j k x,rD cf s g d j ks xs with
  |some o,some os=>some (o.toList++os)
  |_,_=>none
 |_,_=>none
theorem n7 {g J:Nat}{dv:Option Nat}{j:LE}(hΦ:cf.Φ=c.Φ)(hk:Ok c T G Γ ρ s)(hd:∀v,dv=some v->Γ.gd (ig ρ g)=(ρ v).gg)(hj:0<=j.ev ρ/\J=(j.ev ρ).toNat):∀{ks:List K2}{xs:List SC}{os:List Nat},rD cf s g dv j ks xs=some os ->
  ∃fs,iz c.Φ (Γ.gd (ig ρ g)) (ig ρ g) J ks (aD ρ xs) fs/\(ji os).ev ρ=(jj c.Φ fs:Nat)/\∀f∈fs,fF c.P c.Φ G Γ f
 | [],[],os,h=>by cases h;exact⟨[],⟨rfl,rfl⟩,by rw[ji,LE.bk];rfl,fun f hf=>by cases hf⟩
 |k::ks,x::xs,os,h=>by
  unfold rD at h;split at h
  ·rename_i o os' h1 h2;cases h;obtain⟨f1,a1,a2,a3⟩:=tj h1 hΦ hk hd hj;obtain⟨f2,b1,b2,b3⟩:=n7 hΦ hk hd hj h2;refine⟨f1++f2,⟨_,_,f1,f2,rfl,rfl,a1,b1⟩,?_,fun f hf=>(List.mem_append.1 hf).elim (a3 f) (b3 f)⟩;rw[iI,<-a2];cases o with
   |none=>simp only[Option.toList,zcz,H5];rw[b2];omega
   |some y =>
    show (ji (y::os')).ev ρ=_;rw[ji,LE.ij,LE.aV,b2];show (jj c.Φ f2:Int)+(((ρ y).ns.sum+(ρ y).ns.length:Nat):Int)=((H5 ρ (some y)+jj c.Φ f2:Nat):Int);simp only[H5];omega
  ·cases h
 | [],_::_,_,h=>by cases h
 |_::_,[],_,h=>by cases h
def Hv (c:Cx)(T:Tm)(G:GH)(Γ:dI)(ops:Array Oper)(i:Nat)(s:SS)(ρ:bm)(K:SS->R):Prop :=
 fI c.P c.n0 c.nt ops i T .e (z 0) G fun T' hp' nx' G'=>hp'=.e/\nx'=z 0/\∃Γ' ρ' s',(K s').Ok/\dh s.nx ρ ρ'/\s.nx<=s'.nx/\Ok c T' G' Γ' ρ' s'
def eG (s:SS)(d:Nat)(v:SV):SS:=⟨s.nx,(d,v)::s.L,s.os,s.ty,s.gs,s.fs,s.bs,s.pw,s.ats,s.dB,s.ne,s.fz,s.sb⟩
theorem Ok.put {v:SV}(h:Ok c T G Γ ρ s)(d:Nat):Ok c (T.put d (v.den ρ)) G Γ ρ (eG s d v):=⟨⟨h.sat.fs,h.sat.bs,h.sat.pw,h.sat.ats,h.sat.dB,h.sat.ne,h.sat.fz,h.sat.sb⟩,h.q.put d (v.den ρ)⟩
def fN (s:SS)(o:SO):SS:=⟨s.nx,s.L,o::s.os,s.ty,s.gs,s.fs,s.bs,s.pw,s.ats,s.dB,s.ne,s.fz,s.sb⟩
def c6 (s:SS)(os:List SO):SS:=⟨s.nx,s.L,os,s.ty,s.gs,s.fs,s.bs,s.pw,s.ats,s.dB,s.ne,s.fz,s.sb⟩
theorem Lo.hv {K:SS->R}(hd:(ae ops i).dst=some d)(hlt:d<c.nt)(h:Lo c T G Γ ops i s ρ fun v s=>K (eG s d v)):Hv c T G Γ ops i s ρ K:=by
 obtain⟨ρ',s',a,n,o,v,h1,h2⟩:=h;exact ba.st h2 hd hlt ⟨rfl,rfl,Γ,ρ',_,h1,a,n,o.put d⟩
def W1 (cf:Cf)(t:TypeId)(d:Nat)(s:SS)(K:SS->R):R:=match (zeroOf cf.P t).bind tg with
 |some v=>(match dY v with|some cs=>fresh s fun b s=>K (eG (fN s (.loc b t cs)) d (sc (.bZ b 0)))|none=>.bad 100 s)
 |none=>.bad 101 s
theorem DT {K:SS->R}{t:TypeId}{cs:List SC}(h:(fresh s (fun b s=>K (eG (fN s (.loc b t cs)) d (sc (.bZ b 0))))).Ok)(hcs:uE s.nx cs=true)(hk:Ok c T G Γ ρ s){b:Nat}(hb:c.n0<=b)(hb':G b=none) :
  ∃Γ' ρ' s',(K s').Ok/\dh s.nx ρ ρ'/\s.nx<=s'.nx/\Ok c (T.put d (.bZ b 0)) (fx G b (.cells .loc t (aD ρ cs).length (aD ρ cs))) Γ' ρ' s':=by
 obtain⟨h1,h2,h3,h4⟩:=az h hk (.n b);refine⟨Γ,_,_,h1,h2,zan _,?_⟩;have e1:(ρ.up s.nx (.n b) s.nx).nn=b:=by rw[h4];rfl
 have e2:aD (ρ.up s.nx (.n b)) cs=aD ρ cs:=lu h2 hcs;have q:=h3.q.AX hb hb' (.loc b t (aD ρ cs)) rfl ⟨aA _ _ _,h3.q.ht.none hb'⟩
 have hq:Q c T (fx G b (.cells .loc t (aD ρ cs).length (aD ρ cs))) Γ ((fN (aC s) (.loc s.nx t cs)).den (ρ.up s.nx (.n b))):=by
  have:(fN (aC s) (.loc s.nx t cs)).den (ρ.up s.nx (.n b))=⟨((aC s).den (ρ.up s.nx (.n b))).L,.loc b t (aD ρ cs)::((aC s).den (ρ.up s.nx (.n b))).os,((aC s).den (ρ.up s.nx (.n b))).eF,((aC s).den (ρ.up s.nx (.n b))).gs⟩:=by
   unfold fN SS.den;simp only[zal,SO.den,e1,e2]
  rw[this];exact q
 have ok1:Ok c T (fx G b (.cells .loc t (aD ρ cs).length (aD ρ cs))) Γ (ρ.up s.nx (.n b)) (fN (aC s) (.loc s.nx t cs)):=⟨⟨h3.sat.fs,h3.sat.bs,h3.sat.pw,h3.sat.ats,h3.sat.dB,h3.sat.ne,h3.sat.fz,h3.sat.sb⟩,hq⟩;have:=ok1.put (v:=sc (.bZ s.nx 0)) d;have e3:(sc (.bZ s.nx 0)).den (ρ.up s.nx (.n b))=.bZ b 0:=by show AV.bZ (ρ.up s.nx (.n b) s.nx).nn 0=_;rw[e1]
 rw[e3]at this;exact this
theorem Iq {a:AV}{x:SC}(h:M7 a=some x)(n:Nat):x.lt n=true:=by
 unfold M7 at h;split at h<;>first|(cases h;done)|(cases h;rfl)
theorem Ir (n:Nat):∀{l:List AV}{xs:List SC},M8 l=some xs->uE n xs=true
 | [],xs,h=>by cases h;rfl
 |a::l,xs,h=>by
  unfold M8 at h;split at h
  ·rename_i x xs' h1 h2;cases h;show (SC.lt n x&&uE n xs')=true;rw[Iq h1,Ir n h2];rfl
  ·cases h
theorem FU {a:AV}{v:SV}{cs:List SC}(h:tg a=some v)(hc:dY v=some cs)(n:Nat):uE n cs=true:=by
 unfold tg at h;split at h
 ·rename_i l;cases hl:M8 l with
  |none=>rw[hl]at h;cases h
  |some xs=>rw[hl]at h;cases h;cases hc;exact Ir n hl
 ·cases h;cases hc
 ·cases hl:M7 a with
  |none=>rw[hl]at h;cases h
  |some x=>rw[hl]at h;cases h;cases hc;show (SC.lt n x&&true)=true;rw[Iq hl];rfl
theorem Qt {t:TypeId}{K:SS->R}(ho:(ae ops i).op=.alloc t)(hg:(ae ops i).guard=none)(hd:(ae ops i).dst=some d)(hlt:d<c.nt)(hP:cf.P=c.P)(h:(W1 cf t d s K).Ok)(hk:Ok c T G Γ ρ s):Hv c T G Γ ops i s ρ K:=by
 unfold W1 at h;rw[hP]at h;cases hz:zeroOf c.P t with
 |none=>rw[hz]at h;cases h
 |some zz =>
  rw[hz]at h;simp only[zcr]at h;cases hv:tg zz with
  |none=>rw[hv]at h;cases h
  |some v =>
   rw[hv]at h;simp only at h;cases hc:dY v with
   |none=>rw[hc]at h;cases h
   |some cs =>
    rw[hc]at h;simp only at h;have e1:=kD hv ρ;have e2:zz.cells=aD ρ cs:=by rw[<-e1];exact gk hc ρ
    refine fI.Qo .loc hg hd hlt ho hz (by rw[e2];exact gj _ _) fun b hb hb'=>⟨rfl,rfl,?_⟩;rw[e2];exact DT h (FU hv hc _) hk hb hb'
def yn (cf:Cf)(t:TypeId)(v:SV)(d:Nat)(s:SS)(K:SS->R):R:=match dY v with
 |some cs=>bif uE s.nx cs then fresh s fun b s=>K (eG (fN s (.loc b t cs)) d (sc (.bZ b 0)))else .bad 102 s
 |none=>.bad 103 s
theorem Qu {t:TypeId}{x:Operand}{v:SV}{K:SS->R}(ho:(ae ops i).op=.box t x)(hg:(ae ops i).guard=none)(hd:(ae ops i).dst=some d)(hlt:d<c.nt)(h:(yn cf t v d s K).Ok)(hk:Ok c T G Γ ρ s)(hx:a9 c.nt T x (v.den ρ)):Hv c T G Γ ops i s ρ K:=by
 unfold yn at h;cases hc:dY v with
 |none=>rw[hc]at h;cases h
 |some cs =>
  rw[hc]at h;simp only at h;cases hl:uE s.nx cs with
  |false=>rw[hl]at h;cases h
  |true =>
   rw[hl]at h;simp only[cond_true]at h;have e2:=gk hc ρ;refine fI.WZ .loc hg hd hlt ho hx (by rw[e2];exact gj _ _) fun b hb hb'=>⟨rfl,rfl,?_⟩;rw[e2];exact DT h hl hk hb hb'
def fT:List SO->Nat->List SC->List SO
 | [],_,_=>[]
 |.loc b el cs::l,x,cs'=>bif Nat.beq b x then .loc b el cs'::l else .loc b el cs::fT l x cs'
 |o::l,x,cs'=>o::fT l x cs'
theorem cz:∀{l:List SO}{x:Nat}{el:TypeId}{cs:List SC}(cs':List SC),jN l x=some (el,cs)->∃p q,l=p++.loc x el cs::q/\fT l x cs'=p++.loc x el cs'::q
 | [],_,_,_,_,h=>by cases h
 |.loc b el0 cs0::l,x,el,cs,cs',h=>by
  have h:(bif Nat.beq b x then some (el0,cs0)else jN l x)=some (el,cs):=h;show ∃p q,SO.loc b el0 cs0::l=p++.loc x el cs::q/\(bif Nat.beq b x then SO.loc b el0 cs'::l else .loc b el0 cs0::fT l x cs')=p++.loc x el cs'::q;cases hb:Nat.beq b x with
  |true =>
   rw[hb]at h;cases h;have:=zab hb;subst this;exact⟨[],l,rfl,rfl⟩
  |false =>
   rw[hb]at h;obtain⟨p,q,h1,h2⟩:=cz cs' h;exact⟨_::p,q,by rw[h1];rfl,by rw[cond_false,h2];rfl⟩
 |.jg y c'::l,x,el,cs,cs',h=>by
  obtain⟨p,q,h1,h2⟩:=cz (l:=l) cs' h;exact⟨.jg y c'::p,q,by rw[h1];rfl,by show SO.jg y c'::fT l x cs'=_;rw[h2];rfl⟩
 |.em y c'::l,x,el,cs,cs',h=>by
  obtain⟨p,q,h1,h2⟩:=cz (l:=l) cs' h;exact⟨.em y c'::p,q,by rw[h1];rfl,by show SO.em y c'::fT l x cs'=_;rw[h2];rfl⟩
 |.ul y c' g'::l,x,el,cs,cs',h=>by
  obtain⟨p,q,h1,h2⟩:=cz (l:=l) cs' h;exact⟨.ul y c' g'::p,q,by rw[h1];rfl,by show SO.ul y c' g'::fT l x cs'=_;rw[h2];rfl⟩
 |.am y c' g'::l,x,el,cs,cs',h=>by
  obtain⟨p,q,h1,h2⟩:=cz (l:=l) cs' h;exact⟨.am y c' g'::p,q,by rw[h1];rfl,by show SO.am y c' g'::fT l x cs'=_;rw[h2];rfl⟩
 |.im y c'::l,x,el,cs,cs',h=>by
  obtain⟨p,q,h1,h2⟩:=cz (l:=l) cs' h;exact⟨.im y c'::p,q,by rw[h1];rfl,by show SO.im y c'::fT l x cs'=_;rw[h2];rfl⟩
 |.bl y c' g'::l,x,el,cs,cs',h=>by
  obtain⟨p,q,h1,h2⟩:=cz (l:=l) cs' h;exact⟨.bl y c' g'::p,q,by rw[h1];rfl,by show SO.bl y c' g'::fT l x cs'=_;rw[h2];rfl⟩
 |.km y c' g' n::l,x,el,cs,cs',h=>by
  obtain⟨p,q,h1,h2⟩:=cz (l:=l) cs' h;exact⟨.km y c' g' n::p,q,by rw[h1];rfl,by show SO.km y c' g' n::fT l x cs'=_;rw[h2];rfl⟩
 |.rm y c' g' n::l,x,el,cs,cs',h=>by
  obtain⟨p,q,h1,h2⟩:=cz (l:=l) cs' h;exact⟨.rm y c' g' n::p,q,by rw[h1];rfl,by show SO.rm y c' g' n::fT l x cs'=_;rw[h2];rfl⟩
 |.kq y c' g' n qq::l,x,el,cs,cs',h=>by
  obtain⟨p,q,h1,h2⟩:=cz (l:=l) cs' h;exact⟨.kq y c' g' n qq::p,q,by rw[h1];rfl,by show SO.kq y c' g' n qq::fT l x cs'=_;rw[h2];rfl⟩
 |.it y m n r st ty::l,x,el,cs,cs',h=>by
  obtain⟨p,q,h1,h2⟩:=cz (l:=l) cs' h;exact⟨.it y m n r st ty::p,q,by rw[h1];rfl,by show SO.it y m n r st ty::fT l x cs'=_;rw[h2];rfl⟩
theorem AY {α:Type}(p q:List α)(a:α):(p++a::q).Perm ((p++q)++[a]):=by
 have:=List.perm_middle (a:=a) (l₁:=p) (l₂:=q);exact this.trans (zcg a (p++q)).symm
def zm (cf:Cf)(t:TypeId)(b o:Nat)(v:SV)(s:SS)(K:SS->R):R:=match jN s.os b,dY v with
 |some (_,cs),some l=>bif (cf.P.info? t).isSome&&(Nat.beq (af cf.P t) l.length&&Nat.ble (o+l.length) cs.length)then K (c6 s (fT s.os b (rn o l cs)))else .bad 104 s
 |_,_=>.bad 105 s
theorem AZ (C l:List AV)(o:Nat):vq C o l=rn o l C:=rfl
theorem Qv {t:TypeId}{x:Nat}{y:Operand}{b o:Nat}{v:SV}{K:SS->R}(ho:(ae ops i).op=.store t (.tmp x) y)(hg:(ae ops i).guard=none)(hd:(ae ops i).dst=none)(hP:cf.P=c.P)(h:(zm cf t b o v s K).Ok)(hk:Ok c T G Γ ρ s)(hx:T.at x=.bZ (ρ b).nn o)(hy:a9 c.nt T y (v.den ρ)):Hv c T G Γ ops i s ρ K:=by
 unfold zm at h;rw[hP]at h;split at h
 ·rename_i el cs l hl hv;cases hb:((c.P.info? t).isSome&&(Nat.beq (af c.P t) l.length&&Nat.ble (o+l.length) cs.length))with
  |false=>rw[hb]at h;cases h
  |true =>
   rw[hb]at h;simp only[cond_true]at h;simp only[za]at hb;obtain⟨b1,b2,b3⟩:=hb;have e2:=gk hv ρ;have hG:=hk.loc hl;have kL:(aD ρ cs).length=cs.length:=by simp[aD]
   have hll:(aD ρ l).length=l.length:=by simp[aD]
   have hle:=aN b3;refine fI.xS (fun e=>by cases e) hg hd ho hx hy b1 rfl (by rw[e2,hll];exact (aj b2).symm) (by rw[e2];exact rz _ _) (by rw[e2];exact gj _ _) hG (by rw[kL,aj b2];exact hle) ⟨rfl,rfl,Γ,ρ,_,h,dh.refl _ _,zad _,?_⟩;rw[e2];obtain⟨p,q,h1,h2⟩:=cz (rn o l cs) hl;have hnm:Γ.m (ρ b).nn=none:=(hk.own (dN hl)).2;have e3:vq (aD ρ cs) o (aD ρ l)=aD ρ (rn o l cs):=(DK (SC.den ρ) o l cs).symm;have e4:(rn o l cs).length=cs.length:=te hle;have hos:(s.den ρ).os=p.map (SO.den ρ)++(SO.den ρ (.loc b el cs))::q.map (SO.den ρ):=by show s.os.map _=_;rw[h1];simp
   have hQ:=hk.q.vu (b:=(ρ b).nn) (G':=fx G (ρ b).nn (.cells .loc el cs.length (aD ρ (rn o l cs)))) (Γ':=Γ) (osA:=p.map (SO.den ρ)++q.map (SO.den ρ)) (o:=SO.den ρ (.loc b el cs)) (o':=SO.den ρ (.loc b el (rn o l cs))) (tys':=[]) (by rw[hos];exact AY _ _ _) (dP (.inl (by rw[hG];rfl))) (fun _ _=>rfl) (fun k h=>dH h) (by rw[aA];rfl)
    (fun _ _ _ h=>by rw[hG]at h;cases h) (fun _ _ _ h=>by rw[hG]at h;cases h) (fun x h=>by rw[hnm]at h;cases h) rfl rfl (.inl rfl) rfl (fun x _ _ h=>by rw[hnm]at h;cases h) (fun _ _=>⟨by rw[aA];simp[aD,e4],hnm⟩) (fun f h=>by cases h)
   rw[e3];refine⟨⟨hk.sat.fs,hk.sat.bs,hk.sat.pw,hk.sat.ats,hk.sat.dB,hk.sat.ne,hk.sat.fz,hk.sat.sb⟩,hQ.iW (fun _ _ h=>h) ⟨[],?_⟩ (fun f h=>h) (fun p h=>h)⟩;show List.Perm _ ((fT s.os b (rn o l cs)).map (SO.den ρ)++[]);rw[h2,zbg,zar,zal];exact (AY _ _ _).symm
 ·cases h
end
end Go.Rd
namespace Go.Rd
open Go.aK Go.RowKit Go.Rt
theorem n8 {C:List AV}{a s k:Nat}(h:k<s):((C.drop a).take s)[k]?=C[a+k]?:=by rw[zbe h,zbb]
theorem tk {X Y:List AV}{a b s:Nat}(h:∀k,k<s->X[a+k]?=Y[b+k]?):(X.drop a).take s=(Y.drop b).take s:=by
 apply zdg;intro k;by_cases hk:k<s
 ·rw[n8 hk,n8 hk];exact h k hk
 ·rw[zbq (by rw[zag];omega),zbq (by rw[zag];omega)]
theorem Is {C l:List AV}{J o sz k n:Nat}(hC:C.length=n*sz)(hJ:J<n)(hl:o+l.length<=sz):((rn (J*sz+o) l C).drop (k*sz)).take sz=if k=J then rn o l ((C.drop (J*sz)).take sz)else (C.drop (k*sz)).take sz:=by
 have h1:(J+1)*sz<=n*sz:=zae _ hJ;rw[zau]at h1;have hle:J*sz+o+l.length<=C.length:=by omega
 by_cases e:k=J
 ·subst e;rw[if_pos rfl];have hlen:((C.drop (k*sz)).take sz).length=sz:=by rw[zag,zas];omega
  apply zdg;intro q;by_cases hq:q<sz
  ·rw[n8 hq,tf hle,tf (by omega),n8 hq];by_cases h2:o<=q/\q<o+l.length
   ·rw[if_pos ⟨by omega,by omega⟩,if_pos h2];congr 1;omega
   ·rw[if_neg (by omega),if_neg h2]
  ·rw[zbq (by rw[zag];omega),zbq (by rw[te (by omega)];omega)]
 ·rw[if_neg e];refine tk fun q hq=>?_;rw[tf hle,if_neg]
  rintro⟨h2,h3⟩
  rcases Nat.lt_or_gt_of_ne e with h|h
  ·have:(k+1)*sz<=J*sz:=zae _ h;rw[zau]at this;omega
  ·have:(J+1)*sz<=k*sz:=zae _ h;rw[zau]at this;omega
section
variable {c:Cx}{T:Tm}{G:GH}{Γ:dI}{ρ ρ':bm}{s s':SS}{cf:Cf}{ops:Array Oper}{i d:Nat}
theorem DU {Φ:Forms}{dd:Gd}{g j:Nat}{ks:List K2}{cs l:List AV}{fs fl:List TF}{o:Nat}(h:iz Φ dd g j ks cs fs)(hl:iz Φ dd g j ((ks.drop o).take l.length) l fl)(hle:o+l.length<=ks.length):∃fs',iz Φ dd g j ks (rn o l cs) fs'/\jj Φ fs'<=jj Φ fs+jj Φ fl/\(∀f∈fs',f∈fs∨f∈fl)/\(o=0/\l.length=ks.length->jj Φ fs'=jj Φ fl):=by
 have hk:ks=ks.take o++((ks.drop o).take l.length++(ks.drop o).drop l.length):=by rw[zdf,zdf]
 have h0:=h;rw[hk]at h;obtain⟨f1,f',e1,w1,w2⟩:=iz.split h;obtain⟨f2,f3,e2,w3,w4⟩:=iz.split w2;have hto:(ks.take o).length=o:=by rw[zag];omega
 have htl:((ks.drop o).take l.length).length=l.length:=by rw[zag,zas];omega
 rw[hto]at w1 w3 w4;rw[htl,zct]at w4;have:=iz.join (iz.join w1 hl) w4;refine⟨(f1++fl)++f3,?_,?_,?_,?_⟩
 ·rw[hk];rw[<-zbd,zct];rw[zct]at this;exact this
 ·rw[e1,e2];simp only[iI];omega
 ·intro f hf;rw[e1,e2];simp only[List.mem_append]at hf ⊢;rcases hf with (hf|hf)|hf
  ·exact .inl (.inl hf)
  ·exact .inr hf
  ·exact .inl (.inr (.inr hf))
 ·rintro⟨rfl,hll⟩
  have hf1:f1=[]:=by
   have:ks.take 0=[]:=rfl;rw[this]at w1;exact w1.2
  have hf3:f3=[]:=by
   have:ks.drop (0+l.length)=[]:=zci (by omega);rw[this]at w4;exact w4.2
  rw[hf1,hf3];simp
theorem It {t:TypeId}{x b J o g cc:Nat}{y:Operand}{v:SV}{l:List SC}{os:List Nat}{L:List Nat}{e:LE}{K:SS->R}(ho:(ae ops i).op=.store t (.tmp x) y)(hg:(ae ops i).guard=none)(hd:(ae ops i).dst=none)(hΦ:cf.Φ=c.Φ)(hk:Ok c T G Γ ρ s)(hK:(K s).Ok)
  (hb:Γ.m b=some (.cells cc (ig ρ g) L)) (hJ:J<L.length) (hu:c.Φ.fV cc=true) (hx:T.at x=.bZ b (J*af c.P (c.Φ.ty cc)+o)) (hy:a9 c.nt T y (v.den ρ)) (hv:dY v=some l) (hi:(c.P.info? t).isSome=true) (hn:af c.P t=l.length) (hle:o+l.length<=(c.Φ.ks cc).length)
  (hc:rD cf s g (ghost s.gs g) e (((c.Φ.ks cc).drop o).take l.length) l=some os) (he:0<=e.ev ρ/\J=(e.ev ρ).toNat) (hos:os=[]∨(o=0/\l.length=(c.Φ.ks cc).length/\(ji os).ev ρ<=WU)):Hv c T G Γ ops i s ρ K:=by
 obtain⟨d1,d2,size,C,d3,d4,d5⟩:=hk.q.ht.b _ _ hb;have e2:=gk hv ρ;have hll:(aD ρ l).length=l.length:=by simp[aD]
 obtain⟨fl,c1,c2,c3⟩:=n7 hΦ hk (fun dv h=>bz h hk) he hc;have hL:L[J]?=some L[J]:=zaj hJ;have hLW:=d2 hu _ (zaw hL);obtain⟨fs0,w1,w2,w3⟩:=d5 J _ hL
 have hks:(c.Φ.ks cc).length=af c.P (c.Φ.ty cc):=by
  have h1:(J+1)*af c.P (c.Φ.ty cc)<=L.length*af c.P (c.Φ.ty cc):=zae _ hJ;rw[zau]at h1;rw[<-w1.len,zag,zas];omega
 have hfit:J*af c.P (c.Φ.ty cc)+o+l.length<=C.length:=by
  have h1:(J+1)*af c.P (c.Φ.ty cc)<=L.length*af c.P (c.Φ.ty cc):=zae _ hJ;rw[zau]at h1;omega
 refine fI.xS (fun e=>by cases e) hg hd ho hx hy hi rfl (by rw[e2,hll,hn]) (by rw[e2];exact rz _ _) (by rw[e2];exact gj _ _) d3 (by rw[hn];exact hfit) ⟨rfl,rfl,updΓ Γ b (.cells cc (ig ρ g) L),ρ,s,hK,dh.refl _ _,zad _,hk.sat,?_⟩;rw[e2,AZ]
 have hQ:=hk.q.Qr (x:=.cells cc (ig ρ g) L) (y:=.cells cc (ig ρ g) L) (tys':=[]) (g':=.cells .data (c.Φ.ty cc) size (rn (J*af c.P (c.Φ.ty cc)+o) (aD ρ l) C)) hb (by show (!c.Φ.fV cc)=false;rw[hu];rfl) (oq.refl _) (fun el size' C' h=>by rw[d3]at h;cases h;exact⟨_,rfl⟩)
  (fun hr hl'=>⟨d1,d2,size,_,aA _ _ _,by rw[te (by rw[hll];exact hfit)];exact d4,fun k m hkm=>?_⟩) (fun f h=>by cases h) (fun _ _ h=>by cases h)
 ·exact hQ.iW (fun _ _ h=>h) ⟨[],by simp⟩ (fun f h=>h) (fun p h=>h)
 ·rw[Is d4 hJ (by rw[hll];omega)];by_cases ek:k=J
  ·subst ek;rw[if_pos rfl];rw[hL]at hkm;cases hkm;obtain⟨fs',p1,p2,p3,p4⟩:=DU (o:=o) w1 (l:=aD ρ l) (by rw[hll];exact c1) (by rw[hll];exact hle);refine eY.le ⟨fs',p1,?_,fun f hf=>(p3 f hf).elim (w3 f) (c3 f)⟩ hr hl' d1.1;rcases hos with rfl|⟨ho0,hlk,hW⟩
   ·rw[ji,LE.bk]at c2;have:jj c.Φ fl=0:=by omega
    omega
   ·have:=p4 ⟨ho0,by rw[hll];exact hlk⟩;rw[this,hLW];omega
  ·rw[if_neg ek];exact (d5 k m hkm).le hr hl' d1.1
def FV (s:SS)(os:List Nat)(o n m:Nat):Bool:=os.isEmpty||(Nat.beq o 0&&(Nat.beq n m&&aX s ((LE.k WU).sub (ji os))))
theorem DV {os:List Nat}{o n m:Nat}(h:FV s os o n m=true)(hs:Sat ρ s):os=[]∨(o=0/\n=m/\(ji os).ev ρ<=WU):=by
 unfold FV at h;simp only[zaq,za]at h;rcases h with h|⟨h1,h2,h3⟩
 ·exact .inl (List.isEmpty_iff.1 h)
 ·refine .inr ⟨aj h1,aj h2,?_⟩;have:=av h3 hs;rw[LE.au,LE.bk]at this;omega
def SQ (cf:Cf)(t:TypeId)(cc g:Nat)(e:LE)(o:Nat)(v:SV)(s:SS)(K:SS->R):R:=match dY v with
 |some l=>bif cf.Φ.fV cc&&((cf.P.info? t).isSome&&(Nat.beq (af cf.P t) l.length&&Nat.ble (o+l.length) (cf.Φ.ks cc).length))then
  (match rD cf s g (ghost s.gs g) e (((cf.Φ.ks cc).drop o).take l.length) l with
   |some os=>bif FV s os o l.length (cf.Φ.ks cc).length then K s else .bad 106 s
   |none=>.bad 107 s)
  else .bad 108 s
 |none=>.bad 109 s
def V6 (cf:Cf)(t:TypeId)(x v:SV)(s:SS)(K:SS->R):R:=match x with
 |.v false [.bZ b o]=>zm cf t b o v s K
 |.v false [.py y e sz o]=>(match oJ s.ty y with
  |some (cc,g)=>bif DP s y e&&Nat.beq sz (af cf.P (cf.Φ.ty cc))then SQ cf t cc g e o v s K else .bad 110 s
  |none=>.bad 111 s)
 |.v false [.ref y]=>(match pC s.ty y with|some (cc,g)=>SQ cf t cc g (.k 0) 0 v s K|none=>.bad 112 s)
 |.v false [.vb y o]=>(match pC s.ty y with|some (cc,g)=>SQ cf t cc g (.k 0) o v s K|none=>.bad 112 s)
 |_=>.bad 113 s
theorem Iu {t:TypeId}{x:Nat}{y:Operand}{u v:SV}{K:SS->R}(ho:(ae ops i).op=.store t (.tmp x) y)(hg:(ae ops i).guard=none)(hd:(ae ops i).dst=none)(hP:cf.P=c.P)(hΦ:cf.Φ=c.Φ)(h:(V6 cf t u v s K).Ok)(hk:Ok c T G Γ ρ s)(hx:T.at x=u.den ρ)(hy:a9 c.nt T y (v.den ρ)):Hv c T G Γ ops i s ρ K:=by
 have typed:∀{cc g o:Nat} {e:LE} {b J:Nat} {L:List Nat},(SQ cf t cc g e o v s K).Ok->0<=e.ev ρ->J=(e.ev ρ).toNat->(c.Φ.fV cc=true->Γ.m b=some (.cells cc (ig ρ g) L)/\J<L.length/\T.at x=.bZ b (J*af c.P (c.Φ.ty cc)+o))->Hv c T G Γ ops i s ρ K:=fun {cc g o e b J L} h he hJ hh=>by
  unfold SQ at h;rw[hP,hΦ]at h;cases hc:dY v with
  |none=>rw[hc]at h;cases h
  |some l =>
   rw[hc]at h;simp only at h;cases hb:(c.Φ.fV cc&&((c.P.info? t).isSome&&(Nat.beq (af c.P t) l.length&&Nat.ble (o+l.length) (c.Φ.ks cc).length)))with
   |false=>rw[hb]at h;cases h
   |true =>
    rw[hb]at h;simp only[cond_true]at h;simp only[za]at hb;obtain⟨b1,b2,b3,b4⟩:=hb;obtain⟨q1,q2,q3⟩:=hh b1;cases kL:rD cf s g (ghost s.gs g) e (((c.Φ.ks cc).drop o).take l.length) l with
    |none=>rw[kL]at h;cases h
    |some os =>
     rw[kL]at h;simp only at h;cases hos:FV s os o l.length (c.Φ.ks cc).length with
     |false=>rw[hos]at h;cases h
     |true =>
      rw[hos]at h;exact It ho hg hd hΦ hk h q1 q2 b1 q3 hy hc b2 (aj b3) (aN b4) kL ⟨he,hJ⟩ (DV hos hk.sat)
 unfold V6 at h;split at h
 ·exact Qv ho hg hd hP h hk hx hy
 ·rename_i q e sz o;cases hf:oJ s.ty q with
  |none=>rw[hf]at h;cases h
  |some p =>
   obtain⟨cc,g⟩:=p;rw[hf]at h;simp only at h;rw[hP,hΦ]at h;cases hb:(DP s q e&&Nat.beq sz (af c.P (c.Φ.ty cc)))with
   |false=>rw[hb]at h;cases h
   |true =>
    rw[hb]at h;simp only[cond_true]at h;rw[za]at hb;obtain⟨cc',g',b0,o0,cp0,r1,r2,r3,r4,r5⟩:=ru hb.1 hk;rw[hf]at r1;simp only[Option.some.injEq,Prod.mk.injEq]at r1;obtain⟨rfl,rfl⟩:=r1;have hsz:=aj hb.2
    have hu:c.Φ.fV cc=true:=by
     have h':=h;unfold SQ at h';rw[hΦ]at h';cases hu:c.Φ.fV cc with
     |true=>rfl
     |false =>
      rw[hu]at h';cases hc:dY v with
      |none=>rw[hc]at h';cases h'
      |some l=>rw[hc]at h';cases h'
    obtain⟨_,ht⟩:=yf r5 hu;rcases ht with ⟨_,h0⟩|⟨b,cap,L,size,C,q1,q2,q3,q4,q5,q6⟩
    ·rw[h0]at r4;simp at r4
    ·refine typed (b:=b) (J:=(e.ev ρ).toNat) (L:=L) h r3 rfl fun _=>⟨q2,by have:=jK q3;omega,?_⟩;rw[hx,hsz];show pz (ρ q).vv _=_;rw[me q1,zap]
 ·rename_i q;cases hf:pC s.ty q with
  |none=>rw[hf]at h;cases h
  |some p =>
   obtain⟨cc,g⟩:=p;rw[hf]at h;obtain⟨b,L,q1,q2,q3⟩:=hk.ty (jt hf);refine typed (b:=b) (J:=0) (L:=L) h (by rw[LE.bk];exact zby _) (by rw[LE.bk];rfl) fun _=>⟨q2,q3,?_⟩;rw[hx,zbw,zbt];exact q1
 ·rename_i q o;cases hf:pC s.ty q with
  |none=>rw[hf]at h;cases h
  |some p =>
   obtain⟨cc,g⟩:=p;rw[hf]at h;obtain⟨b,L,q1,q2,q3⟩:=hk.ty (jt hf);refine typed (b:=b) (J:=0) (L:=L) h (by rw[LE.bk];exact zby _) (by rw[LE.bk];rfl) fun _=>⟨q2,q3,?_⟩;rw[hx,zbw];show mz (ρ q).vv o=_;rw[show (ρ q).vv=.bZ b 0 from q1];rfl
 ·cases h
end
end Go.Rd
namespace Go.Rt
open Go.aK Go.RowKit
def C1 (v:AV):Prop:=nf v/\sK v=true
def CL (l:List AV):Prop:=∀v∈l,C1 v
theorem kG:CL []:=fun v h=>by simp at h
theorem CL.nf {l:List AV}(h:CL l):nW l:=fun v hv=>(h v hv).1
theorem CL.flat {l:List AV}(h:CL l):flat l=true:=Ax fun v hv=>(h v hv).2
theorem Qw {v:AV}(h:Rd.cD v=true):C1 v:=by
 cases v<;>first|(cases h;done)|skip
 ·exact⟨nX,rfl⟩
 ·exact⟨lW,rfl⟩
 ·exact⟨nY,rfl⟩
 ·exact⟨jf _ _ _ _,rfl⟩
 ·exact⟨lX _ _,rfl⟩
 ·exact⟨xO _,rfl⟩
section
variable {c:Cx}{ops:Array Oper}{i m d f:Nat}{T:Tm}{G G':GH}{Γ Γ':dI}{st st':St}{v u:AV}{P:Program}{Φ:Forms}{n0 nt:Nat}
theorem uN {f:TF}(h:fF P Φ G Γ f):Rd.cD f.v=true:=Rd.th (c:=⟨P,Φ,0,0,[],[],G,Γ⟩) h
theorem Kv.c1 {dd:Gd}{g j:Nat}{k:K2}{f:List TF}(h:Kv Φ dd g j k v f)(hf:∀x∈f,fF P Φ G Γ x):C1 v:=by
 have one:∀x,f=[x]->x.v=v->C1 v:=fun x e ev=>by subst e;subst ev;exact Qw (uN (hf x (zbr _)))
 cases k with
 |int k=>obtain⟨⟨z,rfl⟩,_⟩:=h;exact⟨lV _ _,rfl⟩
 |nat b=>obtain⟨⟨n,rfl,_⟩,_⟩:=h;exact⟨lV _ _,rfl⟩
 |pos b=>obtain⟨⟨n,rfl,_⟩,_⟩:=h;exact⟨lV _ _,rfl⟩
 |str=>obtain⟨⟨l,n,rfl,_⟩,_⟩:=h;exact⟨jG _ _,rfl⟩
 |rf=>obtain⟨⟨l,n,rfl,_⟩,_⟩:=h;exact⟨jG _ _,rfl⟩
 |vt b=>obtain⟨⟨l,n,rfl,_⟩,_⟩:=h;exact⟨jG _ _,rfl⟩
 |bool=>obtain⟨⟨b,rfl⟩,_⟩:=h;exact⟨jr _,rfl⟩
 |px k=>obtain⟨⟨b,rfl⟩,_⟩:=h;exact⟨qv _ _,rfl⟩
 |sl c=>obtain⟨ns,h⟩:=h;exact one _ h rfl
 |AB c b=>obtain⟨ns,h,_⟩:=h;exact one _ h rfl
 |AD c b=>obtain⟨ns,h,_⟩:=h;exact one _ h rfl
 |yK c b=>obtain⟨ns,h,_⟩:=h;exact one _ h rfl
 |AE c=>obtain⟨ns,h,_⟩:=h;exact one _ h rfl
 |ptr c=>exact one _ h rfl
 |FJ c=>rcases h with ⟨rfl,_⟩|h
        ·exact⟨nX,rfl⟩
        ·exact one _ h rfl
 |mp c=>exact one _ h rfl
 |FL c=>rcases h with ⟨rfl,_⟩|h
        ·exact⟨nY,rfl⟩
        ·exact one _ h rfl
 |bad=>exact h.elim
theorem iz.cl {dd:Gd}{g j:Nat}:∀{ks:List K2}{cs:List AV}{fs:List TF},iz Φ dd g j ks cs fs->(∀f∈fs,fF P Φ G Γ f)->CL cs
 | [],_,_,⟨h,_⟩,hf=>by subst h;exact kG
 |k::ks,_,_,⟨v,cs',f,fs',h1,h2,h3,h4⟩,hf=>by
  subst h1 h2;intro x hx;rcases List.mem_cons.1 hx with rfl|hx
  ·exact h3.c1 fun y hy=>hf y (zbz _ hy)
  ·exact iz.cl h4 (fun y hy=>hf y (zbx _ hy)) x hx
theorem eY.cl {m cc g j:Nat}{cs:List AV}(h:eY P Φ G Γ m cc g j cs):CL cs:=by
 obtain⟨fs,h1,_,h3⟩:=h;exact h1.cl h3
theorem uO {sz b o len cap size:Nat}{wr:BK}{el:TypeId}{C:List AV}(hv:v=.dx b o len cap)(hb:G b=some (.cells wr el size C))(hle:o+len*sz<=C.length)(hn:CL ((C.drop o).take (len*sz))) :
  Aw P n0 nt T .e (z 0) G sz len v ((C.drop o).take (len*sz)):=by
 subst hv;have hlen:((C.drop o).take (len*sz)).length=len*sz:=by rw[zag,zas];omega
 refine⟨hlen,hn.nf,hn.flat,fun B w0 ι a w hs=>⟨by simp[ak,Builtin.lenOf],?_⟩⟩;simp only[ak];refine kV (by rw[aw,hlen]) fun j hj=>?_
 rw[iF hs hb _ (by omega) (fun _ he=>by
  have:=(hn _ (zaw (i:=j) (by rw[zbe (by first|exact hj|(rw[aw,hlen]at hj;exact hj)),zbb];exact he))).2
  cases this),bx,zbe hj,zbb]
theorem Iv {e n o j:Nat}{C:List AV}(hj:j<n)(hle:o+n*e<=C.length):(((C.drop o).take (n*e)).drop (j*e)).take e=(C.drop (o+j*e)).take e:=by
 have h1:(j+1)*e<=n*e:=zae _ hj;rw[zau]at h1;rw[zec,zex,zct,zch (by omega)]
theorem uP {e n:Nat}{E:List AV}(hlen:E.length=n*e)(hE:∀j,j<n->CL ((E.drop (j*e)).take e)):CL E:=fun x hx=>by
 obtain⟨k,hk,rfl⟩:=List.getElem_of_mem hx;have hk':=hk;rw[hlen]at hk
 have hpos:0<e:=by
  rcases Nat.eq_zero_or_pos e with h0|h0
  ·rw[h0]at hk;omega
  ·exact h0
 have hj:k/e<n:=Nat.div_lt_of_lt_mul (by rw[zcq];exact hk);have hd:=zes k e;have hm:=Nat.mod_lt k hpos;rw[zcq]at hd;refine hE (k/e) hj _ ?_;refine zaw (i:=k%e) ?_;rw[zbe hm,zbb,hd];exact zaj hk'
theorem DW {cc g:Nat}{ns:List Nat}{b o cap size:Nat}{wr:BK}{el:TypeId}{C:List AV}(hv:v=.dx b o ns.length cap)(hb:G b=some (.cells wr el size C))(hle:o+ns.length*af P (Φ.ty cc)<=C.length)(hel:∀j m,ns[j]?=some m->eY P Φ G Γ m cc g j ((C.drop (o+j*af P (Φ.ty cc))).take (af P (Φ.ty cc)))) :
  ∃E,Aw P n0 nt T .e (z 0) G (af P (Φ.ty cc)) ns.length v E/\CL E/\∀j m,ns[j]?=some m->eY P Φ G Γ m cc g j ((E.drop (j*af P (Φ.ty cc))).take (af P (Φ.ty cc))):=by
 have hE:∀j m,ns[j]?=some m->eY P Φ G Γ m cc g j ((((C.drop o).take (ns.length*af P (Φ.ty cc))).drop (j*af P (Φ.ty cc))).take (af P (Φ.ty cc))):=fun j m hj=>by
  rw[Iv (List.getElem?_eq_some_iff.1 hj).1 hle];exact hel j m hj
 have kL:=uP (n:=ns.length) (e:=af P (Φ.ty cc)) (E:=(C.drop o).take (ns.length*af P (Φ.ty cc))) (by rw[zag,zas];omega) fun j hj=>(hE j _ (zaj hj)).cl;exact⟨_,uO hv hb hle kL,kL,hE⟩
theorem fF.src {cc g:Nat}{ns:List Nat}(h:fF P Φ G Γ (.sl v cc g ns))(ht:HT P Φ G Γ):∃E,Aw P n0 nt T .e (z 0) G (af P (Φ.ty cc)) ns.length v E/\CL E/\∀j m,ns[j]?=some m->eY P Φ G Γ m cc g j ((E.drop (j*af P (Φ.ty cc))).take (af P (Φ.ty cc))):=by
 obtain⟨_,h⟩:=h;rcases h with ⟨rfl,rfl⟩|⟨rfl,h⟩|⟨b,cap,L,size0,C0,h1,h2,h3,_⟩
 ·exact⟨[],qy rfl,kG,fun j m hj=>by simp at hj⟩
 ·cases h with
  |nil=>exact⟨[],qy rfl,kG,fun j m hj=>by simp at hj⟩
  |@emp _ b o cp hu=>exact⟨[],⟨by simp,gG,rfl,fun B w0 ι a w hs=>⟨by simp[ak,Builtin.lenOf],by simp only[ak];exact kV (l:=aq ι []) (by simp[aq]) fun j hj=>by simp at hj⟩⟩,kG,fun j m hj=>by simp at hj⟩
  |aY hb hu hl h=>exact DW rfl hb hl fun j m hj=>(h j m hj).el ht.z.1 j
 ·obtain⟨_,_,size,C,q1,q2,q3⟩:=ht.b _ _ h2;have hle:=jK h3;refine DW h1 q1 (by rw[q2,zap];exact zae _ hle) fun j m hj=>?_;rw[zap];refine q3 j m ?_;have hlt:j<ns.length:=(List.getElem?_eq_some_iff.1 hj).1;rw[h3,zck,if_pos hlt]at hj;exact hj
theorem fF.W2 {cc g e:Nat}{ns:List Nat}(h:fF P Φ G Γ (.sl v cc g ns))(hu:Φ.fV cc=true)(ht:HT P Φ G Γ)(he:e<=ns.length):∃E,Aw P n0 nt T .e (z 0) G (af P (Φ.ty cc)) (ns.drop e).length (Rd.HR v e (af P (Φ.ty cc))) E/\CL E/\(∀m∈ns,m=WU)/\∀j m,(ns.drop e)[j]?=some m->∃j',eY P Φ G Γ m cc g j' ((E.drop (j*af P (Φ.ty cc))).take (af P (Φ.ty cc))):=by
 obtain⟨_,h⟩:=h
 have nl:∀{x:AV},x=.ab∨(∃b o cp,x=.dx b o 0 cp)->ns=[]->Rd.HR v e (af P (Φ.ty cc))=x->∃E,Aw P n0 nt T .e (z 0) G (af P (Φ.ty cc)) (ns.drop e).length (Rd.HR v e (af P (Φ.ty cc))) E/\CL E/\(∀m∈ns,m=WU)/\∀j m,(ns.drop e)[j]?=some m->∃j',eY P Φ G Γ m cc g j' ((E.drop (j*af P (Φ.ty cc))).take (af P (Φ.ty cc))):=by
  rintro x hx rfl hv
  rw[hv];refine⟨[],?_,kG,fun m hm=>(by cases hm),fun j m hj=>by simp at hj⟩;rcases hx with rfl|⟨b,o,cp,rfl⟩
  ·rw[List.drop_nil];exact qy rfl
  ·rw[List.drop_nil];exact⟨by simp,gG,rfl,fun B w0 ι a w hs=>⟨by simp[ak,Builtin.lenOf],by simp only[ak];exact kV (l:=aq ι []) (by simp[aq]) fun j hj=>by simp at hj⟩⟩
 rcases h with ⟨rfl,rfl⟩|⟨rfl,h⟩|⟨b,cap,L,size0,C0,h1,h2,h3,h4,h5,h6⟩
 ·exact nl (.inl rfl) rfl rfl
 ·cases h with
  |nil=>exact nl (.inl rfl) rfl rfl
  |@emp _ b o cp hu'=>rw[hu]at hu';cases hu'
  |aY hb hu' hl h=>rw[hu]at hu';cases hu'
 ·obtain⟨_,hw,size,C,q1,q2,q3⟩:=ht.b _ _ h2;have hle:=jK h3;have hWU:∀m∈ns,m=WU:=fun m hm=>hw hu m (by rw[h3]at hm;exact zds hm)
  have hns:∀j m,(ns.drop e)[j]?=some m->L[e+j]?=some m:=fun j m hj=>by
   rw[zbb]at hj;have hlt:e+j<ns.length:=(List.getElem?_eq_some_iff.1 hj).1;rw[h3,zck,if_pos hlt]at hj;exact hj
  have hlen:(ns.drop e).length=ns.length-e:=zas;by_cases hc:cap=e
  ·have h0:(ns.drop e).length=0:=by rw[hlen];omega
   have hn:ns.drop e=[]:=List.eq_nil_of_length_eq_zero h0;rw[hn,h1]
   have hv:Rd.HR (.dx b 0 ns.length cap) e (af P (Φ.ty cc))=.dx b 0 0 (cap-e):=by
    unfold Rd.HR;simp only;have:Nat.beq cap e=true:=by rw[hc];exact zcm e
    rw[this,show ns.length-e=0 by omega];rfl
   rw[hv];refine⟨[],⟨by simp,gG,rfl,fun B w0 ι a w hs=>⟨by simp[ak,Builtin.lenOf],by simp only[ak];exact kV (l:=aq ι []) (by simp[aq]) fun j hj=>by simp at hj⟩⟩,kG,hWU,fun j m hj=>by simp at hj⟩
  ·have hv:Rd.HR v e (af P (Φ.ty cc))=.dx b (e*af P (Φ.ty cc)) (ns.drop e).length (cap-e):=by
     rw[h1,hlen];unfold Rd.HR;simp only
     have:Nat.beq cap e=false:=by
      cases hb:Nat.beq cap e with
      |true=>exact absurd (zab hb) hc
      |false=>rfl
     rw[this,cond_false,zap]
   have hel:∀j m,(ns.drop e)[j]?=some m->eY P Φ G Γ m cc g (e+j) ((C.drop (e*af P (Φ.ty cc)+j*af P (Φ.ty cc))).take (af P (Φ.ty cc))):=fun j m hj=>by
    rw[<-zbh];exact q3 _ m (hns j m hj)
   have hroom:e*af P (Φ.ty cc)+(ns.drop e).length*af P (Φ.ty cc)<=C.length:=by
    rw[q2,<-zbh];exact zae _ (by rw[hlen];omega)
   have hE:∀j m,(ns.drop e)[j]?=some m->eY P Φ G Γ m cc g (e+j) ((((C.drop (e*af P (Φ.ty cc))).take ((ns.drop e).length*af P (Φ.ty cc))).drop (j*af P (Φ.ty cc))).take (af P (Φ.ty cc))):=fun j m hj=>by
    rw[Iv (List.getElem?_eq_some_iff.1 hj).1 hroom];exact hel j m hj
   have kL:=uP (n:=(ns.drop e).length) (e:=af P (Φ.ty cc)) (E:=(C.drop (e*af P (Φ.ty cc))).take ((ns.drop e).length*af P (Φ.ty cc))) (by have hr:=hroom;simp only[zag,zas]at hr ⊢;omega) fun j hj=>(hE j _ (zaj hj)).cl;exact⟨_,uO hv q1 hroom kL,kL,hWU,fun j m hj=>⟨_,hE j m hj⟩⟩
theorem wL {C l:List AV}{p:Nat}(h:p=C.length):nA C p l=C++l:=by
 subst h;unfold nA;rw[zcl,zci (by omega),zbg]
theorem n8 {C:List AV}{a s k:Nat}(h:k<s):((C.drop a).take s)[k]?=C[a+k]?:=Rd.n8 h
theorem Q.FW (hq:Q c T G Γ st){cc:Nat}{ms ns:List Nat}{E2:List AV}{osA:List Own}(ho:st.os.Perm (osA++[.jg v cc ms]))(hrw:c.Φ.raw cc=false)(hsz:0<af c.P (c.Φ.ty cc))(hE2:E2.length=ns.length*af c.P (c.Φ.ty cc))(kL:CL E2)(hel:∀j m,ns[j]?=some m->eY c.P c.Φ G Γ m cc 0 (ms.length+j) ((E2.drop (j*af c.P (c.Φ.ty cc))).take (af c.P (c.Φ.ty cc))))(hlim:ms.length+ns.length<=ma) :
  ∃E1,Ext G v (c.Φ.ty cc) (af c.P (c.Φ.ty cc)) ms.length E1/\nW E1/\(∀G' v',KC c.n0 G G' v v' (c.Φ.ty cc) (af c.P (c.Φ.ty cc)) ms.length ns.length E1 E2->∃Γ',Q c T G' Γ' ⟨st.L,osA++[.jg v' cc (ms++ns)],.sl v' cc 0 (ms++ns)::st.eF,st.gs⟩):=by
 have hown:df c.P c.Φ G Γ (.jg v cc ms):=hq.own _ (ho.mem_iff.2 (by simp));obtain⟨huni,hlm,hown'⟩:=hown
 obtain⟨E1,t1,t2,t3,t4⟩:∃E1,Ext G v (c.Φ.ty cc) (af c.P (c.Φ.ty cc)) ms.length E1/\CL E1/\E1.length=ms.length*af c.P (c.Φ.ty cc)/\(∀j m,ms[j]?=some m->eY c.P c.Φ G Γ m cc 0 j ((E1.drop (j*af c.P (c.Φ.ty cc))).take (af c.P (c.Φ.ty cc)))):=by
  rcases hown' with ⟨h1,rfl⟩|⟨b,cap,size,C,h1,h2,h3,h4,h5⟩
  ·exact⟨[],.inl ⟨h1,rfl,rfl⟩,kG,by simp,fun j m hj=>(by simp at hj)⟩
  ·obtain⟨_,_,size',C',q1,q2,q3⟩:=hq.ht.b _ _ h2;rw[h3]at q1;simp only[Option.some.injEq,Gh.cells.injEq,true_and]at q1;obtain⟨_,rfl⟩:=q1;exact⟨C,.inr ⟨b,0,cap,size,C,h1,h3,by omega,by rw[zca,<-q2,zcl],by omega,h5⟩,uP q2 fun j hj=>(q3 j _ (zaj hj)).cl,q2,q3⟩
 refine⟨E1,t1,t2.nf,fun G' v' ha'=>?_⟩
 have fin:∀(b c' size:Nat),G'=fx G b (.cells .data (c.Φ.ty cc) size (E1++E2))->v'=.dx b 0 (ms.length+ns.length) c'->c'*af c.P (c.Φ.ty cc)<=size->ms.length+ns.length<=c'->((Own.jg v cc ms).aY=some b∨G b=none)->(Γ.m b=some (.cells cc 0 ms)∨Γ.m b=none)->((G b).isSome=true∨c.n0<=b)->(∀el size C,G b≠some (.cells .raw el size C))->(∀el size' C,G b=some (.cells .data el size' C)->el=c.Φ.ty cc/\size'=size) ->
   ∃Γ',Q c T G' Γ' ⟨st.L,osA++[.jg v' cc (ms++ns)],.sl v' cc 0 (ms++ns)::st.eF,st.gs⟩:=by
  intro b c' size hG hv hcs hlc hob hΓ hgr hraw hdat;subst hG hv;have hll:(ms++ns).length=ms.length+ns.length:=zak;refine⟨updΓ Γ b (.cells cc 0 (ms++ns)),?_⟩
  have:=hq.vu (b:=b) (G':=fx G b (.cells .data (c.Φ.ty cc) size (E1++E2))) (Γ':=updΓ Γ b (.cells cc 0 (ms++ns))) (o':=.jg (.dx b 0 (ms.length+ns.length) c') cc (ms++ns)) (tys':=[.sl (.dx b 0 (ms.length+ns.length) c') cc 0 (ms++ns)]) ho (dP hgr) (fun k h=>updΓ_ne h) (fun k h=>dH h) (by rw[aA];rfl) hraw (fun el size' C' h=>⟨E1++E2,by obtain⟨r1,r2⟩:=hdat _ _ _ h;subst r1 r2;exact aA _ _ _⟩)
   (fun x h=>by
    rcases hΓ with h0|h0
    ·rw[h0]at h;cases h;exact⟨_,updΓ_same _ _ _,rfl,rfl,ns,rfl⟩
    ·rw[h0]at h;cases h) rfl rfl hob rfl
   (fun x hr hl h=>by
    rw[updΓ_same]at h;cases h;refine⟨⟨hq.ht.z.2,hrw⟩,fun h=>(by rw[huni]at h;cases h),size,E1++E2,aA _ _ _,by rw[zak,t3,hE2,hll,zbh],fun k m hk=>?_⟩;by_cases hlt:k<ms.length
    ·have h1:(k+1)*af c.P (c.Φ.ty cc)<=ms.length*af c.P (c.Φ.ty cc):=zae _ hlt;rw[zau]at h1;rw[zdb (by omega),zco (by rw[zas];omega)];rw[zat hlt]at hk;exact (t4 k m hk).le hr hl hq.ht.z.2
    ·rw[zax (by omega)]at hk;have h1:k*af c.P (c.Φ.ty cc)=ms.length*af c.P (c.Φ.ty cc)+(k-ms.length)*af c.P (c.Φ.ty cc):=by rw[<-zbh];congr 1;omega
     rw[h1,<-t3,List.drop_append];rw[zci (by omega),zcz,zcu];have:=hel _ m hk;rw[show ms.length+(k-ms.length)=k by omega]at this
     exact this.le hr hl hq.ht.z.2)
   (fun _ _=>⟨huni,by rw[hll];exact hlim,.inr ⟨b,c',size,E1++E2,by rw[hll],updΓ_same _ _ _,aA _ _ _,hcs,by rw[hll];omega⟩⟩)
   (fun f hf _ _=>by
    rw[List.mem_singleton.1 hf]
    exact⟨by rw[hll];exact hlim,.inr (.inr ⟨b,c',ms++ns,size,E1++E2,by rw[hll],updΓ_same _ _ _,(zcl (l:=ms++ns)).symm,aA _ _ _,hcs,by rw[hll];omega⟩)⟩)
  exact this
 rcases ha' with ⟨rfl,rfl,h1,h2,rfl⟩|⟨b,o,cap,size,C,rfl,h2,h3,h4,h5,h6,h7⟩|⟨b,c',size,h1,h2,h3,h4,h5,h6⟩
 ·obtain⟨rfl,rfl⟩:ms=[]/\ns=[]:=⟨List.length_eq_zero_iff.1 h1,List.length_eq_zero_iff.1 h2⟩;refine⟨Γ,?_⟩;have h0:=hq.iW (st':=⟨st.L,osA++[.jg .ab cc []],st.eF,st.gs⟩) (fun _ _ h=>h) ⟨[],by simpa using ho⟩ (fun f h=>h) (fun p h=>h)
  exact⟨h0.ml,h0.at_,h0.xU,h0.rl,h0.grow,h0.own,h0.new,h0.nd,h0.ht,fun f hm=>by
   rcases List.mem_cons.1 hm with rfl|hm
   ·exact⟨zbo _,.inl ⟨rfl,rfl⟩⟩
   ·exact h0.ty f hm,h0.gs⟩
 ·rcases hown' with ⟨h,_⟩|⟨b',cap2,size2,C2,k1,k2,k3,k4,k5⟩
  ·cases h
  ·cases k1;rw[h2]at k3;cases k3;obtain⟨_,_,size',C',q1,q2,q3⟩:=hq.ht.b _ _ k2;rw[h2]at q1;cases q1
   have hC:C=E1:=by
    rcases t1 with ⟨h,_⟩|⟨_,_,_,_,_,g1,g2,g3,g4,_⟩
    ·cases h
    ·cases g1;rw[h2]at g2;cases g2;rw[<-g4,zca,<-q2,zcl]
   subst hC;exact fin b cap size (by rw[h7,wL (by omega)]) h3 (by omega) h4 (.inl rfl) (.inl k2) (.inl (by rw[h2];rfl)) (fun _ _ _ h=>by rw[h2]at h;cases h) fun el size' C' h=>by rw[h2]at h;cases h;exact⟨rfl,rfl⟩
 ·exact fin b c' size h6 h3 h5 h4 (.inr h2) (.inr (hq.ht.none h2)) (.inr h1) (fun _ _ _ h=>by rw[h2]at h;cases h) fun _ _ _ h=>by rw[h2]at h;cases h
theorem KY {C E:List AV}{n k j sz:Nat}(hE:E.length=k*sz)(hC:n*sz<=C.length):((nA C (n*sz) E).drop (j*sz)).take sz=if n<=j/\j<n+k then (E.drop ((j-n)*sz)).take sz else (C.drop (j*sz)).take sz:=by
 by_cases h:n<=j/\j<n+k
 ·rw[if_pos h];refine Rd.tk fun q hq=>?_;have h1:n*sz<=j*sz:=zae _ h.1;have h2:(j+1)*sz<=(n+k)*sz:=zae _ h.2;rw[zau,zbh]at h2;rw[ra hC,if_pos ⟨by omega,by rw[hE];omega⟩,Nat.sub_mul];congr 1;omega
 ·rw[if_neg h];refine Rd.tk fun q hq=>?_;rw[ra hC,if_neg]
  rintro⟨h1,h2⟩
  refine h ⟨?_,?_⟩
  ·rcases zdp j n with h3|h3
   ·have h4:(j+1)*sz<=n*sz:=zae _ h3;rw[zau]at h4;omega
   ·exact h3
  ·rcases zdp j (n+k)with h3|h3
   ·exact h3
   ·have h4:(n+k)*sz<=j*sz:=zae _ h3;rw[zbh]at h4;rw[hE]at h2;omega
theorem Qx {l:List Nat}(h:∀m∈l,m=WU):l=List.replicate l.length WU:=List.eq_replicate_iff.2 ⟨rfl,h⟩
theorem DX {cc g:Nat}{ns:List Nat}(h:fF c.P c.Φ G Γ (.sl v cc g ns))(hu:c.Φ.fV cc=true):ns.length<=ma/\((v=.ab/\ns=[])∨∃b cap L size C,v=.dx b 0 ns.length cap/\Γ.m b=some (.cells cc g L)/\ns=L.take ns.length/\G b=some (.cells .data (c.Φ.ty cc) size C)/\cap*af c.P (c.Φ.ty cc)<=size/\ns.length<=cap):=Rd.yf h hu
theorem Q.FX (hq:Q c T G Γ st){cc g n:Nat}{ns:List Nat}{E2:List AV}(hv:fF c.P c.Φ G Γ (.sl v cc g ns))(hun:c.Φ.fV cc=true)(hrw:c.Φ.raw cc=false)(hg:g<Γ.ng)(hE2:E2.length=n*af c.P (c.Φ.ty cc))(kL:CL E2)(hel:∀j,j<n->eY c.P c.Φ G Γ WU cc g (ns.length+j) ((E2.drop (j*af c.P (c.Φ.ty cc))).take (af c.P (c.Φ.ty cc))))(hlim:ns.length+n<=ma) :
  ∃E1,Ext G v (c.Φ.ty cc) (af c.P (c.Φ.ty cc)) ns.length E1/\nW E1/\(∀G' v',KC c.n0 G G' v v' (c.Φ.ty cc) (af c.P (c.Φ.ty cc)) ns.length n E1 E2->∃Γ',Q c T G' Γ' ⟨st.L,st.os,.sl v' cc g (List.replicate (ns.length+n) WU)::st.eF,st.gs⟩):=by
 obtain⟨hlm,htd⟩:=DX hv hun
 obtain⟨E1,t1,t2,t3,t4⟩:∃E1,Ext G v (c.Φ.ty cc) (af c.P (c.Φ.ty cc)) ns.length E1/\CL E1/\E1.length=ns.length*af c.P (c.Φ.ty cc)/\(∀j,j<ns.length->eY c.P c.Φ G Γ WU cc g j ((E1.drop (j*af c.P (c.Φ.ty cc))).take (af c.P (c.Φ.ty cc)))):=by
  rcases htd with ⟨h1,rfl⟩|⟨b,cap,L,size,C,h1,h2,h3,h4,h5,h6⟩
  ·exact⟨[],.inl ⟨h1,rfl,rfl⟩,kG,by simp,fun j hj=>(by simp at hj)⟩
  ·obtain⟨_,q5,size',C',q1,q2,q3⟩:=hq.ht.b _ _ h2;rw[h4]at q1;cases q1;have hle:=jK h3;have hle2:ns.length*af c.P (c.Φ.ty cc)<=C.length:=by rw[q2];exact zae _ hle
   have hlen:(C.take (ns.length*af c.P (c.Φ.ty cc))).length=ns.length*af c.P (c.Φ.ty cc):=by rw[zag];omega
   have hel:∀j,j<ns.length->eY c.P c.Φ G Γ WU cc g j (((C.take (ns.length*af c.P (c.Φ.ty cc))).drop (j*af c.P (c.Φ.ty cc))).take (af c.P (c.Φ.ty cc))):=fun j hlt=>by
    have h8:(j+1)*af c.P (c.Φ.ty cc)<=ns.length*af c.P (c.Φ.ty cc):=zae _ hlt;rw[zau]at h8;rw[Rd.tk (X:=C.take (ns.length*af c.P (c.Φ.ty cc))) (Y:=C) (b:=j*af c.P (c.Φ.ty cc)) fun k hk=>by rw[zbe (by omega)]];have hL:L[j]?=some L[j]:=zaj (by omega);have:=q3 j _ hL;rwa[q5 hun _ (zaw hL)]at this
   exact⟨C.take (ns.length*af c.P (c.Φ.ty cc)),.inr ⟨b,0,cap,size,C,h1,h4,by omega,by rw[zca],by omega,h6⟩,uP hlen fun j hj=>(hel j hj).cl,hlen,hel⟩
 refine⟨E1,t1,t2.nf,fun G' v' ha'=>?_⟩;rcases ha' with ⟨rfl,rfl,h1,h2,rfl⟩|⟨b,o,cap,size,C,rfl,h2,h3,h4,h5,h6,h7⟩|⟨b,c',size,h1,h2,h3,h4,h5,h6⟩
 ·rw[h1,h2];refine⟨Γ,hq.ml,hq.at_,hq.xU,hq.rl,hq.grow,hq.own,hq.new,hq.nd,hq.ht,fun f hm=>?_,hq.gs⟩;rcases List.mem_cons.1 hm with rfl|hm
  ·exact⟨zbo _,.inl ⟨rfl,rfl⟩⟩
  ·exact hq.ty f hm
 ·rcases htd with ⟨h,_⟩|⟨b',cap2,L,size2,C2,k1,k2,k3,k4,k5,k6⟩
  ·cases h
  ·cases k1;rw[h2]at k4;cases k4;obtain⟨q0,q5,size',C',q1,q2,q3⟩:=hq.ht.b _ _ k2;rw[h2]at q1;cases q1;have hle:=jK k3;have hle2:ns.length*af c.P (c.Φ.ty cc)<=C.length:=by rw[q2];exact zae _ hle
   rw[zap]at h7;have hLL:(L++List.replicate (ns.length+n-L.length) WU).length=max L.length (ns.length+n):=by rw[zak,zai];omega
   have hLu:∀m∈L++List.replicate (ns.length+n-L.length) WU,m=WU:=fun m hm=>(List.mem_append.1 hm).elim (q5 hun m) fun h=>zbv h;subst h7 h3;refine⟨updΓ Γ b (.cells cc g (L++List.replicate (ns.length+n-L.length) WU)),?_⟩
   have:=hq.Qr (b:=b) (x:=.cells cc g L) (y:=.cells cc g (L++List.replicate (ns.length+n-L.length) WU)) (g':=.cells .data (c.Φ.ty cc) size (nA C (ns.length*af c.P (c.Φ.ty cc)) E2)) (tys':=[.sl (.dx b 0 (ns.length+n) cap) cc g (List.replicate (ns.length+n) WU)]) k2 (by show (!c.Φ.fV cc)=false;rw[hun];rfl) ⟨rfl,rfl,_,rfl⟩ (fun el size' C' h=>by rw[h2]at h;cases h;exact⟨_,rfl⟩)
    (fun hr hl=>⟨q0,fun _=>hLu,size,_,aA _ _ _,by
     rw[lZ hle2,hLL,q2,hE2,<-zbh];rcases Nat.le_total L.length (ns.length+n)with h|h
     ·rw[Nat.max_eq_right h,Nat.max_eq_right (zae _ h)]
     ·rw[Nat.max_eq_left h,Nat.max_eq_left (zae _ h)],fun j m hj=>by
     rw[KY hE2 hle2];have hm:m=WU:=hLu m (zaw hj);subst hm;by_cases h:ns.length<=j/\j<ns.length+n
     ·rw[if_pos h];have:=hel (j-ns.length) (by omega);rw[show ns.length+(j-ns.length)=j by omega]at this;exact this.le hr hl hg
     ·rw[if_neg h];have hj':=(List.getElem?_eq_some_iff.1 hj).1;rw[hLL]at hj';have hL:L[j]?=some L[j]:=zaj (by omega);have:=q3 j _ hL;rw[q5 hun _ (zaw hL)]at this
      exact this.le hr hl hg⟩)
    (fun f hf=>by
     rw[List.mem_singleton.1 hf];refine⟨by rw[zai];exact hlim,.inr (.inr ⟨b,cap,_,size,_,by rw[zai],updΓ_same _ _ _,?_,aA _ _ _,by omega,by rw[zai];omega⟩)⟩;rw[Qx hLu,List.take_replicate,zai,hLL]
     congr 1;omega) (fun _ _ h=>by cases h)
   rw[<-zap (ns.length*af c.P (c.Φ.ty cc))]at this ⊢;exact this
 ·subst h6 h3;refine⟨updΓ Γ b (.cells cc g (List.replicate (ns.length+n) WU)),?_⟩;have:=hq.Qq (b:=b) (cc:=cc) (g:=g) (L:=List.replicate (ns.length+n) WU) (size:=size) (C:=E1++E2) (tys':=[.sl (.dx b 0 (ns.length+n) c') cc g (List.replicate (ns.length+n) WU)]) h1 h2 hg hrw (fun _ m hm=>zbv hm) (by rw[zak,t3,hE2,zai,zbh]) (fun k m hk=>?_) (fun f hf=>?_)
  ·exact this
  ·have hm:m=WU:=zbv (zaw hk);have hkn:=(List.getElem?_eq_some_iff.1 hk).1;rw[zai]at hkn;subst hm;by_cases hlt:k<ns.length
   ·have h1:(k+1)*af c.P (c.Φ.ty cc)<=ns.length*af c.P (c.Φ.ty cc):=zae _ hlt;rw[zau]at h1;rw[zdb (by omega),zco (by rw[zas];omega)];exact t4 k hlt
   ·have h1:k*af c.P (c.Φ.ty cc)=ns.length*af c.P (c.Φ.ty cc)+(k-ns.length)*af c.P (c.Φ.ty cc):=by rw[<-zbh];congr 1;omega
    rw[h1,<-t3,List.drop_append];rw[zci (by omega),zcz,zcu];have:=hel (k-ns.length) (by omega);rw[show ns.length+(k-ns.length)=k by omega]at this;exact this
  ·rw[List.mem_singleton.1 hf];exact⟨by rw[zai];exact hlim,.inr (.inr ⟨b,c',_,size,_,by rw[zai],updΓ_same _ _ _,by rw[zai,zc (by rw[zai];omega)],aA _ _ _,h5,by rw[zai];omega⟩)⟩
end
end Go.Rt
namespace Go.Rd
open Go.aK Go.RowKit Go.Rt
def Qy:K2->K2->Bool
 |.int a,.int b=>di a b
 |.nat a,.nat b=>Nat.beq a b
 |.pos a,.pos b=>Nat.beq a b
 |.str,.str=>true
 |.rf,.rf=>true
 |.bool,.bool=>true
 |.px a,.px b=>pA a b
 |.sl a,.sl b=>Nat.beq a b
 |.AB a a',.AB b b'=>Nat.beq a b&&Nat.beq a' b'
 |.AD a a',.AD b b'=>Nat.beq a b&&Nat.beq a' b'
 |.yK a a',.yK b b'=>Nat.beq a b&&Nat.beq a' b'
 |.AE a,.AE b=>Nat.beq a b
 |.ptr a,.ptr b=>Nat.beq a b
 |.FJ a,.FJ b=>Nat.beq a b
 |.mp a,.mp b=>Nat.beq a b
 |.FL a,.FL b=>Nat.beq a b
 |_,_=>false
theorem Iw {a b:K2}(h:Qy a b=true):a=b:=by
 cases a<;>cases b<;>simp only[Qy,zaf,za,di,pA,decide_eq_true_eq]at h
 all_goals first
  |rfl
  |(subst h;rfl)
  |(have:=zab h;subst this;rfl)
  |(obtain⟨h1,h2⟩:=h;have:=zab h1;have:=zab h2;subst_vars;rfl)
def SR:List K2->List K2->Bool
 | [],[]=>true
 |a::as,b::bs=>Qy a b&&SR as bs
 |_,_=>false
theorem CJ:∀{a b:List K2},SR a b=true->a=b
 | [],[],_=>rfl
 |a::as,b::bs,h=>by
  have h:(Qy a b&&SR as bs)=true:=h;rw[za]at h;rw[Iw h.1,CJ h.2]
 | [],_::_,h=>by cases h
 |_::_,[],h=>by cases h
def W3 (Φ:Forms):K2->Bool
 |.int _=>true|.str=>true|.bool=>true|.px _=>true
 |.sl c=>!Φ.dep c&&!Φ.via c
 |.AB c _=>!Φ.dep c&&!Φ.via c
 |.ptr c=>!Φ.dep c&&!Φ.via c
 |.FJ c=>!Φ.dep c&&!Φ.via c
 |.mp c=>!Φ.dep c&&!Φ.via c
 |.FL c=>!Φ.dep c&&!Φ.via c
 |_=>false
def TJ:K2->Bool|.rf=>false|.AE _=>false|_=>true
theorem DY:∀{l:List Nat}{m:Nat},m∈l->m<=l.sum
 | [],_,h=>by cases h
 |a::l,m,h=>by
  rw[zda];rcases List.mem_cons.1 h with rfl|h
  ·omega
  ·have:=DY h;omega
theorem wM {Φ:Forms}{cc:Nat}(h:(!Φ.dep cc&&!Φ.via cc)=true)(d:Gd)(g:Nat):gi Φ d g cc=0:=by
 rw[za,zam,zam]at h;unfold gi;rw[h.1,h.2];rfl
theorem KZ {Φ:Forms}{d d':Gd}{g g' j j':Nat}{k:K2}{v:AV}{f:List TF}(hk:W3 Φ k=true)(h:Kv Φ d g j k v f):Kv Φ d' g' j' k v f:=by
 cases k with
 |int k=>exact h
 |str=>exact h
 |bool=>exact h
 |px k=>exact h
 |sl c=>obtain⟨ns,h⟩:=h;exact⟨ns,by rw[wM hk]at h ⊢;exact h⟩
 |AB c b=>obtain⟨ns,h,h'⟩:=h;exact⟨ns,by rw[wM hk]at h ⊢;exact h,h'⟩
 |ptr c=>have h:f=[.pt v c (gi Φ d g c)]:=h;show f=_;rw[wM hk]at h ⊢;exact h
 |FJ c=>rcases h with h|h
        ·exact .inl h
        ·exact .inr (by rw[wM hk]at h ⊢;exact h)
 |mp c=>have h:f=[.mp v c (gi Φ d g c)]:=h;show f=_;rw[wM hk]at h ⊢;exact h
 |FL c=>rcases h with h|h
        ·exact .inl h
        ·exact .inr (by rw[wM hk]at h ⊢;exact h)
 |_=>cases hk
theorem Ix {Φ:Forms}{d:Gd}{g j j':Nat}{k:K2}{v:AV}{f:List TF}(hk:TJ k=true)(h:Kv Φ d g j k v f):Kv Φ d g j' k v f:=by
 cases k<;>first|exact h|cases hk
theorem A0 {Φ:Forms}{d d':Gd}{g g' j j':Nat}:∀{ks:List K2}{cs:List AV}{fs:List TF},ks.all (W3 Φ)=true->iz Φ d g j ks cs fs->iz Φ d' g' j' ks cs fs
 | [],_,_,_,h=>h
 |k::ks,_,_,hk,⟨v,cs',f,fs',h1,h2,h3,h4⟩=>by
  rw[zdv,za]at hk;exact⟨v,cs',f,fs',h1,h2,KZ hk.1 h3,A0 hk.2 h4⟩
theorem rF {Φ:Forms}{d:Gd}{g j j':Nat}:∀{ks:List K2}{cs:List AV}{fs:List TF},ks.all TJ=true->iz Φ d g j ks cs fs->iz Φ d g j' ks cs fs
 | [],_,_,_,h=>h
 |k::ks,_,_,hk,⟨v,cs',f,fs',h1,h2,h3,h4⟩=>by
  rw[zdv,za]at hk;exact⟨v,cs',f,fs',h1,h2,Ix hk.1 h3,rF hk.2 h4⟩
def FY (Φ:Forms)(cc g cc' g':Nat):Bool:=SR (Φ.ks cc) (Φ.ks cc')&&((Φ.ks cc).all (W3 Φ)||(Nat.beq g g'&&(Φ.ks cc).all TJ))
section
variable {c:Cx}{T:Tm}{G:GH}{Γ:dI}{ρ ρ':bm}{s s':SS}{cf:Cf}{ops:Array Oper}{i d:Nat}
theorem Iy {cc g cc' g' m j j':Nat}{cs:List AV}(h:FY c.Φ cc g cc' g'=true)(he:eY c.P c.Φ G Γ m cc' (ig ρ g') j' cs):eY c.P c.Φ G Γ m cc (ig ρ g) j cs:=by
 unfold FY at h;rw[za,zaq,za]at h;obtain⟨h1,h2⟩:=h;have h1:=CJ h1;obtain⟨fs,e1,e2,e3⟩:=he;rw[<-h1]at e1;refine⟨fs,?_,e2,e3⟩;rcases h2 with h2|⟨h2,h3⟩
 ·exact A0 h2 e1
 ·have:=aj h2;subst this;exact rF h3 e1
def FZ (cf:Cf)(s:SS)(g cc:Nat)(sz:Nat)(j:LE):Nat->List SC->Option (List LE)
 |0,_=>some []
 |n+1,cs=>match rD cf s g (ghost s.gs g) j (cf.Φ.ks cc) (cs.take sz),FZ cf s g cc sz (j.aO 1) n (cs.drop sz)with
  |some os,some l=>some (ji os::l)
  |_,_=>none
def yo:List LE->LE
 | []=>.k 0
 |e::l=>(e.add (yo l)).aO 1
theorem F0 (ρ:bm)(cs:List SC)(n:Nat):aD ρ (cs.drop n)=(aD ρ cs).drop n:=by simp[aD,List.map_drop]
theorem K0 (ρ:bm)(cs:List SC)(n:Nat):aD ρ (cs.take n)=(aD ρ cs).take n:=by simp[aD,List.map_take]
theorem yp {g cc sz:Nat}(hΦ:cf.Φ=c.Φ)(hk:Ok c T G Γ ρ s):∀{n:Nat}{cs:List SC}{j:LE}{q:Nat}{l:List LE},FZ cf s g cc sz j n cs=some l->0<=j.ev ρ->q=(j.ev ρ).toNat ->
  ∃ns:List Nat,ns.length=n/\((ns.sum+ns.length:Nat):Int)=(yo l).ev ρ/\(∀k m,ns[k]?=some m->eY c.P c.Φ G Γ m cc (ig ρ g) (q+k) (((aD ρ cs).drop (k*sz)).take sz))/\∀m∈ns,∃e∈l,e.ev ρ=(m:Int)
 |0,cs,j,q,l,h,_,_=>by cases h;exact⟨[],rfl,by rw[yo,LE.bk];rfl,fun k m h=>by simp at h,fun m h=>by cases h⟩
 |n+1,cs,j,q,l,h,hj,hJ=>by
  unfold FZ at h;split at h
  ·rename_i os l' h1 h2;cases h;rw[hΦ]at h1;obtain⟨fs,a1,a2,a3⟩:=n7 hΦ hk (fun dv h=>bz h hk) ⟨hj,hJ⟩ h1;obtain⟨ns,b1,b2,b3,b4⟩:=yp hΦ hk h2 (by rw[LE.aE];omega) rfl;rw[K0]at a1;refine⟨jj c.Φ fs::ns,by simp[b1],?_,fun k m hkm=>?_,fun m hm=>?_⟩
   ·rw[yo,LE.aE,LE.ij,<-b2,a2];simp only[zda,zbi];omega
   ·cases k with
    |zero=>cases hkm;rw[zbw,zca,zbt];exact⟨fs,a1,zad _,a3⟩
    |succ k =>
     have:=b3 k m hkm;rw[F0,zct,LE.aE]at this;rw[show q+(k+1)=(j.ev ρ+1).toNat+k by omega,show (k+1)*sz=sz+k*sz by rw[zau,Nat.add_comm]];exact this
   ·rcases List.mem_cons.1 hm with rfl|hm
    ·exact⟨_,zac ..,a2⟩
    ·obtain⟨e,h1,h2⟩:=b4 m hm;exact⟨e,zaa _ h1,h2⟩
  ·cases h
def A1 (cf:Cf)(s:SS)(cc g:Nat)(j:LE)(u:SV):Option (LE×LE):=match u with
 |.v false [.ab]=>some (.k 0,.k 0)
 |.v false [.ref y]=>(match oJ s.ty y with
  |some (c',g')=>bif Nat.beq (cf.Φ.ty cc) (cf.Φ.ty c')&&(FY cf.Φ cc g c' g'&&(!cf.Φ.fV cc||(cf.Φ.fV c'||aX s ((LE.k WU).sub (.a (.wt y))))))then some (.a (.len y),.a (.wt y))else none
  |none=>none)
 |.v false [.wA b n]=>(match jN s.os b with
  |some (el,cs)=>bif Nat.beq cs.length (n*af cf.P (cf.Φ.ty cc))&&aX s j then
   (match FZ cf s g cc (af cf.P (cf.Φ.ty cc)) j n cs with
    |some l=>bif !cf.Φ.fV cc||l.all (fun e=>aX s ((LE.k WU).sub e))then some (.k n,yo l)else none
    |none=>none)
   else none
  |none=>none)
 |.slt y e sz=>(match oJ s.ty y with
  |some (c',g')=>bif Nat.beq (cf.Φ.ty cc) (cf.Φ.ty c')&&(FY cf.Φ cc g c' g'&&(cf.Φ.fV c'&&(Nat.beq sz (af cf.P (cf.Φ.ty c'))&&(aX s e&&aX s ((LE.a (.len y)).sub e)))))then some ((LE.a (.len y)).sub e,((LE.a (.len y)).sub e).js (.ofNat (WU+1)))else none
  |none=>none)
 |_=>none
theorem Iz:∀{l:List Nat},(∀m∈l,m=WU)->l.sum=l.length*WU
 | [],_=>by simp
 |a::l,h=>by
  rw[zda,Iz (l:=l) fun m hm=>h m (zaa _ hm),h a (zac ..),zbi,zau,Nat.add_comm]
theorem yq {cc g q:Nat}{j:LE}{u:SV}{n w:LE}(hP:cf.P=c.P)(hΦ:cf.Φ=c.Φ)(h:A1 cf s cc g j u=some (n,w))(hk:Ok c T G Γ ρ s)(hJ:q=(j.ev ρ).toNat)(hsz:0<af c.P (c.Φ.ty cc)) :
  ∃(ns:List Nat) (E:List AV),Aw c.P c.n0 c.nt T .e (z 0) G (af c.P (c.Φ.ty cc)) ns.length (u.den ρ) E/\CL E/\n.ev ρ=(ns.length:Int)/\w.ev ρ=((ns.sum+ns.length:Nat):Int)/\E.length=ns.length*af c.P (c.Φ.ty cc)/\(∀k m,ns[k]?=some m->eY c.P c.Φ G Γ m cc (ig ρ g) (q+k) ((E.drop (k*af c.P (c.Φ.ty cc))).take (af c.P (c.Φ.ty cc))))/\(c.Φ.fV cc=true->∀m∈ns,m<=WU):=by
 unfold A1 at h;rw[hP,hΦ]at h;split at h
 ·cases h;exact⟨[],[],qy rfl,kG,by rw[LE.bk];rfl,by rw[LE.bk];rfl,by simp,fun k m h=>by simp at h,fun _ m h=>by cases h⟩
 ·rename_i y;split at h
  ·rename_i c' g' hf;cases hb:(Nat.beq (c.Φ.ty cc) (c.Φ.ty c')&&(FY c.Φ cc g c' g'&&(!c.Φ.fV cc||(c.Φ.fV c'||aX s ((LE.k WU).sub (.a (.wt y)))))))with
   |false=>rw[hb]at h;cases h
   |true =>
    rw[hb]at h;cases h;rw[za,za]at hb;obtain⟨b1,b2,b3⟩:=hb;have b1:=aj b1;have ht:fF c.P c.Φ G Γ (.sl (ρ y).vv c' (ig ρ g') (ρ y).ns):=hk.ty (gI hf);obtain⟨E,e1,e2,e3⟩:=ht.src (n0:=c.n0) (nt:=c.nt) (T:=T) hk.q.ht;rw[<-b1]at e1 e3;refine⟨(ρ y).ns,E,e1,e2,by rw[LE.aV];rfl,by rw[LE.aV];rfl,e1.1,fun k m hkm=>Iy b2 (e3 k m hkm),fun hu m hm=>?_⟩;rw[hu]at b3;simp only[zd,zcs,zaq]at b3;rcases b3 with b3|b3
    ·obtain⟨_,htd⟩:=DX ht b3;rcases htd with ⟨_,h0⟩|⟨b,cap,L,size,C,h1,h2,h3,_⟩
     ·rw[h0]at hm;cases hm
     ·obtain⟨_,q5,_⟩:=hk.q.ht.b _ _ h2;rw[h3]at hm;exact zea (q5 b3 _ (zds hm))
    ·have:=av b3 hk.sat;rw[LE.au,LE.bk,LE.aV]at this;have this:0<=(WU:Int)-(((ρ y).ns.sum+(ρ y).ns.length:Nat):Int):=this;have h5:m<=(ρ y).ns.sum:=DY hm;omega
  ·cases h
 ·rename_i b n0;split at h
  ·rename_i el cs hl;cases hb:(Nat.beq cs.length (n0*af c.P (c.Φ.ty cc))&&aX s j)with
   |false=>rw[hb]at h;cases h
   |true =>
    rw[hb]at h;simp only[cond_true]at h;rw[za]at hb;obtain⟨b1,b2⟩:=hb;have b1:=aj b1;split at h
    ·rename_i l hel;cases hb3:(!c.Φ.fV cc||l.all (fun e=>aX s ((LE.k WU).sub e)))with
     |false=>rw[hb3]at h;cases h
     |true =>
      rw[hb3]at h;cases h;obtain⟨ns,k1,k2,k3,k4⟩:=yp hΦ hk hel (av b2 hk.sat) hJ;have hG:=hk.loc hl;have hlen:(aD ρ cs).length=cs.length:=by simp[aD]
      have hw:(((aD ρ cs).drop 0).take (ns.length*af c.P (c.Φ.ty cc)))=aD ρ cs:=by rw[zca,k1,<-b1,<-hlen,zcl]
      have kL:CL (aD ρ cs):=fun v hv=>by
       obtain⟨x,_,rfl⟩:=List.mem_map.1 hv;exact⟨(AQ x ρ).1,(AQ x ρ).2.1⟩
      have hs:=uO (P:=c.P) (n0:=c.n0) (nt:=c.nt) (T:=T) (sz:=af c.P (c.Φ.ty cc)) (v:=(SV.v false [SC.wA b n0]).den ρ) (len:=ns.length) (cap:=n0) (o:=0) (by rw[k1];rfl) hG (by rw[hlen,b1,k1];omega) (by rw[hw];exact kL);rw[hw]at hs;refine⟨ns,_,hs,kL,by rw[LE.bk,k1],k2.symm,hs.1,k3,fun hu m hm=>?_⟩;rw[hu]at hb3;simp only[zd,zcs]at hb3;obtain⟨e,e1,e2⟩:=k4 m hm;have:=av (List.all_eq_true.1 hb3 e e1) hk.sat;rw[LE.au,LE.bk,e2]at this;omega
    ·cases h
  ·cases h
 ·rename_i y e sz;split at h
  ·rename_i c' g' hf;cases hb:(Nat.beq (c.Φ.ty cc) (c.Φ.ty c')&&(FY c.Φ cc g c' g'&&(c.Φ.fV c'&&(Nat.beq sz (af c.P (c.Φ.ty c'))&&(aX s e&&aX s ((LE.a (.len y)).sub e))))))with
   |false=>rw[hb]at h;cases h
   |true =>
    rw[hb]at h;cases h;simp only[za]at hb;obtain⟨b1,b2,b3,b4,b5,b6⟩:=hb;have b1:=aj b1;have b4:=aj b4;subst b4;have e1:=av b5 hk.sat;have e2:=av b6 hk.sat;rw[LE.au,LE.aV]at e2;have e2:0<=((ρ y).ns.length:Int)-e.ev ρ:=e2;have ht:fF c.P c.Φ G Γ (.sl (ρ y).vv c' (ig ρ g') (ρ y).ns):=hk.ty (gI hf);obtain⟨E,q1,q2,q3,q4⟩:=ht.W2 (n0:=c.n0) (nt:=c.nt) (T:=T) (e:=(e.ev ρ).toNat) b3 hk.q.ht (by omega);have hl:(((ρ y).ns.drop (e.ev ρ).toNat).length:Int)=((ρ y).ns.length:Int)-e.ev ρ:=by rw[zas];omega
    have hd:∀m∈(ρ y).ns.drop (e.ev ρ).toNat,m=WU:=fun m hm=>q3 m (List.mem_of_mem_drop hm);rw[<-b1]at q1 q4;refine⟨(ρ y).ns.drop (e.ev ρ).toNat,E,by rw[<-b1];exact q1,q2,?_,?_,q1.1,fun k m hkm=>?_,fun _ m hm=>zea (hd m hm)⟩
    ·rw[LE.au,LE.aV];exact hl.symm
    ·rw[LE.fJ,LE.au,LE.aV];show ((WU+1:Nat):Int)*(((ρ y).ns.length:Int)-e.ev ρ)=_;rw[<-hl,Iz hd]
     push_cast
     rw[Int.add_mul,Int.one_mul,Int.mul_comm]
    ·obtain⟨j',hj'⟩:=q4 k m hkm;exact Iy b2 hj'
  ·cases h
 ·cases h
def CK (P:Program)(e:TypeId):Nat:=Nat.min ((281474976710656/P.bytesOf e-12288)/16) ma
theorem yr {P:Program}{e n:Nat}(h:n<=CK P e)(hb:P.bytesOf e<=1000000):(16*n+12288)*P.bytesOf e<=281474976710656/\n<=ma:=by
 have h1:n<=(281474976710656/P.bytesOf e-12288)/16:=zay h (Nat.min_le_left _ _);refine⟨?_,zay h (Nat.min_le_right _ _)⟩;rcases Nat.eq_zero_or_pos (P.bytesOf e)with h0|h0
 ·rw[h0,Nat.mul_zero];omega
 ·have h2:281474976<=281474976710656/P.bytesOf e:=(Nat.le_div_iff_mul_le h0).2 (by
    have:=Nat.mul_le_mul_left 281474976 hb
    omega)
  have h3:281474976710656/P.bytesOf e*P.bytesOf e<=281474976710656:=Nat.div_mul_le_self _ _;have h4:16*n+12288<=281474976710656/P.bytesOf e:=by omega
  exact zay (zae _ h4) h3
def n9 (s:SS)(a b:LE):SS:=aF (aF s (a.sub b)) (b.sub a)
theorem Ok.n9 {a b:LE}(h:Ok c T G Γ ρ s)(he:a.ev ρ=b.ev ρ):Ok c T G Γ ρ (n9 s a b):=(h.aF (by rw[LE.au];omega)).aF (by rw[LE.au];omega)
def eX:List SO->Nat->Nat->Option (List SO)
 | [],_,_=>none
 |.jg y c::l,x,cc=>bif Nat.beq y x&&Nat.beq c cc then some l else (eX l x cc).map (.jg y c::·)
 |o::l,x,cc=>(eX l x cc).map (o::·)
theorem fC:∀{l l':List SO}{x cc:Nat},eX l x cc=some l'->l.Perm (l'++[.jg x cc])
 | [],_,_,_,h=>by cases h
 |.jg y c'::l,l',x,cc,h=>by
  have h:(bif Nat.beq y x&&Nat.beq c' cc then some l else (eX l x cc).map (.jg y c'::·))=some l':=h;cases hb:(Nat.beq y x&&Nat.beq c' cc)with
  |true =>
   rw[hb]at h;cases h;rw[za]at hb;have:=aj hb.1;have:=aj hb.2;subst_vars;exact (zcg _ _).symm
  |false =>
   rw[hb]at h;cases hr:eX l x cc with
   |none=>rw[hr]at h;cases h
   |some l2=>rw[hr]at h;cases h;exact (fC hr).cons _
 |.loc b el cs::l,l',x,cc,h=>by
  have h:(eX l x cc).map (.loc b el cs::·)=some l':=h;cases hr:eX l x cc with
  |none=>rw[hr]at h;cases h
  |some l2=>rw[hr]at h;cases h;exact (fC hr).cons _
 |.em y c'::l,l',x,cc,h=>by
  have h:(eX l x cc).map (.em y c'::·)=some l':=h;cases hr:eX l x cc with
  |none=>rw[hr]at h;cases h
  |some l2=>rw[hr]at h;cases h;exact (fC hr).cons _
 |.ul y c' g'::l,l',x,cc,h=>by
  have h:(eX l x cc).map (.ul y c' g'::·)=some l':=h;cases hr:eX l x cc with
  |none=>rw[hr]at h;cases h
  |some l2=>rw[hr]at h;cases h;exact (fC hr).cons _
 |.am y c' g'::l,l',x,cc,h=>by
  have h:(eX l x cc).map (.am y c' g'::·)=some l':=h;cases hr:eX l x cc with
  |none=>rw[hr]at h;cases h
  |some l2=>rw[hr]at h;cases h;exact (fC hr).cons _
 |.im y c'::l,l',x,cc,h=>by
  have h:(eX l x cc).map (.im y c'::·)=some l':=h;cases hr:eX l x cc with
  |none=>rw[hr]at h;cases h
  |some l2=>rw[hr]at h;cases h;exact (fC hr).cons _
 |.bl y c' g'::l,l',x,cc,h=>by
  have h:(eX l x cc).map (.bl y c' g'::·)=some l':=h;cases hr:eX l x cc with
  |none=>rw[hr]at h;cases h
  |some l2=>rw[hr]at h;cases h;exact (fC hr).cons _
 |.km y c' g' n::l,l',x,cc,h=>by
  have h:(eX l x cc).map (.km y c' g' n::·)=some l':=h;cases hr:eX l x cc with
  |none=>rw[hr]at h;cases h
  |some l2=>rw[hr]at h;cases h;exact (fC hr).cons _
 |.rm y c' g' n::l,l',x,cc,h=>by
  have h:(eX l x cc).map (.rm y c' g' n::·)=some l':=h;cases hr:eX l x cc with
  |none=>rw[hr]at h;cases h
  |some l2=>rw[hr]at h;cases h;exact (fC hr).cons _
 |.kq y c' g' n q::l,l',x,cc,h=>by
  have h:(eX l x cc).map (.kq y c' g' n q::·)=some l':=h;cases hr:eX l x cc with
  |none=>rw[hr]at h;cases h
  |some l2=>rw[hr]at h;cases h;exact (fC hr).cons _
 |.it y m n r st ty::l,l',x,cc,h=>by
  have h:(eX l x cc).map (.it y m n r st ty::·)=some l':=h;cases hr:eX l x cc with
  |none=>rw[hr]at h;cases h
  |some l2=>rw[hr]at h;cases h;exact (fC hr).cons _
def CM (P:Program)(ts tx:TypeId):Option TypeId:=match P.underlying ts,P.underlying tx with
 |some (.slice e),some (.slice _)=>(match ((zeroOf P e).bind tg).bind dY with
  |some z=>bif Nat.ble (P.bytesOf e) 1000000&&(Nat.beq z.length (af P e)&&Nat.blt 0 (af P e))then some e else none
  |none=>none)
 |_,_=>none
theorem yu {P:Program}{ts tx e:TypeId}(h:CM P ts tx=some e):P.underlying ts=some (.slice e)/\(∃e',P.underlying tx=some (.slice e'))/\∃z,zeroOf P e=some z/\(Nat.ble (P.bytesOf e) 1000000&&(Nat.beq z.cells.length (af P e)&&Nat.blt 0 (af P e)))=true:=by
 unfold CM at h;split at h
 ·rename_i e0 e1 h1 h2;cases hz:zeroOf P e0 with
  |none=>rw[hz]at h;cases h
  |some z =>
   rw[hz]at h;simp only[zcr]at h;cases hv:tg z with
   |none=>rw[hv]at h;cases h
   |some w =>
    rw[hv]at h;simp only[zcr]at h;cases hc:dY w with
    |none=>rw[hc]at h;cases h
    |some cs =>
     rw[hc]at h;simp only at h
     have hz2:z.cells.length=cs.length:=by
      rw[<-kD hv (fun _=>.n 0),gk hc];simp[aD]
     cases hb:(Nat.ble (P.bytesOf e0) 1000000&&(Nat.beq cs.length (af P e0)&&Nat.blt 0 (af P e0)))with
     |false=>rw[hb]at h;cases h
     |true=>rw[hb]at h;cases h;exact⟨h1,⟨e1,h2⟩,z,hz,by rw[hz2];exact hb⟩
 ·cases h
def FW (cf:Cf)(e:TypeId)(d cc:Nat)(osA:List SO)(len wt:LE)(u:SV)(s:SS)(K:SS->R):R:=bif Nat.beq (cf.Φ.ty cc) e&&!cf.Φ.raw cc then
    (match A1 cf s cc 0 len u with
     |some (n,w)=>bif aX s ((LE.k (CK cf.P e)).sub (len.add n))&&((len.add n).lt s.nx&&((wt.add w).lt s.nx&&osA.all (SO.lt s.nx)))then
      fresh s fun x s=>K (eG (n9 (n9 (bL (c6 s (osA++[.jg x cc])) (.sl x cc 0)) (.a (.len x)) (len.add n)) (.a (.wt x)) (wt.add w)) d (sc (.ref x)))
      else .bad 120 s
     |none=>.bad 121 s)
 else .bad 122 s
def uQ (s:SS)(g:Nat):Bool:=Nat.beq g 0||(ghost s.gs g).isSome
theorem kH {g:Nat}(h:uQ s g=true)(hk:Ok c T G Γ ρ s):ig ρ g<Γ.ng:=by
 unfold uQ at h;rw[zaq]at h;rcases h with h|h
 ·have:=aj h;subst this;exact hk.q.ht.z.2
 ·obtain⟨d,hd⟩:=Option.isSome_iff_exists.1 h;obtain⟨w,hw⟩:=rq hd;exact (hk.q.gs (ig ρ g,(ρ d).gg,w) (List.mem_map.2 ⟨(g,d,w),hw,rfl⟩)).1
def FX (cf:Cf)(e:TypeId)(d cc g:Nat)(len:LE)(u:SV)(s:SS)(K:SS->R):R:=bif Nat.beq (cf.Φ.ty cc) e&&(uQ s g&&!cf.Φ.raw cc)then
    (match A1 cf s cc g len u with
     |some (n,_)=>bif aX s ((LE.k (CK cf.P e)).sub (len.add n))&&((len.add n).lt s.nx&&bG s.nx g)then
      fresh s fun x s=>K (eG (n9 (bL s (.sl x cc g)) (.a (.len x)) (len.add n)) d (sc (.ref x)))
      else .bad 123 s
     |none=>.bad 124 s)
 else .bad 125 s
def pD (cf:Cf)(ts tx:TypeId)(d:Nat)(v u:SV)(an:Option (Nat×Nat))(s:SS)(K:SS->R):R:=match CM cf.P ts tx,v with
 |some e,.v false [.ab]=>(match an with
  |some (cc,g)=>bif cf.Φ.fV cc then FX cf e d cc g (.k 0) u s K else FW cf e d cc s.os (.k 0) (.k 0) u s K
  |none=>.bad 126 s)
 |some e,.v false [.ref x]=>(match oJ s.ty x with
  |some (cc,g)=>bif cf.Φ.fV cc then FX cf e d cc g (.a (.len x)) u s K else
   (match eX s.os x cc with|some osA=>FW cf e d cc osA (.a (.len x)) (.a (.wt x)) u s K|none=>.bad 127 s)
  |none=>.bad 128 s)
 |_,_=>.bad 129 s
theorem St.ext' {a b:St}(h1:a.L=b.L)(h2:a.os=b.os)(h3:a.eF=b.eF)(h4:a.gs=b.gs):a=b:=by cases a;cases b;cases h1;cases h2;cases h3;cases h4;rfl
theorem dK {K:Nat->SS->R}(h:(fresh s K).Ok):s.ok=true:=by
 unfold fresh at h;cases hs:s.ok with
 |true=>rfl
 |false=>rw[hs]at h;cases h
theorem DZ {cl:Call}{ts tx e:TypeId}{ys yx:Operand}{cc:Nat}{osA:List SO}{len wt:LE}{v u:SV}{ms:List Nat}{K:SS->R}(hg:(ae ops i).guard=none)(hd:(ae ops i).dst=some d)(hlt:d<c.nt)(ho:(ae ops i).op=.call cl)(hc:cl.callee=.builtin .append)(ht:cl.argTypes.toList=[ts,tx])(hx:cl.args.toList=[ys,yx])
  (hP:cf.P=c.P) (hΦ:cf.Φ=c.Φ) (pD:CM c.P ts tx=some e) (h:(FW cf e d cc osA len wt u s K).Ok) (hk:Ok c T G Γ ρ s) (hv:a9 c.nt T ys (v.den ρ)) (hu:a9 c.nt T yx (u.den ρ)) (hq:Q c T G Γ ⟨(s.den ρ).L,osA.map (SO.den ρ)++[.jg (v.den ρ) cc ms],(s.den ρ).eF,(s.den ρ).gs⟩) (hl:len.ev ρ=(ms.length:Int)) (hw:wt.ev ρ=((ms.sum+ms.length:Nat):Int)):Hv c T G Γ ops i s ρ K:=by
 unfold FW at h;rw[hP,hΦ]at h;cases hb:(Nat.beq (c.Φ.ty cc) e&&!c.Φ.raw cc)with
 |false=>rw[hb]at h;cases h
 |true =>
  rw[hb]at h;rw[za,zam]at hb;obtain⟨hb,hrw⟩:=hb;have hb:=aj hb;subst hb;simp only[cond_true]at h;cases hsr:A1 cf s cc 0 len u with
  |none=>rw[hsr]at h;cases h
  |some p =>
   obtain⟨n,w⟩:=p;rw[hsr]at h;simp only at h;cases hf:(aX s ((LE.k (CK c.P (c.Φ.ty cc))).sub (len.add n))&&((len.add n).lt s.nx&&((wt.add w).lt s.nx&&osA.all (SO.lt s.nx))))with
   |false=>rw[hf]at h;cases h
   |true =>
    rw[hf]at h;simp only[cond_true]at h;simp only[za]at hf;obtain⟨f1,f2,f3,f4⟩:=hf;obtain⟨h1,⟨e',h2⟩,zz,h3,h4⟩:=yu pD;have h5:=h4;simp only[za]at h5;have hsz:=ax h5.2.2;have hJ:ms.length=(len.ev ρ).toNat:=by rw[hl];rfl
    obtain⟨ns,E,k1,k2,k3,k4,k5,k6,k7⟩:=yq hP hΦ hsr hk hJ hsz;have hcap:=av f1 hk.sat;rw[LE.au,LE.bk,LE.ij,hl,k3]at hcap;obtain⟨c1,c2⟩:=yr (P:=c.P) (e:=c.Φ.ty cc) (n:=ms.length+ns.length) (by omega) (aN h5.1);have e0:ig ρ 0=0:=rfl;rw[e0]at k6;obtain⟨E1,x1,x2,x3⟩:=hq.FW (ns:=ns) (E2:=E) (osA:=osA.map (SO.den ρ)) (ms:=ms) (v:=v.den ρ) (cc:=cc) (List.Perm.refl _) hrw hsz k5 k2 k6 c2;refine fI.yh hg hd hlt ho hc ht hx h1 h2 (fun k h=>by cases h) h3 h4 hv hu x1 x2 k1 c1 (zay c2 (by unfold ma;omega)) fun v' G' ha hnf=>?_;obtain⟨Γ',hq'⟩:=x3 G' v' ha;have href:cD v'=true:=uN (hq'.ty _ (zac ..));have hlim:(ms++ns).length<=ma:=by rw[zak];exact c2
    obtain⟨r1,r2,r3,r4⟩:=az h hk (.v v' (ms++ns));have hv':(ρ.up s.nx (.v v' (ms++ns)) s.nx).vv=v':=by rw[r4];exact U.j6 href
    have hn':(ρ.up s.nx (.v v' (ms++ns)) s.nx).ns=ms++ns:=by rw[r4];exact U.lr hlim
    have eD:=(SS.cg (dK h) r2).1;have eO:osA.map (SO.den (ρ.up s.nx (.v v' (ms++ns))))=osA.map (SO.den ρ):=zav fun o ho=>SO.cg r2 (List.all_eq_true.1 f4 o ho);refine⟨rfl,rfl,Γ',_,_,r1,r2,zan _,?_⟩
    have hbase:Ok c T G' Γ' (ρ.up s.nx (.v v' (ms++ns))) (bL (c6 (aC s) (osA++[.jg s.nx cc])) (.sl s.nx cc 0)):=by
     refine⟨⟨r3.sat.fs,r3.sat.bs,r3.sat.pw,r3.sat.ats,r3.sat.dB,r3.sat.ne,r3.sat.fz,r3.sat.sb⟩,?_⟩
     have:(bL (c6 (aC s) (osA++[.jg s.nx cc])) (.sl s.nx cc 0)).den (ρ.up s.nx (.v v' (ms++ns)))=⟨(s.den ρ).L,osA.map (SO.den ρ)++[.jg v' cc (ms++ns)],.sl v' cc 0 (ms++ns)::(s.den ρ).eF,(s.den ρ).gs⟩:=by
      refine St.ext' (by have:=congrArg St.L eD;exact this) ?_ ?_ (by have:=congrArg St.gs eD;exact this)
      ·show (osA++[SO.jg s.nx cc]).map (SO.den _)=_;rw[zar,eO,zbc];simp only[SO.den];rw[hv',hn']
      ·show dW.den _ (.sl s.nx cc 0)::s.ty.map (dW.den _)=_;rw[show s.ty.map (dW.den (ρ.up s.nx (.v v' (ms++ns))))=(s.den ρ).eF from congrArg St.eF eD];simp only[dW.den];rw[hv',hn'];rfl
     rw[this];exact hq'
    have a1:(LE.a (.len s.nx)).ev (ρ.up s.nx (.v v' (ms++ns)))=(len.add n).ev (ρ.up s.nx (.v v' (ms++ns))):=by
     rw[LE.cg r2 f2,LE.ij,hl,k3,LE.aV];show (((ρ.up s.nx (.v v' (ms++ns)) s.nx).ns.length:Nat):Int)=_;rw[hn',zak];omega
    have a2:(LE.a (.wt s.nx)).ev (ρ.up s.nx (.v v' (ms++ns)))=(wt.add w).ev (ρ.up s.nx (.v v' (ms++ns))):=by
     rw[LE.cg r2 f3,LE.ij,hw,k4,LE.aV];show (((ρ.up s.nx (.v v' (ms++ns)) s.nx).ns.sum+(ρ.up s.nx (.v v' (ms++ns)) s.nx).ns.length:Nat):Int)=_;rw[hn',zak,zdy];omega
    have:=((hbase.n9 a1).n9 a2).put (v:=sc (.ref s.nx)) d;rw[show (sc (.ref s.nx)).den (ρ.up s.nx (.v v' (ms++ns)))=v' from hv']at this;exact this
theorem D0 {cl:Call}{ts tx e:TypeId}{ys yx:Operand}{cc g:Nat}{len:LE}{v u:SV}{ms:List Nat}{K:SS->R}(hg:(ae ops i).guard=none)(hd:(ae ops i).dst=some d)(hlt:d<c.nt)(ho:(ae ops i).op=.call cl)(hc:cl.callee=.builtin .append)(ht:cl.argTypes.toList=[ts,tx])(hx:cl.args.toList=[ys,yx])
  (hP:cf.P=c.P) (hΦ:cf.Φ=c.Φ) (pD:CM c.P ts tx=some e) (h:(FX cf e d cc g len u s K).Ok) (hk:Ok c T G Γ ρ s) (hv:a9 c.nt T ys (v.den ρ)) (hu:a9 c.nt T yx (u.den ρ)) (hun:c.Φ.fV cc=true) (htv:fF c.P c.Φ G Γ (.sl (v.den ρ) cc (ig ρ g) ms)) (hl:len.ev ρ=(ms.length:Int)):Hv c T G Γ ops i s ρ K:=by
 unfold FX at h;rw[hP,hΦ]at h;cases hb:(Nat.beq (c.Φ.ty cc) e&&(uQ s g&&!c.Φ.raw cc))with
 |false=>rw[hb]at h;cases h
 |true =>
  rw[hb]at h;rw[za,za,zam]at hb;obtain⟨hb,hgi,hrw⟩:=hb;have hb:=aj hb;subst hb;simp only[cond_true]at h;cases hsr:A1 cf s cc g len u with
  |none=>rw[hsr]at h;cases h
  |some p =>
   obtain⟨n,w⟩:=p;rw[hsr]at h;simp only at h;cases hf:(aX s ((LE.k (CK c.P (c.Φ.ty cc))).sub (len.add n))&&((len.add n).lt s.nx&&bG s.nx g))with
   |false=>rw[hf]at h;cases h
   |true =>
    rw[hf]at h;simp only[cond_true]at h;simp only[za]at hf;obtain⟨f1,f2,f3⟩:=hf;obtain⟨h1,⟨e',h2⟩,zz,h3,h4⟩:=yu pD;have h5:=h4;simp only[za]at h5;have hsz:=ax h5.2.2;have hJ:ms.length=(len.ev ρ).toNat:=by rw[hl];rfl
    obtain⟨ns,E,k1,k2,k3,k4,k5,k6,k7⟩:=yq hP hΦ hsr hk hJ hsz;have hcap:=av f1 hk.sat;rw[LE.au,LE.bk,LE.ij,hl,k3]at hcap;obtain⟨c1,c2⟩:=yr (P:=c.P) (e:=c.Φ.ty cc) (n:=ms.length+ns.length) (by omega) (aN h5.1);obtain⟨E1,x1,x2,x3⟩:=hk.q.FX (n:=ns.length) (E2:=E) (v:=v.den ρ) (cc:=cc) htv hun hrw (kH hgi hk) k5 k2 (fun j hj=>(k6 j _ (zaj hj)).more (k7 hun _ (zcp hj))) c2;refine fI.yh hg hd hlt ho hc ht hx h1 h2 (fun k h=>by cases h) h3 h4 hv hu x1 x2 k1 c1 (zay c2 (by unfold ma;omega)) fun v' G' ha hnf=>?_;obtain⟨Γ',hq'⟩:=x3 G' v' ha;have href:cD v'=true:=uN (hq'.ty _ (zac ..));have hlim:(List.replicate (ms.length+ns.length) WU).length<=ma:=by rw[zai];exact c2
    obtain⟨r1,r2,r3,r4⟩:=az h hk (.v v' (List.replicate (ms.length+ns.length) WU));have hv':(ρ.up s.nx (.v v' (List.replicate (ms.length+ns.length) WU)) s.nx).vv=v':=by rw[r4];exact U.j6 href
    have hn':(ρ.up s.nx (.v v' (List.replicate (ms.length+ns.length) WU)) s.nx).ns=List.replicate (ms.length+ns.length) WU:=by rw[r4];exact U.lr hlim
    have eD:=(SS.cg (dK h) r2).1;refine⟨rfl,rfl,Γ',_,_,r1,r2,zan _,?_⟩
    have hbase:Ok c T G' Γ' (ρ.up s.nx (.v v' (List.replicate (ms.length+ns.length) WU))) (bL (aC s) (.sl s.nx cc g)):=by
     refine⟨⟨r3.sat.fs,r3.sat.bs,r3.sat.pw,r3.sat.ats,r3.sat.dB,r3.sat.ne,r3.sat.fz,r3.sat.sb⟩,?_⟩
     have:(bL (aC s) (.sl s.nx cc g)).den (ρ.up s.nx (.v v' (List.replicate (ms.length+ns.length) WU)))=⟨(s.den ρ).L,(s.den ρ).os,.sl v' cc (ig ρ g) (List.replicate (ms.length+ns.length) WU)::(s.den ρ).eF,(s.den ρ).gs⟩:=by
      refine St.ext' (by have:=congrArg St.L eD;exact this) (by have:=congrArg St.os eD;exact this) ?_ (by have:=congrArg St.gs eD;exact this);show dW.den _ (.sl s.nx cc g)::s.ty.map (dW.den _)=_;rw[show s.ty.map (dW.den (ρ.up s.nx (.v v' (List.replicate (ms.length+ns.length) WU))))=(s.den ρ).eF from congrArg St.eF eD];simp only[dW.den];rw[hv',hn',bR r2 f3]
     rw[this];exact hq'
    have a1:(LE.a (.len s.nx)).ev (ρ.up s.nx (.v v' (List.replicate (ms.length+ns.length) WU)))=(len.add n).ev (ρ.up s.nx (.v v' (List.replicate (ms.length+ns.length) WU))):=by
     rw[LE.cg r2 f2,LE.ij,hl,k3,LE.aV];show (((ρ.up s.nx (.v v' (List.replicate (ms.length+ns.length) WU)) s.nx).ns.length:Nat):Int)=_;rw[hn',zai];omega
    have:=(hbase.n9 a1).put (v:=sc (.ref s.nx)) d;rw[show (sc (.ref s.nx)).den (ρ.up s.nx (.v v' (List.replicate (ms.length+ns.length) WU)))=v' from hv']at this;exact this
theorem CN {cl:Call}{ts tx:TypeId}{ys yx:Operand}{v u:SV}{an:Option (Nat×Nat)}{K:SS->R}(hg:(ae ops i).guard=none)(hd:(ae ops i).dst=some d)(hlt:d<c.nt)(ho:(ae ops i).op=.call cl)(hc:cl.callee=.builtin .append)(ht:cl.argTypes.toList=[ts,tx])(hx:cl.args.toList=[ys,yx])
  (hP:cf.P=c.P) (hΦ:cf.Φ=c.Φ) (h:(pD cf ts tx d v u an s K).Ok) (hk:Ok c T G Γ ρ s) (hv:a9 c.nt T ys (v.den ρ)) (hu:a9 c.nt T yx (u.den ρ)):Hv c T G Γ ops i s ρ K:=by
 unfold pD at h;rw[hP]at h;split at h
 ·rename_i e pD;split at h
  ·rename_i cc g;rw[hΦ]at h;cases hun:c.Φ.fV cc with
   |true =>
    rw[hun]at h;exact D0 (v:=.v false [.ab]) (ms:=[]) hg hd hlt ho hc ht hx hP hΦ pD h hk hv hu hun ⟨zbo _,.inl ⟨rfl,rfl⟩⟩ (by rw[LE.bk];rfl)
   |false =>
    rw[hun]at h;refine DZ (v:=.v false [.ab]) (ms:=[]) hg hd hlt ho hc ht hx hP hΦ pD h hk hv hu ?_ (by rw[LE.bk];rfl) (by rw[LE.bk];rfl);have q:=hk.q;refine⟨q.ml,q.at_,q.xU,q.rl,q.grow,fun o ho=>?_,fun o ho b hb=>?_,?_,q.ht,q.ty,q.gs⟩
    ·rcases List.mem_append.1 ho with ho|ho
     ·exact q.own o ho
     ·rw[List.mem_singleton.1 ho];exact⟨hun,zbo _,.inl ⟨rfl,rfl⟩⟩
    ·rcases List.mem_append.1 ho with ho|ho
     ·exact q.new o ho b hb
     ·rw[List.mem_singleton.1 ho]at hb;cases hb
    ·show (eV (_++[Own.jg .ab cc []])).Nodup;rw[fb];have:eV [Own.jg .ab cc []]=[]:=rfl;rw[this,zbg];exact q.nd
  ·cases h
 ·rename_i e x pD;split at h
  ·rename_i cc g hf;rw[hΦ]at h;cases hun:c.Φ.fV cc with
   |true =>
    rw[hun]at h;exact D0 (v:=.v false [.ref x]) (ms:=(ρ x).ns) hg hd hlt ho hc ht hx hP hΦ pD h hk hv hu hun (hk.ty (gI hf)) (by rw[LE.aV];rfl)
   |false =>
    rw[hun]at h;simp only[cond_false]at h;cases hr:eX s.os x cc with
    |none=>rw[hr]at h;cases h
    |some osA =>
     rw[hr]at h;refine DZ (v:=.v false [.ref x]) (ms:=(ρ x).ns) hg hd hlt ho hc ht hx hP hΦ pD h hk hv hu ?_ (by rw[LE.aV];rfl) (by rw[LE.aV];rfl);refine hk.q.iW (fun _ _ h=>h) ⟨[],?_⟩ (fun f h=>h) (fun p h=>h);have:=(fC hr).map (SO.den ρ);rw[zar,zbc]at this;rw[zbg];exact this
  ·cases h
 ·cases h
end
end Go.Rd
namespace Go.Rd
open Go.aK Go.RowKit Go.Rt
inductive IA where|ul (c g:Nat)|bl (m:Nat) (el:TypeId)
def Bv:List SO->Nat->Option IA
 | [],_=>none
 |.ul y c g::l,x=>bif Nat.beq y x then some (.ul c g)else Bv l x
 |.bl y m el::l,x=>bif Nat.beq y x then some (.bl m el)else Bv l x
 |_::l,x=>Bv l x
def IA.so (x:Nat):IA->SO|.ul c g=>.ul x c g|.bl m el=>.bl x m el
theorem gp:∀{l:List SO}{x:Nat}{w:IA},Bv l x=some w->w.so x∈l
 | [],_,_,h=>by cases h
 |.ul y c g::l,x,w,h=>by
  have h:(bif Nat.beq y x then some (.ul c g)else Bv l x)=some w:=h;cases hb:Nat.beq y x with
  |true=>rw[hb]at h;cases h;have:=aj hb;subst this;exact zac ..
  |false=>rw[hb]at h;exact zaa _ (gp h)
 |.bl y m el::l,x,w,h=>by
  have h:(bif Nat.beq y x then some (.bl m el)else Bv l x)=some w:=h;cases hb:Nat.beq y x with
  |true=>rw[hb]at h;cases h;have:=aj hb;subst this;exact zac ..
  |false=>rw[hb]at h;exact zaa _ (gp h)
 |.loc _ _ _::l,_,_,h=>zaa _ (gp (l:=l) h)
 |.jg _ _::l,_,_,h=>zaa _ (gp (l:=l) h)
 |.em _ _::l,_,_,h=>zaa _ (gp (l:=l) h)
 |.am _ _ _::l,_,_,h=>zaa _ (gp (l:=l) h)
 |.im _ _::l,_,_,h=>zaa _ (gp (l:=l) h)
 |.km _ _ _ _::l,_,_,h=>zaa _ (gp (l:=l) h)
 |.rm _ _ _ _::l,_,_,h=>zaa _ (gp (l:=l) h)
 |.kq _ _ _ _ _::l,_,_,h=>zaa _ (gp (l:=l) h)
 |.it _ _ _ _ _ _::l,_,_,h=>zaa _ (gp (l:=l) h)
inductive V7 where|am (g k:Nat)|im (e:LE)|em (pk:KK)|km (c g:Nat) (n:LE)|kq (c g:Nat) (n:LE) (q:Option (SV×Option (Bool×List SC)))
def tn:List SO->Nat->Option V7
 | [],_=>none
 |.am y g k::l,x=>bif Nat.beq y x then some (.am g k)else tn l x
 |.im y e::l,x=>bif Nat.beq y x then some (.im e)else tn l x
 |.em y pk::l,x=>bif Nat.beq y x then some (.em pk)else tn l x
 |.km y c g n::l,x=>bif Nat.beq y x then some (.km c g n)else tn l x
 |.kq y c g n q::l,x=>bif Nat.beq y x then some (.kq c g n q)else tn l x
 |_::l,x=>tn l x
def V7.so (x:Nat):V7->SO|.am g k=>.am x g k|.im e=>.im x e|.em pk=>.em x pk|.km c g n=>.km x c g n|.kq c g n q=>.kq x c g n q
theorem dS:∀{l:List SO}{x:Nat}{w:V7},tn l x=some w->w.so x∈l
 | [],_,_,h=>by cases h
 |.am y g k::l,x,w,h=>by
  have h:(bif Nat.beq y x then some (.am g k)else tn l x)=some w:=h;cases hb:Nat.beq y x with
  |true=>rw[hb]at h;cases h;have:=aj hb;subst this;exact zac ..
  |false=>rw[hb]at h;exact zaa _ (dS h)
 |.im y e::l,x,w,h=>by
  have h:(bif Nat.beq y x then some (.im e)else tn l x)=some w:=h;cases hb:Nat.beq y x with
  |true=>rw[hb]at h;cases h;have:=aj hb;subst this;exact zac ..
  |false=>rw[hb]at h;exact zaa _ (dS h)
 |.em y pk::l,x,w,h=>by
  have h:(bif Nat.beq y x then some (.em pk)else tn l x)=some w:=h;cases hb:Nat.beq y x with
  |true=>rw[hb]at h;cases h;have:=aj hb;subst this;exact zac ..
  |false=>rw[hb]at h;exact zaa _ (dS h)
 |.km y c g n::l,x,w,h=>by
  have h:(bif Nat.beq y x then some (.km c g n)else tn l x)=some w:=h;cases hb:Nat.beq y x with
  |true=>rw[hb]at h;cases h;have:=aj hb;subst this;exact zac ..
  |false=>rw[hb]at h;exact zaa _ (dS h)
 |.kq y c g n q::l,x,w,h=>by
  have h:(bif Nat.beq y x then some (.kq c g n q)else tn l x)=some w:=h;cases hb:Nat.beq y x with
  |true=>rw[hb]at h;cases h;have:=aj hb;subst this;exact zac ..
  |false=>rw[hb]at h;exact zaa _ (dS h)
 |.rm _ _ _ _::l,_,_,h=>zaa _ (dS (l:=l) h)
 |.it _ _ _ _ _ _::l,_,_,h=>zaa _ (dS (l:=l) h)
 |.loc _ _ _::l,_,_,h=>zaa _ (dS (l:=l) h)
 |.jg _ _::l,_,_,h=>zaa _ (dS (l:=l) h)
 |.ul _ _ _::l,_,_,h=>zaa _ (dS (l:=l) h)
 |.bl _ _ _::l,_,_,h=>zaa _ (dS (l:=l) h)
def IA.ln (x:Nat):IA->Nat|.ul _ _=>x|.bl m _=>m
def yM (s:SS)(w:IA)(y:Nat)(e:LE):Bool:=aX s e&&aX s (((LE.a (.len (w.ln y))).sub e).aO (-1))
def IA.el (Φ:Forms):IA->TypeId|.ul c _=>Φ.ty c|.bl _ el=>el
def W4 (cf:Cf)(t:TypeId)(v:SV)(f:Nat)(s:SS)(K:SV->SS->R):R:=match v with
 |.v false [.py y e sz o]=>(match Bv s.os y,fj cf.P t f with
  |some w,some (off,ft)=>bif !Nat.beq (af cf.P ft) 0&&yM s w y e then K (sc (.py y e sz (o+off))) s else .bad 140 s
  |_,_=>TA cf t v f s K)
 |_=>TA cf t v f s K
def W5 (cf:Cf)(t:TypeId)(x:SV)(e:SV)(s:SS)(K:SV->SS->R):R:=match x,e with
 |.v false [.ref y],.v false [.int kd e']=>(match Bv s.os y,cf.P.underlying t with
  |some w,some (.slice el)=>bif Nat.beq el (w.el cf.Φ)&&((cf.P.info? el).isSome&&yM s w y e')then K (sc (.py y e' (af cf.P el) 0)) s else .bad 141 s
  |_,_=>TC cf t x e s K)
 |_,_=>TC cf t x e s K
def ZM (y m:Nat)(e:LE)(s:SS)(K:SV->SS->R):R:=bif Nat.blt m s.nx&&e.lt s.nx then
 (K (sc (.bool (.k true))) s).and (fresh s fun p s=>K (sc (.bool (.k false))) (aF (qB (qB s (m,e,.a (.n p))) (m,e.aO 1,(LE.a (.n p)).aO 2)) (((LE.a (.wt m)).sub (.a (.n p))).aO (-2))))
 else .bad 142 s
def old (cf:Cf)(t:TypeId)(x:SV)(s:SS)(K:SV->SS->R):R:=match x with
 |.v false [.py y e sz o]=>(match Bv s.os y with
  |some (.ul cc g)=>bif yM s (.ul cc g) y e&&(Nat.beq sz (af cf.P (cf.Φ.ty cc)))then
   (bif ec cf.P t then ye cf cc g e o (af cf.P t) true (.k WU) s K else bif cM cf.P t then ye cf cc g e o 1 false (.k WU) s K else .bad 143 s)else .bad 144 s
  |some (.bl m el)=>bif yM s (.bl m el) y e&&(Nat.beq sz 1&&(Nat.beq o 0&&(!ec cf.P t&&cM cf.P t)))then ZM y m e s K else .bad 145 s
  |none=>TE cf t x s K)
 |_=>TE cf t x s K
def TK (cf:Cf)(t:TypeId)(m k:SV)(ok:Bool)(s:SS)(K:SV->SS->R):R:=match m with
 |.v false [.cV b]=>(match cf.P.underlying t,tn s.os b with
  |some (.map kt et),some w=>(match (zeroOf cf.P et).bind tg with
   |some (.v ag cs)=>(match w with
    |.am g q=>bif gl cf kt .str&&eC .str k then V4 cf g q k ok (ag,cs) s K else .bad 146 s
    |.im e=>bif gl cf kt .str&&(eC .str k&&e.lt s.nx)then (K (jP ok (ag,cs)) s).and (fresh s fun n s=>K (qF ok (false,[.int .i64 (.a (.n n))])) (aF s ((e.sub (.a (.n n))).aO (-1))))else .bad 146 s
    |.em pk=>bif gl cf kt pk&&eC pk k then K (jP ok (ag,cs)) s else .bad 146 s
    |.km cc g _=>bif gl cf kt (cf.Φ.pk cc)&&eC (cf.Φ.pk cc) k then TH cf g (cf.Φ.mv cc) k ok (ag,cs) s K else .bad 146 s
    |.kq cc g _ _=>bif gl cf kt (cf.Φ.pk cc)&&eC (cf.Φ.pk cc) k then TH cf g (cf.Φ.mv cc) k ok (ag,cs) s K else .bad 146 s)
   |_=>.bad 147 s)
  |_,_=>.bad 148 s)
 |_=>V5 cf t m k ok s K
def TL (cf:Cf)(t:TypeId)(x:SV)(s:SS)(K:SV->SS->R):R:=match x with
 |.v false [.ref y]=>(match Bv s.os y,cf.P.underlying t with
  |some w,some (.slice _)=>K (sc (.int .i64 (.a (.len (w.ln y))))) s
  |_,_=>TG cf t x s K)
 |.v false [.wA b n]=>(match cf.P.underlying t with
  |some (.slice _)=>K (sc (.int .i64 (.k n))) s
  |_=>.bad 149 s)
 |_=>TG cf t x s K
def A3 (cf:Cf)(o:Op)(s:SS)(K:SV->SS->R):R:=match o with
 |.fieldAddr t (.tmp x) f=>wv s (.tmp x) fun v=>W4 cf t v f s K
 |.load t (.tmp x)=>wv s (.tmp x) fun v=>old cf t v s K
 |.indexAddr t (.tmp x) y=>wv s (.tmp x) fun v=>wv s y fun u=>W5 cf t v u s K
 |.lookup t x y ok=>wv s x fun v=>wv s y fun u=>TK cf t v u ok s K
 |.nilCheck (.tmp x)=>wv s (.tmp x) fun v=>(match v with
  |.v false [.py y e sz o]=>(match Bv s.os y with
   |some w=>bif yM s w y e then K v s else .bad 150 s
   |none=>TB v s K)
  |_=>TB v s K)
 |.call cl=>(match cl.callee,cl.args.toList,cl.argTypes.toList with
  |.builtin .len,[x],t::_=>wv s x fun v=>TL cf t v s K
  |_,_,_=>.bad 12 s)
 |o=>WY cf o s K
section
variable {c:Cx}{T:Tm}{G:GH}{Γ:dI}{ρ ρ':bm}{s s':SS}{cf:Cf}{ops:Array Oper}{i d:Nat}
theorem uR {w:IA}{y:Nat}{e:LE}(hw:Bv s.os y=some w)(h:yM s w y e=true)(hk:Ok c T G Γ ρ s):∃b cp size C,(ρ y).vv=.dx b 0 (ρ (w.ln y)).ns.length cp/\0<=e.ev ρ/\(e.ev ρ).toNat<(ρ (w.ln y)).ns.length/\Γ.m b=none/\G b=some (.cells .data (w.el c.Φ) size C) /\
  (match w with|.ul cc g=>C.length=(ρ y).ns.length*af c.P (c.Φ.ty cc)/\eY c.P c.Φ G Γ WU cc (ig ρ g) (e.ev ρ).toNat ((C.drop ((e.ev ρ).toNat*af c.P (c.Φ.ty cc))).take (af c.P (c.Φ.ty cc)))|.bl m el=>C=(ρ m).ns.map (fun m=>AV.bool (Nat.beq m 0))/\∀q∈(ρ m).ns,q<=1):=by
 unfold yM at h;rw[za]at h;have e1:=av h.1 hk.sat;have e2:=av h.2 hk.sat;rw[LE.aE,LE.au,LE.aV]at e2;have e2:0<=((ρ (w.ln y)).ns.length:Int)-e.ev ρ+-1:=e2;have ho:=hk.own (gp hw);cases w with
 |ul cc g =>
  obtain⟨_,_,h3⟩:_/\_/\_:=ho;rcases h3 with ⟨_,h0⟩|⟨b,cp,size,C,q1,q2,q3,q4,q5,q6,q7⟩
  ·have h0:(ρ y).ns.length=0:=h0;have e2:0<=((ρ y).ns.length:Int)-e.ev ρ+-1:=e2;omega
  ·have e2:0<=((ρ y).ns.length:Int)-e.ev ρ+-1:=e2;exact⟨b,cp,size,C,q1,e1,by show (e.ev ρ).toNat<(ρ y).ns.length;omega,q2,q3,q4,q7 _ (by show (e.ev ρ).toNat<(ρ y).ns.length;omega)⟩
 |bl m el =>
  obtain⟨_,hm,b,size,q1,q2,q3⟩:=ho;have e2:0<=((ρ m).ns.length:Int)-e.ev ρ+-1:=e2;exact⟨b,_,size,_,q1,e1,by show (e.ev ρ).toNat<(ρ m).ns.length;omega,q2,q3,rfl,hm⟩
theorem j7 {y sz o b cp l:Nat}{e:LE}(h:(ρ y).vv=.dx b 0 l cp):(SV.v false [.py y e sz o]).den ρ=.bZ b ((e.ev ρ).toNat*sz+o):=by
 show pz (ρ y).vv _=_;rw[me h,zap]
theorem Qz {t:TypeId}{x f:Nat}{v:SV}{K:SV->SS->R}(ho:(ae ops i).op=.fieldAddr t (.tmp x) f)(hg:(ae ops i).guard=none)(hP:cf.P=c.P)(h:(W4 cf t v f s K).Ok)(hk:Ok c T G Γ ρ s)(hx:T.at x=v.den ρ):Lo c T G Γ ops i s ρ K:=by
 unfold W4 at h;split at h
 ·rename_i y e sz o;split at h
  ·rename_i w off ft hw hf;rw[hP]at h hf;cases hb:(!Nat.beq (af c.P ft) 0&&yM s w y e)with
   |false=>rw[hb]at h;cases h
   |true =>
    rw[hb]at h;rw[za,zam]at hb;obtain⟨b,cp,size,C,q1,_⟩:=uR hw hb.2 hk;refine Lo.here hk h ?_;have e1:(sc (.py y e sz (o+off))).den ρ=.bZ b ((e.ev ρ).toNat*sz+(o+off)):=j7 q1;rw[e1,<-zbp];exact ba.field hg ho (hx.trans (j7 q1)) hf hb.1
  ·exact Cv ho hg hP h hk hx
 ·exact Cv ho hg hP h hk hx
theorem QA {t:TypeId}{x:Nat}{y:Operand}{v u:SV}{K:SV->SS->R}(ho:(ae ops i).op=.indexAddr t (.tmp x) y)(hg:(ae ops i).guard=none)(hP:cf.P=c.P)(hΦ:cf.Φ=c.Φ)(h:(W5 cf t v u s K).Ok)(hk:Ok c T G Γ ρ s)(hx:T.at x=v.den ρ)(hy:a9 c.nt T y (u.den ρ)):Lo c T G Γ ops i s ρ K:=by
 unfold W5 at h;split at h
 ·rename_i q kd e';split at h
  ·rename_i w el hw hu;rw[hP,hΦ]at h;rw[hP]at hu;cases hb:(Nat.beq el (w.el c.Φ)&&((c.P.info? el).isSome&&yM s w q e'))with
   |false=>rw[hb]at h;cases h
   |true =>
    rw[hb]at h;simp only[za]at hb;obtain⟨b,cp,size,C,q1,q2,q3,_⟩:=uR hw hb.2.2 hk;refine Lo.here hk h ?_;have e1:(sc (.py q e' (af c.P el) 0)).den ρ=.bZ b ((e'.ev ρ).toNat*af c.P el+0):=j7 q1;rw[e1,zbt,<-zap ((e'.ev ρ).toNat*af c.P el)];refine ba.Cy hg ho (hx.trans q1) ?_ hu hb.2.1 rfl q3 (kd:=kd);have:(SV.v false [.int kd e']).den ρ=.int kd (.ofNat (e'.ev ρ).toNat):=by show AV.int kd (e'.ev ρ)=_;congr 1;exact (zbm q2).symm
    rw[<-this];exact hy
  ·exact Cz ho hg hP hΦ h hk hx hy
 ·exact Cz ho hg hP hΦ h hk hx hy
theorem QB {t:TypeId}{x:Nat}{v:SV}{K:SV->SS->R}(ho:(ae ops i).op=.load t (.tmp x))(hg:(ae ops i).guard=none)(hP:cf.P=c.P)(hΦ:cf.Φ=c.Φ)(h:(old cf t v s K).Ok)(hk:Ok c T G Γ ρ s)(hx:T.at x=v.den ρ):Lo c T G Γ ops i s ρ K:=by
 unfold old at h;split at h
 ·rename_i y e sz o;split at h
  ·rename_i cc g hw;rw[hP,hΦ]at h;cases hb:(yM s (.ul cc g) y e&&(Nat.beq sz (af c.P (c.Φ.ty cc))))with
   |false=>rw[hb]at h;cases h
   |true =>
    rw[hb]at h;simp only[cond_true]at h;rw[za]at hb;obtain⟨b,cp,size,C,q1,q2,q3,q4,q5,q6,q7⟩:=uR hw hb.1 hk;have q3:(e.ev ρ).toNat<(ρ y).ns.length:=q3;have hsz:=aj hb.2;subst hsz;have hx':T.at x=.bZ b ((e.ev ρ).toNat*af c.P (c.Φ.ty cc)+o):=hx.trans (j7 q1);have h1:((e.ev ρ).toNat+1)*af c.P (c.Φ.ty cc)<=(ρ y).ns.length*af c.P (c.Φ.ty cc):=zae _ q3;rw[zau]at h1
    have hlen:(c.Φ.ks cc).length=af c.P (c.Φ.ty cc):=by
     obtain⟨fs,w1,_⟩:=q7;rw[<-w1.len,zag,zas];omega
    have fin:∀{n:Nat} {ag:Bool},(ye cf cc g e o n ag (.k WU) s K).Ok->(ag=true/\ec c.P t=true/\n=af c.P t)∨(ag=false/\ec c.P t=false/\cM c.P t=true/\n=1)->Lo c T G Γ ops i s ρ K:=fun {n ag} h hcs=>by
     have hle:o+n<=(c.Φ.ks cc).length:=by
      have hp:=h;unfold ye at hp;rw[hΦ]at hp;cases hc:Nat.ble (o+n) (c.Φ.ks cc).length with
      |false=>rw[hc]at hp;cases hp
      |true=>exact aN hc
     refine (CC hΦ h hk ⟨q2,rfl⟩ q7 (by rw[LE.bk];exact zby _)).mono fun ρ2 s2 a2 n2 o2 hh=>?_;obtain⟨xs,g1,g2⟩:=hh
     have e1:(((C.drop ((e.ev ρ).toNat*af c.P (c.Φ.ty cc))).take (af c.P (c.Φ.ty cc))).drop o).take n=(C.drop ((e.ev ρ).toNat*af c.P (c.Φ.ty cc)+o)).take n:=by
      rw[zec,zex,zct,zch (by omega)]
     rw[e1]at g2;rcases hcs with ⟨rfl,h1,rfl⟩|⟨rfl,h1,h2,h3⟩
     ·exact⟨_,g1,by
        show ba _ _ _ _ _ _ _ _ _ (.agg (aD ρ2 xs));rw[g2]
        exact ba.DC hg ho hx' h1 rfl q5 (by omega) rfl⟩
     ·obtain⟨u,rfl,hu⟩:=Ig g2 h3 (by omega);exact⟨_,g1,ba.Av hg ho hx' h2 h1 q5 hu⟩
    cases ha:ec c.P t with
    |true=>rw[ha]at h;exact fin h (.inl ⟨rfl,ha,rfl⟩)
    |false =>
     rw[ha]at h;cases hkn:cM c.P t with
     |false=>rw[hkn]at h;cases h
     |true=>rw[hkn]at h;exact fin h (.inr ⟨rfl,ha,hkn,rfl⟩)
  ·rename_i m el hw;rw[hP]at h;cases hb:(yM s (.bl m el) y e&&(Nat.beq sz 1&&(Nat.beq o 0&&(!ec c.P t&&cM c.P t))))with
   |false=>rw[hb]at h;cases h
   |true =>
    rw[hb]at h;simp only[cond_true]at h;simp only[za,zam]at hb;obtain⟨b1,b2,b3,b4,b5⟩:=hb;obtain⟨b,cp,size,C,q1,q2,q3,q4,q5,q6,q7⟩:=uR hw b1 hk;have q3:(e.ev ρ).toNat<(ρ m).ns.length:=q3;have b2:=aj b2;have b3:=aj b3;subst b2 b3;have hx':T.at x=.bZ b (e.ev ρ).toNat:=(hx.trans (j7 q1)).trans (by rw[zey,zbt]);have hm:(ρ m).ns[(e.ev ρ).toNat]?=some (ρ m).ns[(e.ev ρ).toNat]:=zaj q3;have hC:C[(e.ev ρ).toNat]?=some (.bool (Nat.beq (ρ m).ns[(e.ev ρ).toNat] 0)):=by rw[q6,zcd,hm];rfl
    have hl:ba c.P ops c.n0 c.nt i T .e (aK.z 0) G (.bool (Nat.beq (ρ m).ns[(e.ev ρ).toNat] 0)):=ba.Av hg ho hx' b5 b4 q5 hC;unfold ZM at h;cases hb2:(Nat.blt m s.nx&&e.lt s.nx)with
    |false=>rw[hb2]at h;cases h
    |true =>
     rw[hb2]at h;rw[za]at hb2;obtain⟨h1,h2⟩:=R.eW h;cases hz:Nat.beq (ρ m).ns[(e.ev ρ).toNat] 0 with
     |true=>rw[hz]at hl;exact Lo.here hk h1 hl
     |false =>
      rw[hz]at hl
      have hone:(ρ m).ns[(e.ev ρ).toNat]=1:=by
       have:=q7 _ (zcp q3);have:(ρ m).ns[(e.ev ρ).toNat]≠0:=fun h0=>by rw[h0]at hz;cases hz
       omega
      obtain⟨k1,k2,k3,k4⟩:=az h2 hk (.n (((ρ m).ns.take (e.ev ρ).toNat).sum+(e.ev ρ).toNat));have zJ:=k2 m (ax hb2.1);have hp:(LE.a (.n s.nx)).ev (ρ.up s.nx (.n (((ρ m).ns.take (e.ev ρ).toNat).sum+(e.ev ρ).toNat)))=((((ρ m).ns.take (e.ev ρ).toNat).sum+(e.ev ρ).toNat:Nat):Int):=by rw[LE.aV];show ((ρ.up s.nx (.n _) s.nx).nn:Int)=_;rw[k4];rfl
      have hsum:((ρ m).ns.take ((e.ev ρ).toNat+1)).sum=((ρ m).ns.take (e.ev ρ).toNat).sum+1:=by
       rw[List.take_add_one,hm,zdy,hone];simp
      have htot:((ρ m).ns.take ((e.ev ρ).toNat+1)).sum<=(ρ m).ns.sum:=by
       have:=zdf ((e.ev ρ).toNat+1) (ρ m).ns;have h2:=congrArg List.sum this;rw[zdy]at h2;omega
      refine fO.mk k2 (zan _) (((k3.qB (p:=(m,e,.a (.n s.nx))) ?_).qB (p:=(m,e.aO 1,(LE.a (.n s.nx)).aO 2)) ?_).aF ?_) ⟨_,k1,hl⟩
      ·show 0<=e.ev _/\((((ρ.up s.nx (.n _) m).ns.take (e.ev _).toNat).sum:Nat):Int)+e.ev _=(LE.a (.n s.nx)).ev _;rw[hp,LE.cg k2 hb2.2,zJ];exact⟨q2,by omega⟩
      ·show 0<=(e.aO 1).ev _/\((((ρ.up s.nx (.n _) m).ns.take ((e.aO 1).ev _).toNat).sum:Nat):Int)+(e.aO 1).ev _=((LE.a (.n s.nx)).aO 2).ev _;rw[LE.aE,LE.aE,hp,LE.cg k2 hb2.2,zJ,show (e.ev ρ+1).toNat=(e.ev ρ).toNat+1 by omega,hsum];exact⟨by omega,by omega⟩
      ·rw[LE.aE,LE.au,hp,LE.aV];show 0<=(((ρ.up s.nx (.n _) m).ns.sum+(ρ.up s.nx (.n _) m).ns.length:Nat):Int)-_+-2;rw[zJ];omega
  ·exact CD ho hg hP hΦ h hk hx
 ·exact CD ho hg hP hΦ h hk hx
theorem CO {t:TypeId}{x y:Operand}{v u:SV}{ok:Bool}{K:SV->SS->R}(ho:(ae ops i).op=.lookup t x y ok)(hg:(ae ops i).guard=none)(hP:cf.P=c.P)(hΦ:cf.Φ=c.Φ)(hK:dJ cf)(h:(TK cf t v u ok s K).Ok)(hk:Ok c T G Γ ρ s)(hx:a9 c.nt T x (v.den ρ))(hy:a9 c.nt T y (u.den ρ)):Lo c T G Γ ops i s ρ K:=by
 unfold TK at h;split at h
 ·rename_i b;have hx:a9 c.nt T x (.cV (ρ b).nn):=hx;split at h
  ·rename_i kt et w hu hw;rw[hP]at h hu;split at h
   ·rename_i ag cs hz;cases hzz:zeroOf c.P et with
    |none=>rw[hzz]at hz;cases hz
    |some zz =>
     rw[hzz]at hz;have hz:tg zz=some (.v ag cs):=hz;have hz1:∀ρ,cj ρ (ag,cs)=zz:=fun ρ=>kD hz ρ;have hown:=hk.own (dS hw);split at h
     ·rename_i g q;cases hb:(gl cf kt .str&&eC .str u)with
      |false=>rw[hb]at h;cases h
      |true =>
       rw[hb]at h;rw[za]at hb;have hMt:=gm hb.1 hK;rw[hP]at hMt;obtain⟨_,_,hbd,es,r1,r2,r3⟩:=hown;exact Ii (cf:=cf) h hk hz1 hb.2 r3 hbd (ba.lookup hg ho hu hzz hMt hx hy (ew hb.2 ρ) r1 fun p hp=>(r2 p hp).1)
     ·rename_i e;cases hb:(gl cf kt .str&&(eC .str u&&e.lt s.nx))with
      |false=>rw[hb]at h;cases h
      |true =>
       rw[hb]at h;simp only[za]at hb;have hMt:=gm hb.1 hK;rw[hP]at hMt;obtain⟨_,es,r1,r2⟩:=hown;have hl:=ba.lookup (n0:=c.n0) (nt:=c.nt) (T:=T) (hp:=.e) (nx:=aK.z 0) hg ho hu hzz hMt hx hy (ew hb.2.1 ρ) r1 fun p hp=>(r2 p hp).1;obtain⟨h1,h2⟩:=R.eW h;cases hf:cn (u.den ρ) es with
       |none=>rw[hf]at hl;exact Lo.here hk h1 (by rw[iX,hz1];exact hl)
       |some v =>
        rw[hf]at hl;obtain⟨p,m1,rfl⟩:=iH hf;obtain⟨_,n,e1,e2⟩:=r2 p m1;obtain⟨k1,k2,k3,k4⟩:=az h2 hk (.n n);have hev:(LE.a (.n s.nx)).ev (ρ.up s.nx (.n n))=n:=by rw[LE.aV];show ((ρ.up s.nx (.n n) s.nx).nn:Int)=n;rw[k4];rfl
        refine fO.mk k2 (zan _) (k3.aF ?_) ⟨_,k1,?_⟩
        ·rw[LE.aE,LE.au,hev,LE.cg k2 hb.2.2];omega
        ·rw[iQ];have e3:cj (ρ.up s.nx (.n n)) (false,[SC.int .i64 (.a (.n s.nx))])=.int .i64 (.ofNat n):=by show AV.int .i64 ((LE.a (.n s.nx)).ev _)=_;rw[hev];rfl
         rw[e3];rw[e1]at hl;exact hl
     ·rename_i pk;cases hb:(gl cf kt pk&&eC pk u)with
      |false=>rw[hb]at h;cases h
      |true =>
       rw[hb]at h;rw[za]at hb;have hMt:=gm hb.1 hK;rw[hP]at hMt;have r1:G (ρ b).nn=some (.map []):=hown.1;have hl:=ba.lookup (n0:=c.n0) (nt:=c.nt) (T:=T) (hp:=.e) (nx:=aK.z 0) hg ho hu hzz hMt hx hy (ew hb.2 ρ) r1 fun p hp=>by cases hp
       exact Lo.here hk h (by rw[iX,hz1];exact hl)
     ·rename_i cc g n;rw[hΦ]at h;cases hb:(gl cf kt (c.Φ.pk cc)&&eC (c.Φ.pk cc) u)with
      |false=>rw[hb]at h;cases h
      |true =>
       rw[hb]at h;rw[za]at hb;have hMt:=gm hb.1 hK;rw[hP]at hMt;obtain⟨o1,o2,o3,es,o4,o5,o6,o7⟩:=hown;exact CI hΦ h hk hz1 hb.2 o7 (ba.lookup hg ho hu hzz hMt hx hy (ew hb.2 ρ) o4 o7.1)
     ·rename_i cc g n q;rw[hΦ]at h;cases hb:(gl cf kt (c.Φ.pk cc)&&eC (c.Φ.pk cc) u)with
      |false=>rw[hb]at h;cases h
      |true =>
       rw[hb]at h;rw[za]at hb;have hMt:=gm hb.1 hK;rw[hP]at hMt;obtain⟨o1,o2,o3,es,o4,o5,o6,o7,_⟩:=hown;exact CI hΦ h hk hz1 hb.2 o7 (ba.lookup hg ho hu hzz hMt hx hy (ew hb.2 ρ) o4 o7.1)
   ·cases h
  ·cases h
 ·exact Ij ho hg hP hΦ hK h hk hx hy
theorem CP {cl:Call}{t:TypeId}{ats:List TypeId}{x:Operand}{v:SV}{K:SV->SS->R}(ho:(ae ops i).op=.call cl)(hc:cl.callee=.builtin .len)(hats:cl.argTypes.toList=t::ats)(hxa:cl.args.toList=[x])(hg:(ae ops i).guard=none)(hP:cf.P=c.P)(h:(TL cf t v s K).Ok)(hk:Ok c T G Γ ρ s)(hx:a9 c.nt T x (v.den ρ)):Lo c T G Γ ops i s ρ K:=by
 unfold TL at h;split at h
 ·rename_i y;split at h
  ·rename_i w e hw hu;rw[hP]at hu;have ho':=hk.own (gp hw);refine Lo.here hk h ?_;show ba _ _ _ _ _ _ _ _ _ (.int .i64 ((LE.a (.len (w.ln y))).ev ρ));rw[LE.aV];refine ba.KN (n:=(ρ (w.ln y)).ns.length) hg ho hc hats hxa hu hx ?_;cases w with
   |ul cc g =>
    obtain⟨_,_,h3⟩:_/\_/\_:=ho';rcases h3 with ⟨h1,h0⟩|⟨b,cp,size,C,q1,_⟩
    ·exact .inl ⟨h1,h0⟩
    ·exact .inr ⟨b,0,cp,q1⟩
   |bl m el =>
    obtain⟨_,_,b,size,q1,_⟩:=ho';exact .inr ⟨b,0,_,q1⟩
  ·exact CG ho hc hats hxa hg hP h hk hx
 ·rename_i b n;split at h
  ·rename_i e hu;rw[hP]at hu;refine Lo.here hk h ?_;show ba _ _ _ _ _ _ _ _ _ (.int .i64 ((LE.k n).ev ρ));rw[LE.bk];exact ba.KN (n:=n) hg ho hc hats hxa hu hx (.inr ⟨(ρ b).nn,0,n,rfl⟩)
  ·cases h
 ·exact CG ho hc hats hxa hg hP h hk hx
theorem oc {K:SV->SS->R}(hg:(ae ops i).guard=none)(hP:cf.P=c.P)(hΦ:cf.Φ=c.Φ)(hK:dJ cf)(h:(A3 cf (ae ops i).op s K).Ok)(hk:Ok c T G Γ ρ s):Lo c T G Γ ops i s ρ K:=by
 unfold A3 at h;split at h
 ·rename_i ho;obtain⟨v,h,e0,e⟩:=br h hk;exact Qz ho hg hP h hk (gh e0 hk.q)
 ·rename_i ho;obtain⟨v,h,e0,e⟩:=br h hk;exact QB ho hg hP hΦ h hk (gh e0 hk.q)
 ·rename_i ho;obtain⟨v,h,e0,e⟩:=br h hk;obtain⟨u,h,_,e'⟩:=br h hk;exact QA ho hg hP hΦ h hk (gh e0 hk.q) e'
 ·rename_i ho;obtain⟨v,h,_,e⟩:=br h hk;obtain⟨u,h,_,e'⟩:=br h hk;exact CO ho hg hP hΦ hK h hk e e'
 ·rename_i x ho;obtain⟨v,h,e0,e⟩:=br h hk;split at h
  ·rename_i y e' sz o;split at h
   ·rename_i w hw;cases hi:yM s w y e' with
    |false=>rw[hi]at h;cases h
    |true =>
     rw[hi]at h;obtain⟨b,cp,size,C,q1,_⟩:=uR hw hi hk;have e1:(SV.v false [.py y e' sz o]).den ρ=.bZ b ((e'.ev ρ).toNat*sz+o):=j7 q1;exact Lo.here hk h (by rw[e1];exact ba.nil hg ho ((gh e0 hk.q).trans e1))
   ·exact Cw ho hg h hk (gh e0 hk.q)
  ·exact Cw ho hg h hk (gh e0 hk.q)
 ·rename_i cl ho;split at h
  ·rename_i x t ats h1 h2 h3;obtain⟨v,h,_,e⟩:=br h hk;exact CP ho h1 h3 h2 hg hP h hk e
  ·cases h
 ·exact Qn hg hP hΦ hK h hk
end
end Go.Rd
