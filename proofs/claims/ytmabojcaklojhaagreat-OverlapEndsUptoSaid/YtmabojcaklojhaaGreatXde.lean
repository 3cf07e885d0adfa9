/- Part Xde of the proof of OverlapEnds: no condition. -/
import Derived.Test.YtmabojcaklojhaaGreatXdd
set_option linter.unusedSimpArgs false
set_option linter.unusedVariables false
namespace Go.Rd
open Go.aK Go.RowKit Go.Rt
def Xy (s:SS):Option SC->Option SC->Nat->Option SC
 |some (.ref y),some (.int _ e),o=>(match oJ s.ty y with|some (cc,_)=>Qd s.ty y cc e o|none=>none)
 |_,_,_=>none
inductive XR where|t (t:Nat)|p (t i:Nat)|c (t o:Nat)|e (x i:XR) (o:Nat)
inductive XG where|z|r (x:XR)|n (k:Nat)|m (x:XR)
inductive XE where
 |k (n:Int)|v (x:XR)|len (x:XR)|wt (x:XR)|gn (g:XG) (k:Nat)|add (a b:XE)|sub (a b:XE)|mul (n:Int) (a:XE)|pw (x:XR) (i:XE)|raw (e:LE)|Rp (x:XR)|Bf (x:XR)
def rC (s:SS):XR->Option SC
 |.t t=>(match yL s.L t with|some (.v _ [x])=>some x|_=>none)
 |.p t i=>(match yL s.L t with|some (.v _ cs)=>cs[i]?|some (.cN l)=>(match l[i]? with|some (_,[x])=>some x|_=>none)|_=>none)
 |.c t o=>(match yL s.L t with|some (.v _ [.bZ b o'])=>(match jN s.os b with|some (_,cs)=>cs[o'+o]?|none=>none)|_=>none)
 |.e x i o=>Xy s (rC s x) (rC s i) o
def gOf (s:SS)(y:Nat):Option Nat:=match oJ s.ty y with
 |some (_,g)=>some g
 |none=>match pC s.ty y with
  |some (_,g)=>some g
  |none=>match wE s.ty y with
   |some (_,g)=>some g
   |none=>match Bv s.os y with|some (.ul _ g)=>some g|_=>none
def rG (s:SS):XG->Option Nat
 |.z=>some 0
 |.n k=>(s.gs[k]?).map (·.1)
 |.r x=>(match rC s x with|some (.ref y)=>gOf s y|_=>none)
 |.m x=>(match rC s x with|some (.cV b)=>(match tn s.os b with|some (.km _ g _)=>some g|some (.kq _ g _ _)=>some g|_=>none)|_=>none)
def Ub (s:SS)(y:Nat):Nat:=match Bv s.os y with|some (.bl m _)=>m|_=>y
def rE (s:SS):XE->Option LE
 |.k n=>some (.k n)
 |.v x=>(match rC s x with|some (.int _ e)=>some e|_=>none)
 |.len x=>(match rC s x with|some (.ref y)=>some (.a (.len (Ub s y)))|some .ab=>some (.k 0)|some (.wA _ n)=>some (.k n)|_=>none)
 |.wt x=>(match rC s x with|some (.ref y)=>some (.a (.wt (Ub s y)))|some .ab=>some (.k 0)|_=>none)
 |.gn g k=>(match rG s g with|some g=>(match ghost s.gs g with|some d=>some (.a (.gn d k))|none=>none)|none=>none)
 |.add a b=>(match rE s a,rE s b with|some x,some y=>some (x.add y)|_,_=>none)
 |.sub a b=>(match rE s a,rE s b with|some x,some y=>some (x.sub y)|_,_=>none)
 |.mul n a=>(rE s a).map (LE.js n)
 |.pw x i=>(match rC s x,rE s i with|some (.ref y),some e=>yb s y e|some .ab,some e=>some e|_,_=>none)
 |.raw e=>some e
 |.Bf x=>(match rC s x with|some (.cV b)=>(match tn s.os b with|some (.km _ _ n)=>some n|some (.kq _ _ n _)=>some n|_=>none)|some (.bZ b _)=>(match Nk s.os b with|some (_,_,r,_,_)=>some r|none=>none)|_=>none)
 |.Rp x=>(match rC s x with|some (.str y)=>some (.a (.sl y))|some (.my l _)=>some (.k l)|_=>none)
def JC:List (Nat×SV)->Nat->List (Nat×SV)
 | [],_=>[]
 |p::l,t=>bif Nat.beq p.1 t then JC l t else p::JC l t
def Uc:List (Nat×SV)->List (Nat×SV)
 | []=>[]
 |p::l=>p::JC (Uc l) p.1
def Bg:List SC->Nat->SC->List SC
 | [],_,_=>[]
 |x::l,i,y=>bif Nat.beq i 0 then y::l else x::Bg l (i-1) y
def Bh (s:SS)(r:XR)(x:SC):SS:=match r with
 |.t t=>⟨s.nx,(t,sc x)::JC s.L t,s.os,s.ty,s.gs,s.fs,s.bs,s.pw,s.ats,s.dB,s.ne,s.fz,s.sb⟩
 |.p t i=>(match yL s.L t with|some (.v ag cs)=>⟨s.nx,(t,.v ag (Bg cs i x))::JC s.L t,s.os,s.ty,s.gs,s.fs,s.bs,s.pw,s.ats,s.dB,s.ne,s.fz,s.sb⟩|_=>s)
 |.c t o=>(match yL s.L t with|some (.v _ [.bZ b o'])=>(match jN s.os b with|some (_,cs)=>c6 s (fT s.os b (Bg cs (o'+o) x))|none=>s)|_=>s)
 |.e _ _ _=>s
def Gq (x i:XR)(off n:Nat)(s:SS):Option Ga:=match rC s x,rC s i with|some (.ref y),some (.int _ e)=>some (.el y e off n)|_,_=>none
inductive Gn where
 |int (r:XR)|nat (r:XR)|bool (r:XR)|str (r:XR)|sl (r:XR) (c:Nat) (g:XG)|jg (r:XR) (c:Nat)|ul (r:XR) (c:Nat) (g:XG)|pw (r:XR) (i:XE)|ge (e:XE)|aU (ts:List Nat)|bl (r:XR)|JU (g:XG)|ZY (g:XG)|gc|im (r:XR) (e:XE)|km (r:XR)|it (r:XR)
def Ud (x:Nat):SO->Bool|.jg y _=>Nat.beq y x|_=>false
def Ue (f:SO->Bool)(l:List SO):List SO:=l.filter fun o=>!f o
def Nt (s:SS)(r:XR):IntKind:=match rC s r with|some (.int k _)=>k|_=>.i64
def atN:At->List Nat|.n k=>[k]|.z k=>[k]|_=>[]
def Et (e:LE):List Nat:=e.ts.flatMap fun p=>atN p.2
def beN:BE->List Nat|.ge e=>Et e|.eq e=>Et e|.ne e=>Et e|_=>[]
def Wj:SC->List Nat|.int _ e=>Et e|.bool b=>beN b|.py _ e _ _=>Et e|_=>[]
def svN:SV->List Nat|.v _ cs=>cs.flatMap Wj|.cN l=>l.flatMap fun p=>p.2.flatMap Wj|.wB _ _ cs=>cs.flatMap Wj|_=>[]
def soN:SO->List Nat|.loc _ _ cs=>cs.flatMap Wj|.im _ e=>Et e|.km _ _ _ n=>Et n|.kq _ _ _ n _=>Et n|.rm _ _ _ n=>Et n|.it _ _ n r _ _=>Et n++Et r|_=>[]
def gcS (s:SS):SS :=
 let live:=s.L.flatMap (fun p=>svN p.2)++s.os.flatMap soN
 let pw:=s.pw.filter fun p=>(Et p.2.1).all live.contains
 let lv:=live++pw.flatMap fun p=>Et p.2.2
 ⟨s.nx,s.L,s.os,s.ty,s.gs,s.fs.filter (fun e=>(Et e).all lv.contains),s.bs,pw,s.ats,s.dB,s.ne,s.fz,s.sb⟩
def Xz (s:SS):Gn->Option SS
 |.int r=>some (Bh (aC s) r (.int (Nt s r) (.a (.z s.nx))))
 |.nat r=>some (Bh (aC s) r (.int (Nt s r) (.a (.n s.nx))))
 |.bool r=>some (Bh (aC s) r (.bool (.v s.nx)))
 |.str r=>some (Bh (aC s) r (.str s.nx))
 |.sl r c g=>(rG s g).map fun g=>bL (Bh (aC s) r (.ref s.nx)) (.sl s.nx c g)
 |.jg r c =>
  let os:=match rC s r with|some (.ref y)=>Ue (Ud y) s.os|_=>s.os
  some (bL (c6 (Bh (aC (c6 s os)) r (.ref s.nx)) (.jg s.nx c::(Bh (aC (c6 s os)) r (.ref s.nx)).os)) (.sl s.nx c 0))
 |.ul r c g=>(rG s g).map fun g =>
  let os:=match rC s r with|some (.ref y)=>Ue (F2 y) s.os|_=>s.os
  let s':=Bh (aC (c6 s os)) r (.ref s.nx)
  c6 s' (.ul s.nx c g::s'.os)
 |.pw r i=>(match rC s r,rE s i with|some (.ref y),some e=>some (qB (aC s) (y,e,.a (.n s.nx)))|some .ab,some _=>some s|_,_=>none)
 |.ge e=>(rE s e).map (aF s)
 |.aU ts=>some ⟨s.nx,Uc (s.L.filter fun p=>ts.contains p.1),s.os,s.ty,s.gs,s.fs,s.bs,s.pw,s.ats,s.dB,s.ne,s.fz,s.sb⟩
 |.bl r=>(match rC s r with
  |some (.ref y)=>(match mD (QF y) s.os with
   |some (.bl _ m el,osA)=>some (n9 (c6 (aC s) (.bl y s.nx el::osA)) (.a (.len s.nx)) (.a (.len m)))
   |_=>none)
  |_=>none)
 |.JU g=>(match rG s g with
  |some g=>(match kI s.gs g with
   |some d=>some (sW (aC s) g s.nx true s.os [] [] [] (ou s.sb d s.nx))
   |none=>none)
  |none=>none)
 |.gc=>some (gcS s)
 |.ZY g=>(match rG s g with
  |some g=>(match kI s.gs g with
   |some _=>some (sW (aC s) g s.nx true s.os [] [] [] (s.sb.filter fun p=>!Nat.beq p.1 g))
   |none=>none)
  |none=>none)
 |.km r=>(match rC s r with
  |some (.cV b)=>some (c6 (aC s) (s.os.map fun o=>match o with|.km y c g n=>bif Nat.beq y b then .km y c g (.a (.n s.nx))else .km y c g n|.kq y c g n q=>bif Nat.beq y b then .kq y c g (.a (.n s.nx)) none else .kq y c g n q|o=>o))
  |_=>none)
 |.it r=>(match rC s r with
  |some (.bZ b _)=>some (c6 (aC s) (s.os.map fun o=>match o with|.it y m n k st ty=>bif Nat.beq y b then .it y m n (.a (.n s.nx)) false ty else .it y m n k st ty|o=>o))
  |_=>none)
 |.im r e=>(match rC s r,rE s e with
  |some (.cV b),some e=>some (c6 s (s.os.map fun o=>match o with|.im y e0=>bif Nat.beq y b then .im y e else .im y e0|o=>o))
  |_,_=>none)
def LD:List Gn->SS->Option SS
 | [],s=>some s
 |g::l,s=>(Xz s g).bind (LD l)
def dj (gs:List Gn)(mu:XE)(s:SS):Option (SS×LE):=(LD gs s).bind fun s'=>(rE s' mu).map fun m=>(s',m)
end Go.Rd
namespace Go.Rd
open Go.aK Go.RowKit Go.Rt
def nC (Φ:Forms)(g:Nat)(k:K2)(s:SS):SC×SS:=match k with
 |.int k=>(.int k (.a (.z s.nx)),aC s)
 |.nat b=>(match ghost s.gs g with
  |some d=>(.int .i64 (.a (.n s.nx)),aF (aC s) (((LE.a (.gn d b)).sub (.a (.n s.nx))).aO (-1)))
  |none=>(.int .i64 (.a (.n s.nx)),aC s))
 |.pos b=>(match ghost s.gs g with
  |some d=>(.int .i64 (.a (.n s.nx)),aF (aF (aC s) ((LE.a (.n s.nx)).aO (-1))) ((LE.a (.gn d b)).sub (.a (.n s.nx))))
  |none=>(.int .i64 (.a (.n s.nx)),aC s))
 |.str=>(.str s.nx,aC s)
 |.rf=>(.str s.nx,aC s)
 |.vt b=>(.str s.nx,aF (aC s) ((LE.k b).sub (.a (.sl s.nx))))
 |.bool=>(.bool (.v s.nx),aC s)
 |.px k=>(.px k s.nx,aC s)
 |.sl c=>(.ref s.nx,bL (aC s) (.sl s.nx c (bif Φ.dep c then g else 0)))
 |.AB c _=>(.ref s.nx,bL (aC s) (.sl s.nx c (bif Φ.dep c then g else 0)))
 |.AD c _=>(.ref s.nx,bL (aC s) (.sl s.nx c (bif Φ.dep c then g else 0)))
 |.yK c _=>(.ref s.nx,bL (aC s) (.sl s.nx c (bif Φ.dep c then g else 0)))
 |.AE c=>(.ref s.nx,bL (aC s) (.sl s.nx c (bif Φ.dep c then g else 0)))
 |.ptr c=>(.ref s.nx,bL (aC s) (.pt s.nx c (bif Φ.dep c then g else 0)))
 |.mp c=>(.ref s.nx,bL (aC s) (.mp s.nx c (bif Φ.dep c then g else 0)))
 |_=>(.ab,s)
def XA (Φ:Forms)(g:Nat):List K2->SS->List SC×SS
 | [],s=>([],s)
 |k::ks,s=>let p:=nC Φ g k s;let q:=XA Φ g ks p.2;(p.1::q.1,q.2)
 abbrev Bl:=SS->SS->SV×SS
def bK (Φ:Forms)(g:Nat)(k:K2):Bl:=fun e s=>let p:=nC Φ g k ⟨s.nx,s.L,s.os,s.ty,s.gs++e.gs,s.fs,s.bs,s.pw,s.ats,s.dB,s.ne,s.fz,s.sb⟩;(sc p.1,⟨p.2.nx,s.L,s.os,p.2.ty,s.gs,p.2.fs,s.bs,s.pw,s.ats,s.dB,s.ne,s.fz,s.sb⟩)
def bI:Bl:=fun _ s=>(sc (.int .i64 (.a (.z s.nx))),aC s)
def bN:Bl:=fun _ s=>(sc (.int .i64 (.a (.n s.nx))),aC s)
def bB:Bl:=fun _ s=>(sc (.bool (.v s.nx)),aC s)
def bS:Bl:=fun _ s=>(sc (.str s.nx),aC s)
def ix (c g:Nat):Bl:=fun _ s=>(sc (.ref s.nx),bL (aC s) (.sl s.nx c g))
def bC (x:SC):Bl:=fun _ s=>(sc x,s)
def wX (x:XR):Bl:=fun e s=>(sc ((rC e x).getD .ab),s)
def Uf:SV->Bool×List SC|.v a cs=>(a,cs)|_=>(false,[])
def bT (l:List Bl):Bl:=fun e s=>let p:=l.foldl (fun (p:List (Bool×List SC)×SS) b=>let q:=b e p.2;(p.1++[Uf q.1],q.2)) ([],s);(.cN p.1,p.2)
def bA (l:List Bl):Bl:=fun e s=>let p:=l.foldl (fun (p:List SC×SS) b=>let q:=b e p.2;(p.1++(Uf q.1).2,q.2)) ([],s);(.v true p.1,p.2)
def iu (Φ:Forms)(g:Nat)(ks:List K2):Bl:=bA (ks.map (bK Φ g))
def Ug:List Bl->Nat->Bl->List Bl
 | [],_,_=>[]
 |x::l,i,y=>bif Nat.beq i 0 then y::l else x::Ug l (i-1) y
def Rq (Φ:Forms)(g:Nat)(ks:List K2)(ov:List (Nat×Bl)):Bl:=bA (ov.foldl (fun l p=>Ug l p.1 p.2) (ks.map (bK Φ g)))
def ZZ:List Bl->SS->SS->List SV×SS
 | [],_,s=>([],s)
 |b::l,e,s=>let p:=b e s;let q:=ZZ l e p.2;(p.1::q.1,q.2)
def Uh (n:Nat):SS:=⟨n,[],[],[],[],[],[],[],[],[],[],[],[]⟩
def Nu (s:SS)(l:List LE):SS:=l.foldl aF s
def XB (s:SS):SS:=⟨s.nx,[],s.os,s.ty,s.gs,s.fs,s.bs,s.pw,s.ats,s.dB,s.ne,s.fz,s.sb⟩
def JE (s:SS)(L:List (Nat×SV)):SS:=⟨s.nx,L,s.os,s.ty,s.gs,s.fs,s.bs,s.pw,s.ats,s.dB,s.ne,s.fz,s.sb⟩
def bt (f:Nat)(s0:SS)(ar:List Bl)(pre:List XE)(gD:List (Bl×List XE))(str:Nat)(ms:XE):Sp :=
 let p:=ZZ ar s0 s0
 let s:SS:=JE p.2 (C9 0 p.1)
 let s1:=Nu (XB p.2) (pre.filterMap (rE s))
 ⟨f,s1,p.1,gD.map fun q =>
  let r:=q.1 s (Uh s1.nx)
  let t:SS:=⟨r.2.nx,(100,r.1)::C9 0 p.1,r.2.os++s.os,r.2.ty++s.ty,r.2.gs++s.gs,r.2.fs,r.2.bs,r.2.pw,r.2.ats,r.2.dB,r.2.ne,r.2.fz,r.2.sb⟩
  (r.1,Nu r.2 (q.2.filterMap (rE t))),str,(rE s ms).getD (.k 0)⟩
def bD (f:Nat)(ar:List Bl)(pre:List XE)(gD:List (Bl×List XE))(str:Nat)(ms:XE):Sp:=bt f (Uh 0) ar pre gD str ms
def JF:Gu:=⟨fun _ _ _=>.no,fun _=>[],fun _ _=>none,fun _ _=>none,fun _=>[],fun _=>0,fun _ _=>[],fun _ _=>false⟩
def cY (i:XR)(l:XE)(gs:List Gn)(ts:List Nat):SS->Option (SS×LE):=dj ([.nat i,.ge (.sub l (.v i))]++gs++[.aU ts]) (.sub l (.v i))
def Bi (x i:XR)(s:SS):Option Ga:=match rC s x,rC s i with
 |some (.ref y),some (.int _ e)=>bif aX s (e.sub (.a (.len y)))then some (.Xu y e)else none
 |_,_=>none
end Go.Rd
namespace Go.Rd
open Go.aK Go.RowKit Go.Rt
def i64:K2:=.int .i64
def Gr (p:Nat):List K2:=[i64,.str,.bool,.sl (p+1),.sl (p+2),i64,i64]
def iR (p:Nat):Nat->List K2
 |1=>Gr p
 |2=>.str::Gr p++[i64,i64]
 |3=>.str::Gr p++[i64,i64]
 |4=>[.str,.sl (p+3),i64,i64]
 |5=>[i64,.str,.str,.str,.sl (p+3),.sl (p+4),.sl (p+5),i64,i64]
 |6=>[i64,.str,.str,.bool,.sl (p+7),.sl (p+4),.sl (p+5),i64,i64]
 |7=>[.str,.str,bif Nat.beq p 0 then .vt 2097152 else .str,.bool]++Gr p++[.sl (p+4),i64,i64]
 |8=>[i64,.bool,.bool,.bool,.str,.str,.sl (p+13),.sl (p+4),.sl (p+9),.sl (p+10),.sl (p+13),.sl (p+11),.sl (p+12),.bool,.sl (p+13),i64,i64]
 |9=>[.bool,.bool,.str,.str,.sl (p+10),.str,.str,.sl (p+4),i64,i64]
 |10=>[.bool,.bool,.str,.str,.str,.str]++(.bool::Gr p)++[.sl (p+4),i64,i64]
 |11=>[.bool,.bool,.str,.str,.sl (p+4),i64,i64]
 |12=>[i64,.str,i64,i64]
 |13=>[.str,i64,i64]
 |14=>[.str]
 |_=>[.bad]
def XC:Nat->Nat
 |1=>117|2=>204|3=>201|4=>99|5=>206|6=>112|7=>119|8=>83|9=>107|10=>203|11=>105|12=>218|13=>223|14=>9|_=>0
def unP:Nat->Bool|1=>false|2=>false|5=>false|_=>true
def slB (b:Nat):K2->K2|.sl c=>.AB c b|k=>k
def Z0:K2->K2|.sl c=>.AD c 0|k=>k
def du:List K2->Nat->K2->List K2
 | [],_,_=>[]
 |x::l,i,y=>bif Nat.beq i 0 then y::l else x::du l (i-1) y
def Wk:Nat->List K2
 |80=>[.nat 0,i64,i64,.str,.str,.str,.str,.str,.str,.bool,.sl 63,.sl 64,.AB 81 2000,i64,i64]
 |81=>[.nat 2]
 |82=>[.AB 81 2000]
 |97=>[.nat 0,.nat 0]
 |98=>[.bool]
 |100=>[.nat 0]
 |101=>[.mp 99]
 |107=>[i64]
 |108=>[i64,i64]
 |83=>[.AD 84 1]
 |84=>[.nat 0]
 |85=>[i64,.str,.str,.str,.bool,.bool,i64,i64]
 |86=>i64::Gr 60++[.str,.str,.bool,.bool]
 |87=>[i64,i64,.str,.str,.sl 63,i64,i64,.bool]
 |90=>[i64,i64]
 |91=>[.str,i64,.bool]
 |92=>[i64,.sl 90,.sl 91]
 |93=>[.AB 92 16711680]
 |89=>[.FJ 37,.yK 66 0,.yK 80 2,.yK 82 3,.sl 85,.sl 86,.sl 87,.mp 88,.yK 83 0]
 |_=>[.bad]
def tyS:Nat->TypeId|80=>52|81=>3|82=>48|83=>48|84=>3|85=>97|86=>139|87=>101|89=>134|90=>50|91=>285|92=>181|93=>85|97=>190|98=>4|100=>3|101=>291|107=>3|108=>189|_=>0
def ks7 (c:Nat):List K2:=bif Nat.blt c 20 then iR 0 c else match c with
 |28=>(iR 20 8).map (slB 1000)
 |35=>du ((iR 20 8).map Z0) 5 .rf
 |36=>du (du ((iR 20 8).map Z0) 5 .rf) 8 (.AE 29)
 |37=>iR 20 8++[.yK 36 2,.mp 38,.yK 39 1,.mp 40,.mp 41,.mp 42]
 |39=>iR 20 8
 |_=>bif Nat.blt c 60 then iR 20 (c-20)else bif Nat.blt c 80 then iR 60 (c-60)else Wk c
def ty7 (c:Nat):TypeId:=bif Nat.blt c 20 then XC c else match c with
 |35=>83|36=>83|37=>126|39=>83
 |_=>bif Nat.blt c 60 then XC (c-20)else bif Nat.blt c 80 then XC (c-60)else tyS c
def un7 (c:Nat):Bool:=bif Nat.blt c 20 then false else bif Nat.blt c 35 then unP (c-20)else bif Nat.blt c 60 then true else Nat.ble 80 c
def dp7:Nat->Bool|35=>true|36=>true|37=>true|38=>true|40=>true|41=>true|80=>true|81=>true|82=>true|97=>true|99=>true|100=>true|101=>true|102=>true|103=>true|104=>true|83=>true|84=>true|88=>true|89=>true|94=>true|_=>false
def pk7:Nat->KK|99=>.kz|102=>.int|103=>.fy|104=>.int|105=>.kz|106=>.kz|41=>.pair|43=>.kz|94=>.kz|96=>.int|_=>.str
def mv7:Nat->MV|38=>.FM 2|40=>.kd (.nat 1)|41=>.DD|42=>.kd (.FL 43)|43=>.kd i64|88=>.kd (.nat 0)|94=>.kd (.AD 90 0)|95=>.kd i64|99=>.kd (.AD 100 1)|102=>.kn 0 (.pos 2)|103=>.kn 0 i64|104=>.kn 0 (.nat 0)|105=>.kd i64|106=>.kd i64|_=>.unit
def vi7:Nat->Bool|37=>true|_=>false
def Φ7:Forms:=⟨ks7,ty7,un7,dp7,vi7,pk7,mv7,fun c=>Nat.blt c 20,fun c=>Nat.beq c 99⟩
def Z1 (f:Nat):Nat->List Nat:=fun r=>match f with
 |8=>(match r with|15=>[0,1,2,3,4,5,6,7,8,9,10,11,12,13,14,15,16,17]|_=>[])
 |10=>(match r with|40=>[0,1,2,3,4,5,6,7,8,9]|41=>[0,1,2,3,4,5,6,7,8,9,10,11,12,13,14,15,16,17,18,19,20,21,22]|44=>[0,1,2,3,4,5,6,7,8,9,10,11,12,14]|_=>[])
 |11=>(match r with|5=>[0,1,2,3,4,5,6,7,8,9]|7=>[0,1,2,3,4,5,6]|18=>[0,1,2,3,4,5,6,7,8,9]|20=>[0,1,2,3,4,5,6,7,8,9,10,11,12,13,14,17]|_=>[])
 |39=>(match r with|4=>[0,1,2,3,4,5,6,7,8,9,10,11,12,13,14]|_=>[])
 |43=>(match r with|3=>[1,2]|4=>[0,3,6,10]|_=>[])
 |44=>(match r with|1=>[0,1,2,3,4,5,6,7,8,9]|3=>[0,1,2,3,4,5,6,7,8,9,10]|4=>[0,1,2,3,4,5,9,10]|_=>[])
 |45=>(match r with|1=>[0,1,2,3,4,5,6,7,8,9]|3=>[0,1,2,3,4,5,6,7,8,9,10]|4=>[0,1,2,3,4,5,9,10]|_=>[])
 |48=>(match r with|6=>[0,1,2,3,4,5,6,7,8,9,10,11,12]|8=>[0,1,2,3,4,5,6,7,8,9]|_=>[])
 |50=>(match r with|6=>[0,1,2,3,4,5,6,7,8,9,10,13,14]|20=>[0,1,2,3,4,5,6]|21=>[0,1,2,3,4,5,6,7,8,9,13,14]|_=>[])
 |87=>(match r with|2=>[1,2]|3=>[0,1,3,5]|_=>[])
 |91=>(match r with|1=>[0,1,2,3]|6=>[0,1,2,6]|_=>[])
 |103=>(match r with|1=>[0,1,2,3,4,5,6,7,8,10,11]|_=>[])
 |104=>(match r with|3=>[0,1,2,3,4,5,7,8,9]|4=>[0,1,2,3,4,5,6,7,8,9,10,13,14]|_=>[])
 |106=>(match r with|21=>[0,1,2,3,4,5,6,7,8,9,10]|26=>[0,1,2,3,4,5,7,8,9,10]|15=>[0,1,2,3,4,5,6,8,9,10,12]|17=>[0,1,2,3,4,5,7]|27=>[0,1,2,3,4,5,8,9]|_=>[])
 |150=>(match r with|9=>[0,1,2,3,4,5,7,8,9,12]|_=>[])
 |156=>(match r with|6=>[0,1,2,3,4,5,6,7,8,9,10,11,14,15]|_=>[])
 |157=>(match r with|17=>[0,1,2,3,4,5,6,7,8,9,10,11,12,13,14,15]|_=>[])
 |217=>(match r with|6=>[0,1,2,6]|11=>[0,1,2,3,4,5,7,8,9,12]|_=>[])
 |219=>(match r with|2=>[0,1,2,3,4,5,6,7,8,9,10,11,12,13,16,17]|8=>[0,1,2,3,4,5,7,8,9]|_=>[])
 |450=>(match r with|1=>[0,1,2,3,4,5,6,7,8,9]|_=>[])
 |_=>[]
def cw (f:Nat):Gu:={ JF with dr:=Z1 f }
end Go.Rd
namespace Go.Rd
open Go.aK Go.RowKit Go.Rt
def wu (l:List XE):XE:=.sub (.k WU) (l.foldr .add (.k 0))
def Da (a b:XR):XE:=.sub (.len b) (.len a)
def S3 (a b:XR):XE:=.sub (.wt b) (.wt a)
def Eu (p:Nat):Sp:=bD 217 [iu Φ7 0 (iR p 1)] [wu [.wt (.p 0 3),.wt (.p 0 4)]] [(iu Φ7 0 (iR 20 1),[S3 (.p 100 3) (.p 0 3),S3 (.p 100 4) (.p 0 4)])] 0 (.add (.wt (.p 0 3)) (.wt (.p 0 4)))
def Ui (i x dst:XR)(c:Nat)(ts:List Nat):SS->Option (SS×LE):=cY i (.len x) [.pw x (.v i),.ge (.sub (.wt x) (.pw x (.v i))),.jg dst c,.ge (.sub (.pw x (.v i)) (.wt dst))] ts
def yG (i x dst:XR)(c g:Nat)(ts:List Nat):SS->Option (SS×LE):=cY i (.len x) [.sl dst c (bif Nat.beq g 0 then .z else .n 0),.ge (.sub (.v i) (.len dst))] ts
def Ev:Gu:={ cw 217 with lp:=fun id s=>match id with
 |0=>Ui (.t 14) (.t 12) (.c 3 3) 21 [1,2,3,12,13,14] s
 |2=>Ui (.t 29) (.t 27) (.c 3 4) 22 [1,2,3,27,28,29] s
 |_=>none }
def Z2 (p:Nat)(x:XR):List XE:=bif Nat.beq p 0 then [wu [.wt x]]else []
def Ew (p:Nat):Sp:=bD 150 [ix (p+4) 0] (Z2 p (.t 0)) [(ix 24 0,[Da (.t 100) (.t 0)])] 1 (.k 0)
def Ey:Gu:={ cw 150 with
 an:=fun id s i=>match id,i with|9,11=>.ty 23 0|11,3=>.ty 24 0|_,_=>.no
 lp:=fun id s=>match id with
 |0=>yG (.t 11) (.t 9) (.t 3) 24 0 [0,2,3,9,10,11] s
 |2=>yG (.t 23) (.t 21) (.c 6 1) 23 0 [0,2,3,9,10,11,5,6,21,22,23] s
 |_=>none }
def Ez (p:Nat):Sp:=bD 151 [ix (p+10) 0] (Z2 p (.t 0)) [(ix 30 0,[Da (.t 100) (.t 0)])] 2 (.k 0)
def EA:Gu:={ cw 151 with
 an:=fun id s i=>match id,i with|7,3=>.ty 30 0|_,_=>.no
 lp:=fun id s=>yG (.t 8) (.t 6) (.t 3) 30 0 [0,2,3,6,7,8] s }
def EB (p:Nat):Sp:=bD 149 [iu Φ7 0 (iR p 9)] (bif Nat.beq p 0 then [wu [.wt (.p 0 4),.wt (.p 0 7)]]else []) [(Rq Φ7 0 (iR 20 9) [(3,wX (.p 0 3))],[Da (.p 100 4) (.p 0 4),Da (.p 100 7) (.p 0 7)])] 3 (.k 0)
def LF:List Nat:=[6,7,8,9,10,11,12,14]
def LG (p:Nat):Sp:=bD 91 [iu Φ7 0 (iR p 8)] (bif Nat.beq p 0 then [wu (LF.map fun i=>.wt (.p 0 i))]else []) [(Rq Φ7 0 (iR 20 8) [(0,wX (.p 0 0)),(5,wX (.p 0 5))],LF.map fun i=>Da (.p 100 i) (.p 0 i))] 4 (.k 0)
def LH:Gu:={ cw 91 with
 an:=fun id s i=>match id,i with|6,5=>.ty 29 0|12,4=>.ty 31 0|14,2=>.ty 33 0|15,2=>.ty 33 0|16,2=>.ty 33 0|17,2=>.ty 32 0|_,_=>.no
 lp:=fun id s=>match id with
 |0=>yG (.t 17) (.t 15) (.c 1 8) 29 0 [1,2,3,4,15,16,17] s
 |2=>yG (.t 31) (.t 29) (.c 1 11) 31 0 [1,2,3,4,29,30,31] s
 |_=>none }
def GB (n:Int)(x:XR):XE:=.sub (.k n) (.len x)
def Uj:Sp:=bD 85 [bS,ix 29 0] [GB 1000 (.t 1)] [(iu Φ7 0 (iR 20 8),LF.map fun i=>GB 1000 (.p 100 i))] 1 (.k 0)
def Uk:Sp:=bD 86 [bS,bS,bS] [] [(iu Φ7 0 (iR 20 9),[])] 1 (.k 0)
def Ul:Sp:=bD 87 [bS,bS] [] [(iu Φ7 0 (iR 20 9),[])] 1 (.k 0)
def Um:Gu:={ cw 87 with an:=fun id s i=>match id,i with|3,2=>.ty 30 0|_,_=>.no }
def Un:Sp:=bD 88 [bS,ix 34 0] [GB 100 (.t 1)] [(iu Φ7 0 (iR 20 8),LF.map fun i=>GB 1000 (.p 100 i))] 1 (.k 0)
def Uo:Gu:={ cw 88 with
 an:=fun id s i=>match id,i with|5,5=>.ty 31 0|_,_=>.no
 lp:=fun id s=>yG (.t 12) (.t 10) (.c 5 11) 31 0 [0,4,5,10,11,12] s }
def Up:Sp:=bD 89 [bS,bS] [] [(bA [wX (.t 0),wX (.t 1)],[])] 0 (.k 0)
def Uq:Sp:=bD 90 [bS,iu Φ7 0 (iR 20 10),ix 34 0] [GB 100 (.t 2),wu [.wt (.p 1 10),.wt (.p 1 11)]] [(iu Φ7 0 (iR 20 8),LF.map fun i=>GB 1000 (.p 100 i))] 1 (.k 0)
def Ur:Gu:={ cw 90 with
 an:=fun id s i=>match id,i with|1,2=>.ty 30 0|5,5=>.ty 33 0|_,_=>.no
 lp:=fun id s=>yG (.t 16) (.t 14) (.c 7 14) 33 0 [0,2,4,6,7,14,15,16] s }
def Us:Sp:=bD 42 [] [] [(ix 28 0,[GB 100 (.t 100)])] 2 (.k 0)
def Ut:Gu:={ cw 42 with
 an:=fun id s i=>match id,i with|2,0=>.ty 34 0|5,4=>.ty 28 0|7,7=>.ty 29 0|7,19=>.ty 29 0|7,29=>.ty 29 0|7,35=>.ty 29 0|7,41=>.ty 29 0|7,48=>.ty 29 0|7,21=>.ty 34 0|7,50=>.ty 34 0|_,_=>.no
 lp:=fun id s=>yG (.t 6) (.t 4) (.t 1) 28 0 [0,1,4,5,6] s }
def lB:Sp:=bD 43 [] [] [(ix 28 0,[GB 100 (.t 100)])] 2 (.k 0)
def lC:Gu:={ cw 43 with an:=fun id s i=>match id,i with|4,1=>.ty 34 0|4,4=>.ty 34 0|4,7=>.ty 34 0|4,11=>.ty 34 0|4,13=>.ty 28 0|_,_=>.no }
end Go.Rd
namespace Go.Rd
open Go.aK Go.RowKit Go.Rt
def obj:SS :=
 let p:=XA Φ7 0 (iR 20 8) ⟨9,[],[],[],[(1,1,true)],[],[],[],[],[],[],[],[]⟩
 ⟨p.2.nx,[],[.loc 2 126 (p.1++[.ref 3,.cV 4,.ref 5,.cV 6,.cV 7,.cV 8]),.ul 3 35 1,.am 4 1 2,.im 6 (.a (.len 5)),.em 7 .pair,.em 8 .str],.sl 5 39 0::p.2.ty,[(1,1,true)],[],[],[],[],[],[],[],[(1,0)]⟩
def eqs (a b:LE):List LE:=[a.sub b,b.sub a]
def fW (d k:Nat):LE:=.a (.gn d k)
def Uu (os:List SO)(ty:Option Nat)(dr:Option Nat):List SO:=os.map fun o=>match o with
 |.loc b e cs=>.loc b e (match ty,dr with|some x,some y=>Bg (Bg cs 17 (.ref x)) 19 (.ref y)|some x,none=>Bg cs 17 (.ref x)|none,some y=>Bg cs 19 (.ref y)|none,none=>cs)
 |.ul x c g=>.ul (ty.getD x) c g
 |.im b e=>(match dr with|some y=>.im b (.a (.len y))|none=>.im b e)
 |o=>o
def Uv (n:Nat)(os:List SO)(ty:List dW)(gs:List (Nat×Nat×Bool))(fs:List LE):SS:=⟨n,[],os,ty,gs,fs,[],[],[],[],[],[],[]⟩
def sSb (d:Nat)(s:SS):SS:=⟨s.nx,s.L,s.os,s.ty,s.gs,s.fs,s.bs,s.pw,s.ats,s.dB,s.ne,s.fz,[(d,0)]⟩
def v (t:Nat):XE:=.v (.t t)
def pJ (k:Nat):XE:=.gn (.n 0) k
def u4 (a b:XE):List XE:=[.sub a b,.sub b a]
def many:Int:=1073741824
def Rr:List XE:=u4 (pJ 2) (.len (.c 0 17))++[GB many (.c 0 17),GB many (.c 0 19)]
def Uw (l:List XR):List XE:=l.map fun x=>.sub (pJ 0) (.len x)
def oL (g:XG)(k:Nat)(e:XE)(s:SS):Option Ga:=match rG s g,rE s e with|some g,some e=>some (.aC g k e)|_,_=>none
def Ux (p:Nat)(l:List XR):List XE:=bif Nat.beq p 0 then [wu (l.map .wt)]else []
def JG (t:Nat):List XR:=LF.map (XR.p t)
def poT:Bl:=fun e s=>let x:=s.nx;let d:=s.nx+1;(.cN [],sSb d<|Uv (s.nx+2) (Uu e.os (some x) none) [] [(1,d,true)] (eqs (fW d 0) (fW 1 0)++eqs (fW d 1) (fW 1 1)++eqs (fW d 2) (.a (.len x))++[((LE.a (.len 3)).sub (.a (.len x))).aO 1]))
def LI (p:Nat):Sp:=bt 45 obj [bC (.bZ 2 0),iu Φ7 0 (iR p 8)] (Rr++Uw (JG 1)++Ux p (JG 1)) [(poT,[])] 5 (.k 0)
def LJ:Gu:={ cw 45 with ac:=fun id=>match id with|3=>[oL (.n 0) 2 (.add (.len (.c 0 17)) (.k 1))]|_=>[] }
def poD:Bl:=fun e s=>let x:=s.nx;(.cN [],Uv (s.nx+1) (Uu e.os none (some x)) [.sl x 39 0] [(1,1,true)] [((LE.a (.len 5)).sub (.a (.len x))).aO 1])
def LK (p:Nat):Sp:=bt 44 obj [bC (.bZ 2 0),iu Φ7 0 (iR p 8)] (Rr++Ux p (JG 1)) [(poD,[])] 5 (.k 0)
def poS:Bl:=fun e s=>let p:=iu Φ7 0 (iR 20 8) e s;(p.1,Uv p.2.nx e.os p.2.ty [(1,1,true)] [])
def Uy:Sp:=bt 47 obj [bC (.bZ 2 0),ix 8 0] (Rr++[wu [.wt (.t 1)]]) [(poS,[])] 5 (.k 0)
def Uz:Gu:={ cw 47 with
 an:=fun id s i=>match id,i with|4,0=>.ty 34 0|_,_=>.no
 lp:=fun id s=>match id with
 |0=>yG (.t 22) (.t 20) (.c 6 12) 32 0 [0,1,4,6,20,21,22] s
 |2=>cY (.t 66) (.len (.t 64)) [.pw (.t 64) (.v (.t 66)),.ge (.sub (.wt (.t 64)) (.pw (.t 64) (.v (.t 66)))),.sl (.c 11 7) 24 .z,.sl (.c 11 12) 32 .z,.ge (.sub (.add (.k WU) (.pw (.t 64) (.v (.t 66)))) (.len (.c 11 7))),.ge (.sub (.add (.k WU) (.pw (.t 64) (.v (.t 66)))) (.len (.c 11 12)))] [0,1,4,5,11,64,65,66] s
 |_=>none }
def UA:Sp:=bD 93 [iu Φ7 0 (iR 0 8)] [] [(bB,[])] 0 (.k 0)
def UB:Sp:=bD 92 [ix 8 0,bC (.fn 93)] [] [(bI,[.add (.v (.t 100)) (.k 1),.sub (.len (.t 0)) (.add (.v (.t 100)) (.k 1))])] 1 (.k 0)
def UC:Gu:={ cw 92 with lp:=fun id s=>cY (.t 8) (.len (.t 6)) [] [0,1,4,6,7,8] s }
def UD:Sp :=
 let sp:=bt 46 ⟨4,[],[.am 3 1 2],[],[(1,1,true)],[((LE.a (.gn 1 2)).sub (.a (.n 2))).aO (-1)],[],[],[],[],[],[],[(1,0)]⟩ [iu Φ7 0 (iR 20 8),iu Φ7 0 (iR 0 8)] (wu (LF.map fun i=>.wt (.p 1 i))::.sub (.k many) (pJ 0)::Uw (JG 0))
  [(fun e s=>let p:=Rq Φ7 0 (iR 20 8) [(5,wX (.p 0 5))] e s;let d:=p.2.nx;(p.1,⟨d+1,[],[],p.2.ty,[(1,d,true)],eqs (fW d 1) (fW 1 1)++eqs (fW d 2) (fW 1 2),[],[],(match rC e (.p 0 5)with|some x=>[(d,x,.a (.n 2))]|none=>[]),[],[],[],[]⟩),[])] 5 (.k 0)
 let L:=C9 0 sp.ar
 let nm:=(rC (JE sp.pre L) (.p 0 5)).getD .ab
 let sm (t:Nat):LE:=(LF.filterMap fun i=>rE (JE sp.pre L) (.wt (.p t i))).foldl LE.add (.k 0)
 ⟨46,⟨sp.pre.nx,[],sp.pre.os,sp.pre.ty,sp.pre.gs,sp.pre.fs,[],[],[(1,nm,.a (.n 2))],[],[],[],[(1,0)]⟩,sp.ar,sp.gD.map fun q =>
  let d:=q.2.nx-1
  let ls:=LF.filterMap fun i=>match q.1 with|.v _ cs=>(match cs[i]? with|some (.ref y)=>some ((fW d 0).sub (.a (.len y)))|_=>none)|_=>none
  (q.1,⟨q.2.nx,[],[.am 3 1 2],q.2.ty,q.2.gs,eqs (fW d 0) ((fW 1 0).add (sm 1))++ls++q.2.fs,[],[],q.2.ats,[],[],[],[(d,0)]⟩),5,.k 0⟩
def UE:Gu:={ cw 46 with ac:=fun id=>match id with|9=>[oL (.n 0) 0 (.add (pJ 0) ((JG 1).foldl (fun e x=>.add e (.wt x)) (.k 0)))]|_=>[] }
def XD:SS:=⟨3,[],[],[.pt 2 37 1],[(1,1,false)],[],[],[],[],[],[],[1],[]⟩
def Ru:SS:=⟨3,[],[],[.pt 2 37 1],[(1,1,false)],[],[],[],[],[],[],[],[]⟩
def Z3:Bl:=fun e s=>(.cN [],Uv s.nx [] [] [] [])
def UF:Sp:=bt 94 XD [bC (.ref 2),bS,bS,bI] [] [(Z3,[])] 0 (.k 0)
def UG:Gu:={ cw 94 with an:=fun id s i=>match id,i with|2,0=>.ty 43 0|_,_=>.no }
def UH:Sp:=bt 95 Ru [bC (.ref 2),bS] [] [(bI,[])] 0 (.k 0)
def UI:Sp:=bt 48 XD [bC (.ref 2)] [] [(Z3,[])] 1 (.k 0)
def UJ:Gu:={ cw 48 with lp:=fun id s=>match id with
 |0=>cY (.t 17) (.len (.t 15)) [] [0,15,16,17] s
 |2=>cY (.t 25) (.len (.t 23)) [] [0,15,16,17,2,3,23,24,25] s
 |5=>cY (.t 70) (.len (.t 68)) [] [0,15,16,17,2,3,68,69,70] s
 |7=>cY (.t 92) (.len (.t 90)) [] [0,15,16,17,2,3,90,91,92] s
 |_=>none }
def Z4:Bl:=fun e s=>(sc (.ref (s.nx+2)),⟨s.nx+3,[],[],[.pt (s.nx+2) 37 (s.nx+1)],[(s.nx+1,s.nx+1,false)],[],[],[],[],[],[],[s.nx+1],[]⟩)
def LL:Sp:=bD 10 [ix 8 0] [wu [.wt (.t 0)]] [(Z4,[])] 6 (.k 0)
def UK (ns:List (Nat×XE))(b:XR)(k:Nat)(s:SS):Option Ga:=match rC s b with|some (.cV b)=>some (.Rc (ns.filterMap fun p=>(rE s p.2).map fun e=>(p.1,e)) 0 b k)|_=>none
def UL (g:XG)(x:XR)(cc:Nat)(s:SS):Option Ga:=match rG s g,rC s x with|some g,some (.ref y)=>some (.Re g y cc)|_,_=>none
def wY (g:XG)(x:XR)(cc:Nat)(s:SS):Option Ga:=match rG s g,rC s x with|some g,some (.cV b)=>some (.Rh b cc g)|_,_=>none
def Nv (g:XG)(x:XR)(cc:Nat)(s:SS):Option Ga:=match rG s g,rC s x with|some g,some (.bZ b _)=>some (.Rf b cc g)|_,_=>none
def EC (l:List XE):List Gn:=l.map Gn.ge
def LM:Gu:={ cw 10 with
 an:=fun id s i=>match id,i with|1,0=>.em .str|1,1=>.im|1,2=>.em .pair|1,3=>.em .str|3,0=>.im|4,0=>.im|_,_=>.no
 ac:=fun id=>match id with
  |2=>[UK [(0,.k WU),(1,.k 0),(2,.k 0)] (.c 3 18) 2]
  |47=>[oL (.n 0) 1 (.len (.c 3 19)),UL (.n 0) (.c 3 17) 36,wY .z (.c 3 22) 42,wY (.n 0) (.c 3 21) 41,wY (.n 0) (.c 3 20) 40,wY (.n 0) (.c 3 18) 38,Nv (.n 0) (.t 3) 37]
  |_=>[]
 lp:=fun id s=>match id with
 |0=>cY (.t 40) (.len (.t 38)) [.im (.t 6) (.v (.t 40))] [0,3,4,5,6,7,38,39,40] s
 |2=>cY (.t 52) (.len (.t 50)) [.im (.t 7) (.v (.t 52))] [0,3,4,5,6,7,50,51,52] s
 |4=>cY (.t 64) (.len (.t 62)) ([.JU (.n 0),.ul (.c 3 17) 35 (.n 0),.sl (.c 3 19) 39 .z,.im (.c 3 20) (.len (.c 3 19))]++EC (u4 (pJ 0) (.k WU)++u4 (pJ 1) (.k 0)++u4 (pJ 2) (.len (.c 3 17))++[.sub (.v (.t 64)) (.len (.c 3 17)),.sub (.v (.t 64)) (.len (.c 3 19))])) [0,3,4,5,6,7,62,63,64] s
 |7=>cY (.t 113) (.len (.t 111)) ([.JU (.n 0),.ul (.c 3 17) 35 (.n 0)]++EC (u4 (pJ 0) (.k WU)++u4 (pJ 1) (.k 0)++u4 (pJ 2) (.len (.c 3 17))++[.sub (.add (.k WU) (.v (.t 113))) (.len (.c 3 17))])) [0,3,4,5,6,7,111,112,113] s
 |9=>cY (.t 123) (.len (.t 121)) ([.sl (.c 3 19) 39 .z,.im (.c 3 20) (.len (.c 3 19))]++[.ge (.sub (.add (.k WU) (.v (.t 123))) (.len (.c 3 19)))]) [0,3,4,5,6,7,121,122,123] s
 |11=>cY (.t 133) (.len (.t 131)) ([.pw (.t 131) (.v (.t 133)),.ge (.sub (.wt (.t 131)) (.pw (.t 131) (.v (.t 133)))),.JU (.n 0)]++EC (.sub (.add (.k WU) (.pw (.t 131) (.v (.t 133)))) (pJ 0)::u4 (pJ 1) (.k 0)++u4 (pJ 2) (.len (.c 3 17)))) [0,3,4,5,6,7,131,132,133] s
 |_=>none }
def JH:Sp:=bD 122 [bC .c7] [] [(Z4,[])] 7 (.k 0)
def Nw:Sp:=bt 122 Ru [bC (.ref 2)] [] [(fun e s=>(sc (.ref 2),Uv s.nx [] [] [] []),[])] 7 (.k 0)
end Go.Rd
namespace Go.Rd
open Go.aK Go.RowKit Go.Rt
def UM (tp:Bool):SS×Bl:=bif tp then (Ru,bC (.ref 2))else (Uh 0,bC .c7)
def UN (f:Nat)(tp:Bool)(ar:List Bl)(post:Bl)(str:Nat):Sp:=bt f (UM tp).1 ((UM tp).2::ar) [] [(post,[])] str (.k 0)
def LN (tp:Bool):Sp:=UN 61 tp [bI] bS 8
def LO:Gu:={ cw 61 with lp:=fun id s=>cY (.t 14) (.len (.t 12)) [] [0,1,4,12,13,14] s }
def LP (tp:Bool):Sp:=UN 65 tp [bS] (bT [iu Φ7 0 (iR 20 8),bB]) 8
def ED (tp:Bool):Sp:=UN 155 tp [bS] (bT [iu Φ7 0 (iR 20 8),bB]) 8
def EE (tp:Bool):Sp:=UN 154 tp [bS] bB 8
def EF (tp:Bool):Sp:=UN 157 tp [bS,bS] (bT [iu Φ7 0 (iR 20 9),bB]) 9
def EG:Gu:={ cw 157 with an:=fun id s i=>match id,i with|11,3=>.ty 30 0|_,_=>.no }
def LQ:Bl:=bA [bS,bS]
def bU8:Bl:=fun _ s=>(sc (.int .u8 (.a (.z s.nx))),aC s)
def tt:SC:=.bool (.k true)
def ff:SC:=.bool (.k false)
def Nx:Sp:=bD 449 [LQ] [] [(bC (.int .u8 (.k 0)),[]),(bU8,[.sub (.Rp (.p 0 1)) (.k 1)])] 0 (.k 0)
def Ny:Sp:=bD 450 [LQ] [.sub (.Rp (.p 0 1)) (.k 1)] [(LQ,[.sub (.sub (.Rp (.p 0 1)) (.k 1)) (.Rp (.p 100 1))])] 0 (.k 0)
def XF (s:SS):SV->Option LE
 |.cN ((_,[_,.str y])::_)=>some (.a (.sl y))
 |.cN ((_,[_,.my l _])::_)=>some (.k l)
 |_=>none
def JI (d:Int)(b:Bl):Bl:=fun e s=>let p:=bT [LQ,b] e s;(p.1,match XF p.2 p.1,rE e (.Rp (.p 0 1))with|some x,some y=>aF p.2 ((y.sub x).aO (-d))|_,_=>p.2)
def Nz:Sp:=bD 345 [LQ] [] [(JI 0 bB,[])] 1 (.k 0)
def NA:Sp:=bD 346 [LQ] [] [(JI 1 (bC tt),[]),(JI 0 (bC ff),[])] 1 (.k 0)
def Rv (f c fn p str:Nat)(ms:XE):Sp:=bD f [ix (p+c) 0,bC (.fn fn)] [] [(ix (60+c) 0,[S3 (.t 100) (.t 0),Da (.t 100) (.t 0),Da (.t 0) (.t 100)])] str ms
def qL (f c:Nat):Gu:={ cw f with lp:=fun id s=>cY (.t 10) (.len (.t 8)) [.pw (.t 8) (.v (.t 10)),.ge (.sub (.wt (.t 8)) (.pw (.t 8) (.v (.t 10)))),.jg (.t 5) (60+c),.ge (.sub (.pw (.t 8) (.v (.t 10))) (.wt (.t 5))),.ge (.sub (.v (.t 10)) (.len (.t 5))),.ge (.sub (.len (.t 5)) (.v (.t 10)))] [0,1,4,5,8,9,10] s }
def Bj (l:List Nat):List XE:=l.map fun i=>S3 (.p 100 i) (.p 0 i)
def LR (p:Nat):Sp:=bD 53 [iu Φ7 0 (iR p 1)] [] [(iu Φ7 0 (iR 60 1),Bj [3,4])] 0 (.add (.k 1) (.mul 3 (.add (.wt (.p 0 3)) (.wt (.p 0 4)))))
def EH (p:Nat):Sp:=bD 109 [iu Φ7 0 (iR p 2)] [] [(iu Φ7 0 (iR 60 2),Bj [4,5])] 0 (.add (.k 2) (.mul 3 (.add (.wt (.p 0 4)) (.wt (.p 0 5)))))
def EI (p:Nat):Sp:=Rv 107 1 53 p 0 (.mul 3 (.wt (.t 0)))
def EJ (p:Nat):Sp:=Rv 108 2 109 p 0 (.mul 3 (.wt (.t 0)))
def EK (p:Nat):Sp:=bD 111 [iu Φ7 0 (iR p 3)] [] [(iu Φ7 0 (iR 60 3),Bj [4,5])] 1 (.k 0)
def EL (p:Nat):Sp:=Rv 110 3 111 p 2 (.k 0)
def Z5 (f c p str:Nat):Sp:=bD f [ix (p+c) 0] [] [(ix (60+c) 0,[S3 (.t 100) (.t 0),Da (.t 100) (.t 0)])] str (.k 0)
def LU (p:Nat):Sp:=Z5 54 3 p 3
def EM (p:Nat):Sp:=bD 153 [iu Φ7 0 (iR p 4)] [] [(iu Φ7 0 (iR 60 4),Bj [1])] 4 (.k 0)
def EN (p:Nat):Sp:=Rv 152 4 153 p 5 (.k 0)
def EO (p:Nat):Sp:=Z5 100 4 p 6
def EP (p:Nat):Sp:=bD 102 [iu Φ7 0 (iR p 5)] [] [(iu Φ7 0 (iR 60 5),Bj [4,5,6])] 7 (.add (.k 1) (.mul 2 (.wt (.p 0 6))))
def ER (p:Nat):Sp:=Rv 101 5 102 p 7 (.mul 2 (.wt (.t 0)))
def LW (p:Nat):Sp:=bD 99 [iu Φ7 0 (iR p 7)] [] [(iu Φ7 0 (iR 60 7),Bj [7,8,11])] 7 (.k 0)
def LX (p:Nat):Sp:=Rv 98 7 99 p 8 (.k 0)
def LY (p:Nat):Sp:=bD 97 [iu Φ7 0 (iR p 6)] [] [(iu Φ7 0 (iR 60 6),Bj [4,5,6])] 9 (.k 0)
def LZ (p:Nat):Sp:=Rv 96 6 97 p 10 (.k 0)
def L0 (p:Nat):Sp:=bD 49 [iu Φ7 0 [.sl (p+6)]] [] [(iu Φ7 0 [.sl 66],[S3 (.p 100 0) (.p 0 0),Da (.p 100 0) (.p 0 0),Da (.p 0 0) (.p 100 0)])] 11 (.k 0)
end Go.Rd
namespace Go.Rd
open Go.aK Go.RowKit Go.Rt
def UO (tp:Bool):Nat:=bif tp then 5 else 2
def S4 (tp:Bool):SS:=let o:=UO tp
 ⟨o+8,[],[.loc o 134 [bif tp then .ref 4 else .c7,.ref (o+1),.ref (o+2),.ref (o+3),.ref (o+4),.ref (o+5),.ref (o+6),.cV (o+7),.ab],.im (o+7) (.a (.gn 1 0))],
  [.sl (o+2) 80 1,.sl (o+3) 82 1,.sl (o+4) 85 0,.sl (o+5) 86 0,.sl (o+6) 87 0]++(bif tp then [.pt 4 37 3]else []),(1,1,false)::(bif tp then [(3,3,false)]else []),[],[],[],[],[],[],[],[]⟩
def XH:Nat->Nat|2=>80|3=>82|4=>85|5=>86|6=>87|_=>0
def UP (os:List SO)(i:Nat)(x:SC):List SO:=os.map fun o=>match o with|.loc b e cs=>.loc b e (Bg cs i x)|o=>o
def Gs (val:Bl)(ch:List (Nat×XE)):Bl:=fun e s =>
 let p:=val e s
 let r:=ch.foldl (fun (a:List SO×SS) q =>
  let x:=a.2.nx
  let s1:=bL (aC a.2) (.sl x (XH q.1) (bif Nat.beq q.1 2||Nat.beq q.1 3 then 1 else 0))
  let s2:=match rE e (.add (.len (.c 0 q.1)) q.2)with|some m=>aF s1 (m.sub (.a (.len x)))|none=>s1
  let s3:=bif Nat.beq q.1 2 then (match rE e (.len (.c 0 q.1))with|some m=>aF s2 ((LE.a (.len x)).sub m)|none=>s2)else s2
  (UP a.1 q.1 (.ref x),s3)) (e.os,p.2)
 (p.1,c6 r.2 r.1)
def UQ (tp:Bool):SS:=let s:=S4 tp;⟨s.nx,s.L,s.os,s.ty,(1,1,true)::(bif tp then [(3,3,false)]else []),[(LE.a (.len (UO tp+2))).sub (fW 1 2)],[],[],[],[],[],bif tp then [3]else [],[(1,bif tp then 3 else 0)]⟩
def XI:List SO->Option Nat
 |.loc _ _ (_::_::.ref y::_)::_=>some y
 |_=>none
def NB (val:Bl)(ch:List (Nat×XE)):Bl:=fun e s =>
 let p:=Gs val ch e s
 let x:=p.2.nx
 let s1:=aC p.2
 (p.1,⟨s1.nx,s1.L,s1.os,s1.ty,(1,x,true)::s1.gs,eqs (fW x 0) (fW 1 0)++eqs (fW x 1) (fW 1 1)++eqs (fW x 3) (fW 1 3)++[(fW x 2).sub (fW 1 2)]++(match XI s1.os with|some y=>[(LE.a (.len y)).sub (fW x 2)]|none=>[])++s1.fs,s1.bs,s1.pw,s1.ats,s1.dB,s1.ne,s1.fz,(x,match e.sb with|p::_=>p.2| []=>0)::s1.sb⟩)
def fits (l:List Nat)(w:XE):List XE:=l.map fun i=>.sub (.k 1048576) (.add (.len (.c 0 i)) w)
def Rw (tp:Bool):Bl:=bC (.bZ (UO tp) 0)
def Rx (tp:Bool)(l:List Nat)(w:XE):List Gn:=l.flatMap fun i=>[.sl (.c 0 i) (XH i) (bif Nat.beq i 2||Nat.beq i 3 then .r (.c 0 2)else .z),.ge (.sub (.add (.raw (.a (.len (UO tp+i)))) w) (.len (.c 0 i)))]++(bif Nat.beq i 2 then [.ge (.sub (.len (.c 0 i)) (.raw (.a (.len (UO tp+i)))))]else [])
def L3 (x i:XR):List Gn:=[.pw x (.v i),.ge (.sub (.wt x) (.pw x (.v i)))]
def NC:Sp:=bD 218 [ix 30 0,bS] [] [(bT [iu Φ7 0 (iR 20 10),bB],[])] 0 (.k 0)
def ND:Gu:={ cw 218 with lp:=fun id s=>cY (.t 10) (.len (.t 8)) [] [0,1,4,8,9,10] s }
def ES (tp:Bool):Sp:=bt 103 (S4 tp) [Rw tp,LQ,bB] [] [(Gs (bT [LQ,bB]) [],[])] 9 (.k 0)
def ET (tp:Bool):Sp:=bt 105 (S4 tp) [Rw tp,bS] [] [(Gs bS [],[])] 9 (.k 0)
def Ry:XE:=.add (.wt (.p 2 3)) (.wt (.p 2 4))
def wZ:Bl:=fun _ s=>(.cN [],s)
def sG (tp:Bool):Sp:=bt 219 (S4 tp) [Rw tp,bI,iu Φ7 0 (iR 60 1),LQ,bB,bB] (fits [4] (.add (.k 1) Ry)) [(Gs wZ [(4,.add (.k 1) Ry)],[])] 10 Ry
def sH (tp:Bool):Gu:={ cw 219 with
 un:=fun id=>match id with|0=>1|_=>0
 lp:=fun id s=>match id with
 |0=>dj [.str (.c 12 0),.str (.c 12 1),.str (.c 14 0),.str (.c 14 1),.bool (.t 15),.aU [0,1,4,5,8,9,12,14,15]] (.Rp (.c 14 1)) s
 |2=>cY (.t 89) (.len (.t 87)) (L3 (.t 87) (.t 89)++Rx tp [4] (.pw (.t 87) (.v (.t 89)))) [0,1,4,5,8,14,15,16,17,87,88,89] s
 |4=>cY (.t 106) (.len (.t 104)) (L3 (.t 104) (.t 106)++Rx tp [4] (.add (.wt (.c 8 3)) (.pw (.t 104) (.v (.t 106))))) [0,1,4,8,16,104,105,106] s
 |_=>none }
def EU (tp:Bool):Sp:=bt 156 (S4 tp) [Rw tp,bI,ix 63 0,ix 30 0] (fits [4,5] (.wt (.t 2))) [(Gs wZ [(4,.wt (.t 2)),(5,.wt (.t 2))],[])] 11 (.k 0)
def EV (tp:Bool):Gu:={ cw 156 with lp:=fun id s=>cY (.t 17) (.len (.t 15)) (L3 (.t 15) (.t 17)++Rx tp [4,5] (.pw (.t 15) (.v (.t 17)))) [0,1,3,15,16,17] s }
def EW (tp:Bool):Sp:=bt 104 (S4 tp) [Rw tp,bI,bI,bS,ix 64 0] (fits [4,5,6] (.wt (.t 4))) [(Gs wZ [(4,.wt (.t 4)),(5,.wt (.t 4)),(6,.wt (.t 4))],[])] 12 (.k 0)
def EX (tp:Bool):Gu:={ cw 104 with lp:=fun id s=>cY (.t 16) (.len (.t 14)) (L3 (.t 14) (.t 16)++Rx tp [4,5,6] (.pw (.t 14) (.v (.t 16)))) [0,1,2,3,14,15,16] s }
def Z6:List XE:=[.v (.t 1),.sub (pJ 0) (.add (.v (.t 1)) (.k 1))]
def oM (tp:Bool):Sp:=bt 106 (UQ tp) [Rw tp,bI,bI,bS,ix 65 0] (Z6++.sub (.k 2000) (.wt (.t 4))::fits [2,4,5,6] (.wt (.t 4))) [(NB (ix 81 1) [(2,.wt (.t 4)),(4,.wt (.t 4)),(5,.wt (.t 4)),(6,.wt (.t 4))],[Da (.t 100) (.t 4)])] 13 (.wt (.t 4))
def gN (k:Nat):XE:=.gn (.r (.c 0 2)) k
def XJ:List Gn:=.JU (.r (.c 0 2))::EC (u4 (gN 0) (.raw (fW 1 0))++u4 (gN 1) (.raw (fW 1 1))++u4 (gN 3) (.raw (fW 1 3))++[.sub (gN 2) (.raw (fW 1 2))])
def ndW:List Gn:=[.ge (.sub (.len (.c 0 2)) (gN 2))]
def aTy (x:XR)(c:Nat)(s:SS):An:=match rG s (.r x)with|some g=>.ty c g|none=>.no
def oN (tp:Bool):Gu:={ cw 106 with
 an:=fun id s i=>match id,i with|6,2=>aTy (.c 0 2) 81 s|_,_=>.no
 ac:=fun id=>match id with|6=>[oL (.r (.c 0 2)) 2 (.add (v 14) (.k 1))]|_=>[]
 jn:=fun id s=>match id with
 |2=>LD ([.str (.c 15 3),.str (.c 15 7),.str (.c 15 8),.bool (.c 15 9),.str (.t 16),.str (.t 17)]++Rx tp [4,5] (.add (.pw (.t 20) (.v (.t 22))) (.wt (.c 13 4)))++[.aU [0,1,2,3,10,11,13,14,15,16,17,20,21,22]]) s
 |_=>none
 lp:=fun id s=>cY (.t 22) (.len (.t 20)) (XJ++L3 (.t 20) (.t 22)++Rx tp [2,4,5,6] (.pw (.t 20) (.v (.t 22)))++ndW++[.sl (.t 11) 81 (.r (.c 0 2)),.ge (.sub (.v (.t 22)) (.len (.t 11)))]) [0,1,2,3,10,11,20,21,22] s }
def oO:XE:=.add (.wt (.p 2 4)) (.add (.wt (.p 2 5)) (.wt (.p 2 6)))
def L4 (tp:Bool):Sp:=bt 50 (UQ tp) [Rw tp,bI,iu Φ7 0 (iR 60 6)] (Z6++.sub (.k 2000) oO::fits [2,4,5,6] oO++fits [3] (.k 1)) [(NB wZ [(2,oO),(3,.k 1),(4,oO),(5,oO),(6,oO)],[])] 14 (.k 0)
def L5 (tp:Bool):Gu:={ cw 50 with lp:=fun id s=>cY (.t 15) (.len (.t 13)) (L3 (.t 13) (.t 15)++Rx tp [4,5,6] (.pw (.t 13) (.v (.t 15)))) [0,1,5,13,14,15] s }
def poL:Bl:=fun e s=>let d:=s.nx+1;(sc (.ref (s.nx+2)),⟨s.nx+3,[],[],[.pt (s.nx+2) 89 (s.nx+1)],[(s.nx+1,d,false)],[(LE.k 2000).sub (.a (.gn d 0)),(LE.k 2000).sub (.a (.gn d 1)),(LE.k 2000).sub (.a (.gn d 2))],[],[],[],[],[],[d],[]⟩)
def L6 (tp:Bool):Sp:=bt 11 (bif tp then XD else Uh 0) [bC (bif tp then .ref 2 else .c7),iu Φ7 0 [.sl 6]] [.sub (.k 1500) (.wt (.p 1 0))] [(poL,[])] 15 (.k 0)
def Rz (ns:List (Nat×XE))(sub:XG)(s:SS):Option Ga:=(rG s sub).map fun g=>.new (ns.filterMap fun p=>(rE s p.2).map fun e=>(p.1,e)) g
def XK (g:XG)(s:SS):Option Ga:=(rG s g).map .Xv
def NF (w:XE)(i:Nat):List Gn:=[.sl (.c 5 i) (XH i) (bif Nat.beq i 2||Nat.beq i 3 then .n 0 else .z),.ge (.sub w (.len (.c 5 i)))]
def L7 (tp:Bool):Gu:={ cw 11 with
 dr:=fun id=>match id with|20=>[0,1,2,3,4,5,6,7,8,9,10,11,12,14,17]|id=>Z1 11 id
 an:=fun id s i=>match id,i with|1,3=>.im|14,7=>(match rG s (.n 0)with|some g=>.ty 83 g|none=>.no)|_,_=>.no
 ac:=fun id=>match id with
  |2=>[Rz [(0,.len (.c 5 1)),(1,.k 0),(2,.k 0),(3,.k 0)] (bif tp then .r (.c 5 0)else .z)]
  |22=>[oL (.n 0) 2 (.len (.c 5 2)),oL (.n 0) 3 (.len (.c 5 3)),XK (.n 0),wY (.n 0) (.c 5 7) 88,Nv (.n 0) (.t 5) 89]
  |_=>[]
 a2:=fun id op=>match id,op with|20,18=>[oL (.n 0) 1 (.add (.v (.t 89)) (.k 1))]|_,_=>[]
 lp:=fun id s=>match id with
 |0=>cY (.t 28) (.len (.t 26)) [.im (.c 5 7) (.v (.t 28))] [4,5,26,27,28] s
 |2=>cY (.t 64) (.len (.t 62)) ([.JU (.n 0)]++EC (u4 (pJ 0) (.len (.c 5 1))++u4 (pJ 1) (.k 0)++u4 (pJ 3) (.k 0))++L3 (.t 62) (.t 64)++NF (.v (.t 64)) 3++[2,4,5,6].flatMap (NF (.pw (.t 62) (.v (.t 64))))++[.im (.c 5 7) (pJ 0),.ge (.sub (.len (.c 5 2)) (pJ 2))]) [4,5,62,63,64] s
 |4=>cY (.t 89) (.len (.t 87)) ([.JU (.n 0)]++EC (u4 (pJ 0) (.len (.c 5 8))++[.sub (.len (.c 5 2)) (pJ 2)]++u4 (pJ 3) (.k 0)++[.sub (.v (.t 89)) (pJ 1)])++[.im (.c 5 7) (pJ 0)]) [4,5,87,88,89] s
 |_=>none }
end Go.Rd
namespace Go.Rd
open Go.aK Go.RowKit Go.Rt
def shp:SS:=⟨3,[],[],[.pt 2 89 1],[(1,1,false)],[(LE.k 2000).sub (.a (.gn 1 0)),(LE.k 2000).sub (.a (.gn 1 1)),(LE.k 2000).sub (.a (.gn 1 2))],[],[],[],[],[],[1],[]⟩
def JJ (f:Nat)(ar:List Bl)(gD:List (Bl×List XE))(str:Nat):Sp:=bt f shp (bC (.ref 2)::ar) [] gD str (.k 0)
def poP:Bl:=fun e s=>(sc (.ref (s.nx+2)),⟨s.nx+3,[],[],[.pt (s.nx+2) 37 (s.nx+1)],[(s.nx+1,s.nx+1,false)],[],[],[],[],[],[],[],[]⟩)
def UR:Sp:=JJ 12 [] [(bC .c7,[]),(poP,[])] 16
def NG:Sp:=bD 12 [bC .c7] [] [(bC .c7,[])] 16 (.k 0)
def US:Sp:=JJ 13 [] [(iu Φ7 0 [.sl 66],u4 (.len (.p 100 0)) (.raw (fW 1 0)))] 16
def EY:Sp:=bt 55 (XL ) [ix 84 1] [] [(ix 84 1,[Da (.t 100) (.t 0)])] 0 (.k 0)
 where XL:SS:=⟨2,[],[],[],[(1,1,false)],[],[],[],[],[],[],[],[]⟩
def NH:Gu:={ cw 55 with an:=fun id s i=>match id,i with|3,0=>.ty 84 1|_,_=>.no }
def UT:Sp:=bt 55 EY.XL [ix 81 1] [] [(ix 81 1,[Da (.t 100) (.t 0)])] 0 (.k 0)
def UU:Gu:={ cw 55 with an:=fun id s i=>match id,i with|3,0=>.ty 81 1|_,_=>.no }
def UW:Sp:=bt 51 EY.XL [iu Φ7 1 (Wk 80)] [] [(iu Φ7 1 (Wk 80),Da (.p 100 12) (.p 0 12)::Bj [10,11])] 12 (.k 0)
def UX:Sp:=JJ 14 [] [(ix 80 1,u4 (.len (.t 100)) (.raw (fW 1 2)))] 16
def UY:Gu:={ cw 14 with lp:=fun id s=>cY (.t 13) (.len (.t 11)) [.sl (.t 3) 80 (.r (.t 11)),.ge (.sub (.v (.t 13)) (.len (.t 3))),.ge (.sub (.len (.t 3)) (.v (.t 13)))] [0,2,3,11,12,13] s }
def UZ:Sp:=JJ 19 [bI] [(ix 81 1,[GB 2000 (.t 100)])] 16
def U0:Sp:=JJ 21 [bS] [(bT [bN,bC tt],[.sub (.raw (fW 1 0)) (.add (.v (.p 100 0)) (.k 1))]),(bT [bI,bC ff],[])] 16
end Go.Rd
namespace Go.Rd
open Go.aK Go.RowKit Go.Rt
def drG (f:Nat):Nat->List Nat:=fun r=>match f with
 |5=>(match r with|5=>[0,2]|_=>[])
 |67=>(match r with|5=>[0,1,2,3,4,5,7,8]|_=>[])
 |69=>(match r with|7=>[0,1,2,3,4,5,7,8,9]|13=>[0,1,2,3,4,5,6,7,8,9,10,11,12,13,14,15,16,17,18,19,20,22,23]|19=>[0,1,2,3,4,5,6,7,8,9,10,11,12,13,15,16]|_=>[])
 |131=>(match r with|0=>[0,1,2,3,4,5,6,8,11,12]|_=>[])
 |70=>(match r with|12=>[0,1,2,3,4,5,6,7,8,10,11]|13=>[0,1,2,3,5]|17=>[0,1,2,6]|_=>[])
 |204=>(match r with|17=>[0,1,2,3,4,5,6,7,8,9,10,11,12,14,15,16]|_=>[])
 |208=>(match r with|4=>[0,1,2,5,6,7]|5=>[0,1,2,3,4,5,6,7]|_=>[])
 |323=>(match r with|4=>[0,1,2,3,4,5,6,7,8,9,10,11,12,13,15,16]|6=>[0,1,2,3,4,5,6,7,8,9,10,11,12,13,14,16]|_=>[])
 |324=>(match r with|10=>[0,1,2,3,4,5,6,7,8,9,10,11,12,13,14,15,16,18]|_=>[])
 |325=>(match r with|10=>[0,1,2,3,4,5,6,7,8,9,10,11,12,13,14,15,16,18]|_=>[])
 |327=>(match r with|3=>[0,1,2,3,4,5,6,7,8,9,10,11,12,14]|_=>[])
 |328=>(match r with|5=>[0,1,2,3,4,5,6,7,8,9,10,11,12,13,15,16,17]|11=>[0,1,2,3,4,5,6,7,8,9,10,11,12,13,14,16]|16=>[0,1,2,3,4,5,6,7,8,9,11,12]|17=>[0,1,2,3,4,5,6,7,8,9,10,11,12,13,14,16]|22=>[0,1,2,3,4,5,6,7,8,9,11,12]|23=>[0,1,2,3,4,5,6,7,8,9,10,11,12,13,14,16]|_=>[])
 |329=>(match r with|1=>[0,1,2,3,4,5,6,7,8,9,10,11,12,14]|3=>[0,1,2,3,4,5,6,7,8,9,10,11,12,14,15,16]|5=>[0,1,2,3,4,5,6,7,8,9,10,11,12,14,15]|8=>[0,1,2,3,4,5,6,7,8,9,10,11,12,14]|_=>[])
 |330=>(match r with|1=>[0,1,2,3,4,5,6,7,8,9,10,11,12,14]|3=>[0,1,2,3,4,5,6,7,8,9,10,11,12,14,15]|5=>[0,1,2,3,4,5,6,7,8,9,10,11,12,14,15,16]|8=>[0,1,2,3,4,5,6,7,8,9,10,11,12,14]|10=>[0,1,2,3,4,5,6,7,8,9,10,11,12,14]|13=>[0,1,2,3,4,5,6,7,8,9,10,11,12,14,15]|15=>[0,1,2,3,4,5,6,7,8,9,10,11,12,14,15,16]|18=>[0,1,2,3,4,5,6,7,8,9,10,11,12,14]|21=>[0,1,2,3,4,5,6,7,8,9,10,11,12,14]|_=>[])
 |433=>(match r with|3=>[0,1,2,3,4,5,6,7,8,9,10,11,12,13,14,15,16,17,18,20,21]|5=>[0,1,2,3,4,5,6,7,8,9,10,11,12,14,15]|6=>[0,1,2,3,4,5,6,7,8,9,10,11,12,13,14,15,16,17,18,19,20,22]|_=>[])
 |435=>[0,1,2,3,4,5,6,7,8]
 |505=>(match r with|1=>[0,1,2,3,4,5,6,7,8,10]|_=>[])
 |_=>[]
def iJ (f:Nat):Gu:={ JF with dr:=drG f }
def bU:Bl:=fun _ s=>(sc (.int .u64 (.a (.z s.nx))),aC s)
def Z7 (n:Nat):Int:=.ofNat (Nat.pow 2 n)
def NI (x:XE):List (Bl×List XE):=(bC (.int .i64 (.k 0)),[.sub (.k 0) x])::(List.range 24).map fun l=>(bC (.int .i64 (.k (.ofNat (l+1)))),[.sub x (.k (Z7 l)),.sub (.k (Z7 (l+1)-1)) x])
def JK:List XE:=[.v (.t 0),.sub (.k 16711680) (.v (.t 0))]
def EZ:Sp:=bD 332 [bU] JK (NI (.v (.t 0))) 0 (.k 0)
def NJ:Sp:=bD 205 [bU] JK (NI (.v (.t 0))) 1 (.k 0)
def NK:Sp:=bD 434 [bI] (.sub (.v (.t 0)) (.k 1)::JK) [(bU,[.sub (.v (.t 100)) (.add (.v (.t 0)) (.k 1)),.sub (.mul 2 (.v (.t 0))) (.v (.t 100))])] 2 (.k 0)
def poX:Bl:=fun e s=>(sc (.int .u64 (.a (.z s.nx))),⟨s.nx+2,[],[.loc 0 571 [.int .u64 (.a (.z (s.nx+1)))]],[],[],[],[],[],[],[],[],[],[]⟩)
def NL:Sp:=bt 435 ⟨2,[],[.loc 0 571 [.int .u64 (.a (.z 1))]],[],[],[],[],[],[],[],[],[],[]⟩ [bC (.bZ 0 0)] [] [(poX,[])] 0 (.k 0)
def NM:Sp:=bD 333 [bI] [] [(bB,[])] 0 (.k 0)
def NN:Sp:=bD 342 [bI] [] [(bB,[])] 0 (.k 0)
def NO:Sp:=bD 506 [bS] [] [(bB,[])] 0 (.k 0)
def NP:Sp:=bD 206 [bI,bI] [] [(bI,[])] 1 (.k 0)
def NQ:Sp:=bD 213 [bI,bI] [] [(bI,[])] 1 (.k 0)
def NR:Sp:=bD 438 [bS,bS] [] [(bI,[])] 1 (.k 0)
def NS:List K2:=[i64,i64]
def yH:List K2:=[.str,i64,.bool]
def U1:List K2:=[i64,.sl 90,.sl 91]
def NT:Sp:=bD 335 [iu Φ7 0 NS,iu Φ7 0 NS] [] [(bI,[])] 2 (.k 0)
def NU:Sp:=bD 334 [ix 90 0,ix 90 0,bC (.fn 335)] [] [(bI,[])] 3 (.k 0)
def NV:Gu:={ iJ 334 with lp:=fun id s=>cY (.t 13) (.len (.t 11)) [] [0,1,2,6,11,12,13] s }
def NW:Sp:=bD 207 [ix 90 0,ix 90 0] [] [(bI,[])] 4 (.k 0)
def NX:Sp:=bD 137 [iu Φ7 0 yH] [] [(iu Φ7 0 yH,[])] 0 (.k 0)
def NY:Sp:=bD 336 [iu Φ7 0 yH,iu Φ7 0 yH] [] [(bI,[])] 2 (.k 0)
def NZ:Sp:=bD 208 [ix 91 0,ix 91 0] [] [(bI,[])] 3 (.k 0)
def N0:Gu:={ iJ 208 with lp:=fun id s=>dj [.nat (.t 5),.ge (.sub (.len (.t 0)) (.v (.t 5))),.aU [0,1,4,5]] (.sub (.len (.t 0)) (.v (.t 5))) s }
def N1:Sp:=bD 136 [iu Φ7 0 U1,iu Φ7 0 U1] [] [(bI,[])] 5 (.k 0)
def bF:Bl:=ix 92 0
def qK:Bl:=bC (.fn 136)
def Bk (a b:XE)(x:XR):List XE:=[a,.sub b a,.sub (.len x) b,.sub (.len x) a,.sub (.k 16711680) (.len x)]
def N2:Sp:=bD 323 [bF,bI,bI,qK] (Bk (v 1) (v 2) (.t 0)) [(wZ,[])] 6 (.k 0)
def N3:Gu:={ iJ 323 with lp:=fun id s=>match id with
 |0=>dj [.int (.t 8),.ge (.sub (v 8) (.add (v 1) (.k 1))),.ge (.sub (.add (v 2) (.k 1)) (v 8)),.aU [0,1,2,3,8]] (.sub (.add (v 2) (.k 1)) (v 8)) s
 |2=>dj [.int (.t 9),.ge (.sub (v 9) (v 1)),.ge (.sub (v 8) (v 9)),.aU [0,1,2,3,8,9]] (.sub (v 9) (v 1)) s
 |_=>none }
def N4:Sp:=bD 433 [bF,bI,bI,bI,qK] [v 1,.sub (v 2) (v 1),v 3,.sub (.len (.t 0)) (.add (v 2) (v 3))] [(wZ,[])] 6 (.k 0)
def N5:Gu:={ iJ 433 with lp:=fun id s=>dj [.int (.t 10),.ge (v 10),.ge (.sub (v 2) (v 10)),.aU [0,1,2,3,4,10]] (.sub (v 2) (v 10)) s }
def N6:Sp:=bD 324 [bF,bI,bI,qK] (.sub (v 2) (.add (v 1) (.k 1))::Bk (v 1) (v 2) (.t 0)) [(wZ,[])] 7 (.k 0)
def N7:Gu:={ iJ 324 with lp:=fun id s=>match id with
 |0=>dj [.int (.t 11),.ge (.add (v 11) (.k 1)),.ge (.sub (v 10) (v 11)),.aU [0,1,2,3,8,9,10,11]] (.add (v 11) (.k 1)) s
 |2=>dj [.int (.t 12),.ge (.add (v 12) (.k 1)),.ge (.sub (v 10) (.add (v 12) (.k 1))),.aU [0,1,2,3,8,9,10,12]] (.add (v 12) (.k 1)) s
 |_=>none }
def N8:Sp:=bD 325 [bF,bI,bI,qK] (Bk (v 1) (v 2) (.t 0)) [(wZ,[])] 6 (.k 0)
def N9:Gu:={ iJ 325 with lp:=fun id s=>dj [.ge (.sub (.len (.t 0)) (.add (v 1) (.k 8))),.int (.t 11),.ge (.sub (v 11) (v 1)),.ge (.sub (v 2) (v 11)),.int (.c 9 0),.aU [0,1,2,3,8,9,10,11]] (.sub (v 2) (v 11)) s }
def RA:SS:=⟨2,[],[.loc 0 3 [.int .i64 (.a (.z 1))]],[],[],[],[],[],[],[],[],[],[]⟩
def xa (val:Bl):Bl:=fun e s=>let p:=val e s;(p.1,c6 (aC p.2) [.loc 0 3 [.int .i64 (.a (.z p.2.nx))]])
def JV (t:Nat):List XE:=[v t,.sub (.len (.t 0)) (.add (v t) (.k 1))]
def Oa:Sp:=bt 505 RA [bF,bI,bI,bC (.bZ 0 0),qK] (JV 1++JV 2) [(xa (bT [wX (.t 1),wX (.t 2)]),[]),(xa (bT [wX (.t 2),wX (.t 1)]),[])] 6 (.k 0)
def Ob:Sp:=bt 437 RA [bF,bI,bI,bI,bC (.bZ 0 0),qK] (JV 1++JV 2++JV 3) [(xa (wX (.t 1)),[]),(xa (wX (.t 2)),[]),(xa (wX (.t 3)),[])] 7 (.k 0)
def Oc:Sp:=bt 436 RA [bF,bI,bC (.bZ 0 0),qK] [.sub (v 1) (.k 1),.sub (.len (.t 0)) (.add (v 1) (.k 2))] [(xa bI,[v 100,.sub (.len (.t 0)) (.add (v 100) (.k 1)),.sub (.add (v 1) (.k 1)) (v 100),.sub (.add (v 100) (.k 1)) (v 1)])] 8 (.k 0)
def Od:Sp:=bD 326 [bF,bI,bI,qK] (.sub (.len (.t 0)) (.add (v 1) (.k 8))::.sub (v 2) (.add (v 1) (.k 8))::Bk (v 1) (v 2) (.t 0)) [(bT [bI,bI],[.sub (.v (.p 100 0)) (v 1),.sub (v 2) (.add (.v (.p 100 0)) (.k 1))])] 9 (.k 0)
def Oe:Sp:=bD 327 [bF,bI,bI,qK] (Bk (v 1) (v 2) (.t 0)) [(wZ,[])] 6 (.k 0)
def Of:Gu:={ iJ 327 with lp:=fun id s=>dj [.int (.t 8),.int (.t 9),.ge (.sub (v 8) (v 1)),.ge (.sub (v 2) (.add (v 9) (.k 1))),.ge (.add (.sub (v 9) (v 8)) (.k 2)),.aU [0,1,2,3,8,9]] (.add (.sub (v 9) (v 8)) (.k 2)) s }
def Og:Sp:=bD 328 [bF,bI,bI,qK] (.sub (v 2) (.add (v 1) (.k 1))::Bk (v 1) (v 2) (.t 0)) [(bB,[])] 6 (.k 0)
def Oh:Gu:={ iJ 328 with lp:=fun id s=>match id with
 |0=>dj [.int (.t 9),.ge (.sub (v 9) (.add (v 1) (.k 1))),.ge (.sub (v 2) (v 9)),.nat (.t 10),.ge (.sub (.k 5) (v 10)),.aU [0,1,2,3,8,9,10]] (.sub (.k 5) (v 10)) s
 |2=>dj [.int (.t 9),.ge (.sub (v 9) (.add (v 1) (.k 1))),.ge (.sub (v 2) (v 9)),.aU [0,1,2,3,8,9,10]] (.sub (v 2) (v 9)) s
 |4=>dj [.nat (.t 11),.ge (.sub (v 2) (.add (v 11) (.k 1))),.aU [0,1,2,3,8,9,10,11]] (v 11) s
 |6=>dj [.int (.t 12),.ge (.sub (v 12) (.k 1)),.ge (.sub (v 2) (v 12)),.aU [0,1,2,3,8,9,10,12]] (.sub (v 2) (v 12)) s
 |_=>none }
def up (t:Nat)(s:SS):List Gn:=match rE s (v t)with|some e=>[.int (.t t),.ge (.sub (v t) (.raw e))]|none=>[]
def dn (t:Nat)(s:SS):List Gn:=match rE s (v t)with|some e=>[.int (.t t),.ge (.sub (.raw e) (v t))]|none=>[]
def Bx (i j:Nat):List Gn:=[.ge (.sub (v i) (.add (v 1) (.k 1))),.ge (.sub (v 2) (v i)),.ge (.sub (v j) (v 1)),.ge (.sub (v 2) (.add (v j) (.k 1)))]
def Oi (i j:Nat):XE:=.add (.sub (v j) (v i)) (.k 2)
def L8:List XE:=.sub (v 3) (v 1)::.sub (v 2) (.add (v 3) (.k 1))::Bk (v 1) (v 2) (.t 0)
def Oj:Sp:=bD 329 [bF,bI,bI,bI,qK] L8 [(bI,[.sub (v 100) (.add (v 1) (.k 1)),.sub (v 2) (v 100)])] 6 (.k 0)
def Ol:Gu:={ iJ 329 with lp:=fun id s=>match id with
 |0=>dj ([.int (.t 11),.int (.t 12)]++Bx 11 12++[.ge (Oi 11 12),.aU [0,1,2,3,4,10,11,12]]) (Oi 11 12) s
 |2=>dj (up 11 s++Bx 11 12++[.aU [0,1,2,3,4,10,11,12]]) (.sub (v 2) (v 11)) s
 |4=>dj (dn 12 s++Bx 11 12++[.aU [0,1,2,3,4,10,11,12]]) (v 12) s
 |_=>none }
def E0:Sp:=bD 330 [bF,bI,bI,bI,qK] L8 [(bT [bI,bB],[.sub (.v (.p 100 0)) (v 1),.sub (v 2) (.add (.v (.p 100 0)) (.k 1))])] 6 (.k 0)
def E3:Gu:={ iJ 330 with lp:=fun id s=>match id with
 |0=>dj (up 12 s++Bx 12 13++[.aU [0,1,2,3,4,10,11,12,13]]) (.sub (v 2) (v 12)) s
 |2=>dj (dn 13 s++Bx 12 13++[.aU [0,1,2,3,4,10,11,12,13]]) (v 13) s
 |4=>dj ([.int (.t 12),.int (.t 13)]++Bx 12 13++[.ge (Oi 12 13),.aU [0,1,2,3,4,10,11,12,13]]) (Oi 12 13) s
 |6=>dj (up 12 s++Bx 12 13++[.aU [0,1,2,3,4,10,11,12,13]]) (.sub (v 2) (v 12)) s
 |8=>dj (dn 13 s++Bx 12 13++[.aU [0,1,2,3,4,10,11,12,13]]) (v 13) s
 |_=>none }
def Bm:Sp:=bD 204 [bF,bI,bI,bI,qK] (Bk (v 1) (v 2) (.t 0)) [(wZ,[])] 10 (.sub (v 2) (v 1))
def Bn:Gu:={ iJ 204 with lp:=fun id s=>dj (up 1 s++dn 2 s++[.int (.t 3),.bool (.t 10),.bool (.t 11)]++EC (Bk (v 1) (v 2) (.t 0))++[.aU [0,1,2,3,4,10,11]]) (.sub (v 2) (v 1)) s }
def Om:Sp:=bD 135 [bF,qK] [.sub (.k 16711680) (.len (.t 0))] [(wZ,[])] 11 (.k 0)
def On:Sp:=bD 202 [ix 90 0] [] [(ix 90 0,[Da (.t 100) (.t 0)])] 0 (.k 0)
def Oo:Gu:={ iJ 202 with an:=fun id s i=>match id,i with|3,0=>.ty 90 0|_,_=>.no }
def U2:Sp:=bD 70 [ix 93 0] [.sub (.k 1) (.len (.t 0)),.sub (.len (.t 0)) (.k 1)] [(bF,[])] 12 (.k 0)
def U3:Gu:={ iJ 70 with
 un:=fun id=>match id with|0=>1|_=>0
 an:=fun id s i=>match id,i with|5,2=>.ty 92 0|13,4=>.ty 90 0|17,4=>.ty 91 0|17,5=>.ty 91 0|19,2=>.ty 92 0|19,3=>.ty 92 0|_,_=>.no
 lp:=fun id s=>match id with
 |0=>dj [.aU [0,2,3,12,13,14]] (.k 0) s
 |2=>cY (.t 26) (.len (.t 24)) [.sl (.t 6) 92 .z,.ge (.sub (.v (.t 26)) (.len (.t 6)))] [0,2,3,6,24,25,26] s
 |4=>cY (.t 52) (.len (.t 50)) [.sl (.c 9 2) 91 .z,.ge (.sub (.v (.t 52)) (.len (.c 9 2)))] [0,2,3,6,24,25,26,7,8,9,50,51,52] s
 |_=>none }
end Go.Rd
namespace Go.Rd
open Go.aK Go.RowKit Go.Rt
def Wu (a:XE)(s:SS):Bool:=match rE s a with|some e=>pv 3 s.nx s.fs e|none=>false
def Wl (n:XR):SS->Bool:=Wu (.sub (.v n) (.add (v 1) (.k 1)))
def lpX (a:XE)(dead lp:SS->Option (SS×LE))(s:SS):Option (SS×LE):=match rE s a with
 |some e=>bif aX s e then dead s else lp s
 |none=>lp s
def U4 (e:XE)(s:SS):Option Ga:=(rE s e).map .Xx
def C1:Int:=2097154
def Wm (lo hi:XE):List (Bl×List XE):=[(bI,[v 100,.sub (v 100) (.add (v 1) (.k 1)),.sub hi (v 100)]),(bI,[.sub (v 100) lo,.sub hi (v 100)])]
def Wn:List XE:=[v 1,.sub (.k 1048576) (v 1)]
def Oq (n i x:XR)(lo hi:XE)(ts:List Nat):SS->Option (SS×LE):=lpX (.sub (.v n) (.add (v 1) (.k 1))) (dj [.int n,.ge (.sub (.v n) (.add (v 1) (.k 1))),.ge (.sub (.k 100000000) (.v n)),.ge (.sub hi (.v n)),.aU ts,.gc] (.k 0)) (dj [.int n,.nat i,.ge (.v n),.ge (.sub (.len x) (.v i)),.pw x (.v i),.ge (.sub (.wt x) (.pw x (.v i))),.ge (.sub (.v n) lo),.ge (.sub hi (.v n)),.aU ts,.gc] (.sub (.len x) (.v i)))
def Kw:XE:=.add (v 1) (.k C1)
def U5:Sp:=bD 74 [iu Φ7 0 (iR 0 1),bI] (Wn++[wu [.wt (.p 0 3),.wt (.p 0 4)]]) (Wm (.add (.k 1) (.add (.wt (.p 0 3)) (.wt (.p 0 4)))) Kw) 0 (.add (.wt (.p 0 3)) (.wt (.p 0 4)))
def U6:Gu:={ JF with
 un:=fun _=>1
 dd:=fun _=>Wl (.t 5)
 ac:=fun id=>match id with|7=>[Bi (.c 2 3) (.t 6)]|10=>[Gq (.c 2 4) (.t 8) 0 10]|12=>[Bi (.c 2 4) (.t 8)]|_=>[]
 lp:=fun id s=>match id with
 |0=>Oq (.t 5) (.t 6) (.c 2 3) (.add (.k 1) (.pw (.c 2 3) (v 6))) Kw [0,1,2,4,5,6] s
 |2=>Oq (.t 5) (.t 8) (.c 2 4) (.add (.k 1) (.add (.wt (.c 2 3)) (.pw (.c 2 4) (v 8)))) Kw [0,1,2,4,5,8] s
 |_=>none }
def U7:Sp:=bD 73 [ix 4 0,bI] (Wn++[wu [.wt (.t 0)]]) (Wm (.wt (.t 0)) Kw) 1 (.k 0)
def U8:Gu:={ JF with
 un:=fun _=>1
 dd:=fun _=>Wl (.t 5)
 ac:=fun id=>match id with|5=>[Gq (.t 0) (.t 6) 0 4]|9=>[Gq (.e (.t 0) (.t 6) 1) (.t 7) 0 10]|4=>[Bi (.e (.t 0) (.t 6) 1) (.t 7)]|11=>[Bi (.t 0) (.t 6)]|_=>[]
 lp:=fun id s=>match id with
 |0=>Oq (.t 5) (.t 6) (.t 0) (.sub (.add (.len (.t 0)) (.pw (.t 0) (v 6))) (v 6)) Kw [0,1,4,5,6] s
 |2=>Oq (.t 5) (.t 7) (.e (.t 0) (.t 6) 1) (.sub (.add (.pw (.e (.t 0) (.t 6) 1) (v 7)) (.add (.len (.t 0)) (.pw (.t 0) (v 6)))) (v 6)) Kw [0,1,4,5,6,7] s
 |_=>none }
def VZ:XE:=.add (.mul 2 (v 1)) (.k (C1+C1))
def L9:Sp:=bD 75 [ix 5 0,bI] (Wn++[wu [.wt (.t 0)]]) (Wm (.wt (.t 0)) VZ) 2 (.wt (.t 0))
def Ma:Gu:={ JF with
 un:=fun _=>1
 dd:=fun _=>Wl (.t 5)
 ac:=fun id=>match id with|5=>[Gq (.t 0) (.t 6) 0 9]|9=>[Gq (.e (.t 0) (.t 6) 4) (.t 7) 0 10]|11=>[Bi (.e (.t 0) (.t 6) 4) (.t 7)]|16=>[Bi (.t 0) (.t 6)]|_=>[]
 lp:=fun id s=>match id with
 |0=>Oq (.t 5) (.t 6) (.t 0) (.sub (.add (.len (.t 0)) (.pw (.t 0) (v 6))) (v 6)) VZ [0,1,4,5,6] s
 |2=>Oq (.t 5) (.t 7) (.e (.t 0) (.t 6) 4) (.sub (.add (.pw (.e (.t 0) (.t 6) 4) (v 7)) (.add (.len (.t 0)) (.pw (.t 0) (v 6)))) (v 6)) Kw [0,1,4,5,6,7] s
 |_=>none }
def iZ:Sp:=bD 31 [iu Φ7 0 [.sl 6],bI] (Wn++[wu [.wt (.p 0 0)]]) (Wm (.wt (.p 0 0)) (.k 100000000)) 3 (.k 0)
def hi3:XE:=.k 100000000
def ja:Gu:={ JF with
 un:=fun _=>1
 dd:=fun _=>Wl (.t 5)
 ac:=fun id=>match id with|4=>[U4 (.sub (v 5) (.add (v 1) (.k 1)))]|8=>[U4 (.sub (v 5) (.add (v 1) (.k 1)))]|5=>[Gq (.c 2 0) (.t 6) 0 9]|9=>[Gq (.e (.c 2 0) (.t 6) 4) (.t 8) 0 14]|12=>[Bi (.c 7 4) (.t 8)]|15=>[Bi (.c 2 0) (.t 6)]|_=>[]
 lp:=fun id s=>match id with
 |0=>Oq (.t 5) (.t 6) (.c 2 0) (.sub (.add (.len (.c 2 0)) (.pw (.c 2 0) (v 6))) (v 6)) hi3 [0,1,2,4,5,6] s
 |2=>Oq (.t 5) (.t 8) (.c 7 4) (.sub (.add (.pw (.c 7 4) (v 8)) (.add (.len (.c 2 0)) (.pw (.c 2 0) (v 6)))) (v 6)) (.k 20000000) [0,1,2,4,5,6,7,8] s
 |_=>none }
def Ot:Sp:=bD 74 [iu Φ7 0 (iR 0 1),bI] [] [(bI,[])] 0 (.add (.wt (.p 0 3)) (.wt (.p 0 4)))
def Ou:Gu:={ JF with
 ac:=fun id=>match id with|10=>[Gq (.c 2 4) (.t 8) 0 10]|_=>[]
 lp:=fun id s=>match id with
 |0=>cY (.t 6) (.len (.c 2 3)) [.int (.t 5)] [0,1,2,4,5,6] s
 |2=>cY (.t 8) (.len (.c 2 4)) [.int (.t 5)] [0,1,2,4,5,8] s
 |_=>none }
def Ov:Sp:=bD 73 [ix 4 0,bI] [] [(bI,[])] 1 (.k 0)
def Ow:Gu:={ JF with
 ac:=fun id=>match id with|5=>[Gq (.t 0) (.t 6) 0 4]|9=>[Gq (.e (.t 0) (.t 6) 1) (.t 7) 0 10]|_=>[]
 lp:=fun id s=>match id with
 |0=>cY (.t 6) (.len (.t 0)) [.int (.t 5)] [0,1,4,5,6] s
 |2=>cY (.t 7) (.len (.e (.t 0) (.t 6) 1)) [.int (.t 5)] [0,1,4,5,6,7] s
 |_=>none }
def U9:Sp:=bD 72 [ix 10 0,bI] [] [(bI,[])] 2 (.k 0)
def Va:Gu:={ JF with
 ac:=fun id=>match id with|5=>[Gq (.t 0) (.t 6) 0 17]|_=>[]
 lp:=fun id s=>cY (.t 6) (.len (.t 0)) [.int (.t 5)] [0,1,4,5,6] s }
def Vb:Sp:=bD 30 [ix 8 0,bI] [] [(bI,[])] 3 (.k 0)
def Vc:Gu:={ JF with
 ac:=fun id=>match id with|13=>[Gq (.c 7 11) (.t 10) 0 7]|18=>[Gq (.c 7 8) (.t 11) 0 10]|_=>[]
 lp:=fun id s=>match id with
 |0=>cY (.t 6) (.len (.t 0)) [.int (.t 5)] [0,1,4,5,6] s
 |2=>cY (.t 10) (.len (.c 7 11)) [.int (.t 5)] [0,1,4,5,6,7,10] s
 |4=>cY (.t 11) (.len (.c 7 8)) [.int (.t 5)] [0,1,4,5,6,7,11] s
 |_=>none }
end Go.Rd
namespace Go.Rd
open Go.aK Go.RowKit Go.Rt
def drO (f:Nat):Nat->List Nat:=fun r=>match f with
 |6=>(match r with|5=>[0,2,4,7,8]|_=>[])
 |34=>(match r with|23=>[0,1,2,3,4,5,6,7,8,9,10,11,12,13,14,15,16,18]|_=>[])
 |76=>(match r with|10=>[0,2,3,5,6,7]|18=>[0,1,2,3,4,5,6,7,11,12]|_=>[])
 |81=>(match r with|3=>[0,1,2,3,4,5,7,8,9,10,11,12]|_=>[])
 |82=>(match r with|1=>[0,1,2,3,4,5,7,8,9,10,11,12]|_=>[])
 |140=>(match r with|13=>[0,1,2,3,4,5,7]|18=>[0,1,2,3,4,5,7,8,9]|_=>[])
 |142=>(match r with|2=>[0,1,2,3,4,5,6,7,8,9,10]|3=>[0,1,2,3,4,5,6,7,8,9,10,12,13]|4=>[0,1,2,3,4,5,6,7,8,9,10,11,12,14]|5=>[0,1,2,3,4,5,6,7,8,9,10,11,12,13,14,15,16,17,18,19,20,21,22]|_=>[])
 |143=>(match r with|1=>[0,1,2,3,4,5,6,7,8]|3=>[0,1,2,3,4,5,6,7,8,9]|4=>[0,1,2,3,4,5,8,9]|_=>[])
 |144=>(match r with|1=>[0,1,2,3,4,5,6,7,8,9,10,11,12,13,14,15,16,17,18,19,20,21,22,23,24,25,26,27,28,29,30,31,32,33,34,35,36]|_=>[])
 |211=>(match r with|1=>[0,1,2,3,5,6,7,8]|_=>[])
 |216=>(match r with|19=>[0,1,2,3,4,5,6,7,8,9,11]|_=>[])
 |341=>(match r with|17=>[0,1,2,3,4,5,6,7,8,9,10,11,12,14,15,16]|_=>[])
 |344=>(match r with|7=>[0,1,2,3,4,5,6,7]|16=>[0,1,2,3,4,5,6]|17=>[0,1,2,3,4,5,6,7,9,10,11,12,13,14,15]|_=>[])
 |441=>(match r with|4=>[0,1,2,3,4,5,6,7,8,9,10,11,12,13,15,16]|6=>[0,1,2,3,4,5,6,7,8,9,10,11,12,13,14,16]|_=>[])
 |442=>(match r with|10=>[0,1,2,3,4,5,6,7,8,9,10,11,12,13,14,15,16,18]|_=>[])
 |443=>(match r with|10=>[0,1,2,3,4,5,6,7,8,9,10,11,12,13,14,15,16,18]|_=>[])
 |445=>(match r with|3=>[0,1,2,3,4,5,6,7,8,9,10,11,12,14]|_=>[])
 |446=>(match r with|5=>[0,1,2,3,4,5,6,7,8,9,10,11,12,13,15,16,17]|11=>[0,1,2,3,4,5,6,7,8,9,10,11,12,13,14,16]|16=>[0,1,2,3,4,5,6,7,8,9,11,12]|17=>[0,1,2,3,4,5,6,7,8,9,10,11,12,13,14,16]|22=>[0,1,2,3,4,5,6,7,8,9,11,12]|23=>[0,1,2,3,4,5,6,7,8,9,10,11,12,13,14,16]|_=>[])
 |447=>(match r with|1=>[0,1,2,3,4,5,6,7,8,9,10,11,12,14]|3=>[0,1,2,3,4,5,6,7,8,9,10,11,12,14,15,16]|5=>[0,1,2,3,4,5,6,7,8,9,10,11,12,14,15]|8=>[0,1,2,3,4,5,6,7,8,9,10,11,12,14]|_=>[])
 |448=>(match r with|1=>[0,1,2,3,4,5,6,7,8,9,10,11,12,14]|3=>[0,1,2,3,4,5,6,7,8,9,10,11,12,14,15]|5=>[0,1,2,3,4,5,6,7,8,9,10,11,12,14,15,16]|8=>[0,1,2,3,4,5,6,7,8,9,10,11,12,14]|10=>[0,1,2,3,4,5,6,7,8,9,10,11,12,14]|13=>[0,1,2,3,4,5,6,7,8,9,10,11,12,14,15]|15=>[0,1,2,3,4,5,6,7,8,9,10,11,12,14,15,16]|18=>[0,1,2,3,4,5,6,7,8,9,10,11,12,14]|21=>[0,1,2,3,4,5,6,7,8,9,10,11,12,14]|_=>[])
 |508=>(match r with|3=>[0,1,2,3,4,5,6,7,8,9,10,11,12,13,14,15,16,17,18,20,21]|5=>[0,1,2,3,4,5,6,7,8,9,10,11,12,14,15]|6=>[0,1,2,3,4,5,6,7,8,9,10,11,12,13,14,15,16,17,18,19,20,22]|_=>[])
 |539=>(match r with|1=>[0,1,2,3,4,5,6,7,8,10]|_=>[])
 |_=>[]
def fM (f:Nat):Gu:={ JF with dr:=drO f }
def Gt:SS:=⟨2,[],[],[],[(1,1,false)],[],[],[],[],[],[],[],[]⟩
def RB:SS:=⟨4,[],[.loc 2 3 [.int .i64 (.a (.z 3))]],[],[(1,1,false)],[],[],[],[],[],[],[],[]⟩
def rO (val:Bl):Bl:=fun e s=>let p:=val e s;(p.1,c6 (aC p.2) [.loc 2 3 [.int .i64 (.a (.z p.2.nx))]])
def bP:Bl:=iu Φ7 1 (Wk 97)
def Ox:Sp:=bD 212 [ix 107 0] [] [(bI,[])] 0 (.k 0)
def Oy:Gu:={ fM 212 with lp:=fun id s=>cY (.t 8) (.len (.t 6)) [] [0,2,3,6,7,8] s }
def Oz:Sp:=bt 211 Gt [bP,bP] [] [(bI,[])] 5 (.k 0)
def OA:Gu:={ fM 211 with an:=fun id s i=>match id,i with|1,10=>.ty 107 0|_,_=>.no }
def E4:Bl:=ix 97 1
def j9:Bl:=bC (.fn 211)
def OC:Sp:=bt 441 Gt [E4,bI,bI,j9] (Bk (v 1) (v 2) (.t 0)) [(wZ,[])] 6 (.k 0)
def OD:Gu:={ fM 441 with lp:=fun id s=>match id with
 |0=>dj [.int (.t 8),.ge (.sub (v 8) (.add (v 1) (.k 1))),.ge (.sub (.add (v 2) (.k 1)) (v 8)),.aU [0,1,2,3,8]] (.sub (.add (v 2) (.k 1)) (v 8)) s
 |2=>dj [.int (.t 9),.ge (.sub (v 9) (v 1)),.ge (.sub (v 8) (v 9)),.aU [0,1,2,3,8,9]] (.sub (v 9) (v 1)) s
 |_=>none }
def OE:Sp:=bt 508 Gt [E4,bI,bI,bI,j9] [v 1,.sub (v 2) (v 1),v 3,.sub (.len (.t 0)) (.add (v 2) (v 3))] [(wZ,[])] 6 (.k 0)
def OG:Gu:={ fM 508 with lp:=fun id s=>dj [.int (.t 10),.ge (v 10),.ge (.sub (v 2) (v 10)),.aU [0,1,2,3,4,10]] (.sub (v 2) (v 10)) s }
def OH:Sp:=bt 442 Gt [E4,bI,bI,j9] (.sub (v 2) (.add (v 1) (.k 1))::Bk (v 1) (v 2) (.t 0)) [(wZ,[])] 7 (.k 0)
def OI:Gu:={ fM 442 with lp:=fun id s=>match id with
 |0=>dj [.int (.t 11),.ge (.add (v 11) (.k 1)),.ge (.sub (v 10) (v 11)),.aU [0,1,2,3,8,9,10,11]] (.add (v 11) (.k 1)) s
 |2=>dj [.int (.t 12),.ge (.add (v 12) (.k 1)),.ge (.sub (v 10) (.add (v 12) (.k 1))),.aU [0,1,2,3,8,9,10,12]] (.add (v 12) (.k 1)) s
 |_=>none }
def OJ:Sp:=bt 443 Gt [E4,bI,bI,j9] (Bk (v 1) (v 2) (.t 0)) [(wZ,[])] 6 (.k 0)
def OK:Gu:={ fM 443 with lp:=fun id s=>dj [.ge (.sub (.len (.t 0)) (.add (v 1) (.k 8))),.int (.t 11),.ge (.sub (v 11) (v 1)),.ge (.sub (v 2) (v 11)),.int (.c 9 0),.aU [0,1,2,3,8,9,10,11]] (.sub (v 2) (v 11)) s }
def OL:Sp:=bt 539 RB [E4,bI,bI,bC (.bZ 2 0),j9] (JV 1++JV 2) [(rO (bT [wX (.t 1),wX (.t 2)]),[]),(rO (bT [wX (.t 2),wX (.t 1)]),[])] 6 (.k 0)
def OM:Sp:=bt 510 RB [E4,bI,bI,bI,bC (.bZ 2 0),j9] (JV 1++JV 2++JV 3) [(rO (wX (.t 1)),[]),(rO (wX (.t 2)),[]),(rO (wX (.t 3)),[])] 7 (.k 0)
def ON:Sp:=bt 509 RB [E4,bI,bC (.bZ 2 0),j9] [.sub (v 1) (.k 1),.sub (.len (.t 0)) (.add (v 1) (.k 2))] [(rO bI,[v 100,.sub (.len (.t 0)) (.add (v 100) (.k 1)),.sub (.add (v 1) (.k 1)) (v 100),.sub (.add (v 100) (.k 1)) (v 1)])] 8 (.k 0)
def OO:Sp:=bt 444 Gt [E4,bI,bI,j9] (.sub (.len (.t 0)) (.add (v 1) (.k 8))::.sub (v 2) (.add (v 1) (.k 8))::Bk (v 1) (v 2) (.t 0)) [(bT [bI,bI],[.sub (.v (.p 100 0)) (v 1),.sub (v 2) (.add (.v (.p 100 0)) (.k 1))])] 9 (.k 0)
def OP:Sp:=bt 445 Gt [E4,bI,bI,j9] (Bk (v 1) (v 2) (.t 0)) [(wZ,[])] 6 (.k 0)
def OQ:Gu:={ fM 445 with lp:=fun id s=>dj [.int (.t 8),.int (.t 9),.ge (.sub (v 8) (v 1)),.ge (.sub (v 2) (.add (v 9) (.k 1))),.ge (.add (.sub (v 9) (v 8)) (.k 2)),.aU [0,1,2,3,8,9]] (.add (.sub (v 9) (v 8)) (.k 2)) s }
def OR:Sp:=bt 446 Gt [E4,bI,bI,j9] (.sub (v 2) (.add (v 1) (.k 1))::Bk (v 1) (v 2) (.t 0)) [(bB,[])] 6 (.k 0)
def OS:Gu:={ fM 446 with lp:=fun id s=>match id with
 |0=>dj [.int (.t 9),.ge (.sub (v 9) (.add (v 1) (.k 1))),.ge (.sub (v 2) (v 9)),.nat (.t 10),.ge (.sub (.k 5) (v 10)),.aU [0,1,2,3,8,9,10]] (.sub (.k 5) (v 10)) s
 |2=>dj [.int (.t 9),.ge (.sub (v 9) (.add (v 1) (.k 1))),.ge (.sub (v 2) (v 9)),.aU [0,1,2,3,8,9,10]] (.sub (v 2) (v 9)) s
 |4=>dj [.nat (.t 11),.ge (.sub (v 2) (.add (v 11) (.k 1))),.aU [0,1,2,3,8,9,10,11]] (v 11) s
 |6=>dj [.int (.t 12),.ge (.sub (v 12) (.k 1)),.ge (.sub (v 2) (v 12)),.aU [0,1,2,3,8,9,10,12]] (.sub (v 2) (v 12)) s
 |_=>none }
def OT:Sp:=bt 447 Gt [E4,bI,bI,bI,j9] L8 [(bI,[.sub (v 100) (.add (v 1) (.k 1)),.sub (v 2) (v 100)])] 6 (.k 0)
def OU:Gu:={ fM 447 with lp:=fun id s=>match id with
 |0=>dj ([.int (.t 11),.int (.t 12)]++Bx 11 12++[.ge (Oi 11 12),.aU [0,1,2,3,4,10,11,12]]) (Oi 11 12) s
 |2=>dj (up 11 s++Bx 11 12++[.aU [0,1,2,3,4,10,11,12]]) (.sub (v 2) (v 11)) s
 |4=>dj (dn 12 s++Bx 11 12++[.aU [0,1,2,3,4,10,11,12]]) (v 12) s
 |_=>none }
def Bo:Sp:=bt 448 Gt [E4,bI,bI,bI,j9] L8 [(bT [bI,bB],[.sub (.v (.p 100 0)) (v 1),.sub (v 2) (.add (.v (.p 100 0)) (.k 1))])] 6 (.k 0)
def Bp:Gu:={ fM 448 with lp:=fun id s=>match id with
 |0=>dj (up 12 s++Bx 12 13++[.aU [0,1,2,3,4,10,11,12,13]]) (.sub (v 2) (v 12)) s
 |2=>dj (dn 13 s++Bx 12 13++[.aU [0,1,2,3,4,10,11,12,13]]) (v 13) s
 |4=>dj ([.int (.t 12),.int (.t 13)]++Bx 12 13++[.ge (Oi 12 13),.aU [0,1,2,3,4,10,11,12,13]]) (Oi 12 13) s
 |6=>dj (up 12 s++Bx 12 13++[.aU [0,1,2,3,4,10,11,12,13]]) (.sub (v 2) (v 12)) s
 |8=>dj (dn 13 s++Bx 12 13++[.aU [0,1,2,3,4,10,11,12,13]]) (v 13) s
 |_=>none }
def Bq:Sp:=bt 341 Gt [E4,bI,bI,bI,j9] (Bk (v 1) (v 2) (.t 0)) [(wZ,[])] 10 (.sub (v 2) (v 1))
def Br:Gu:={ fM 341 with lp:=fun id s=>dj (up 1 s++dn 2 s++[.int (.t 3),.bool (.t 10),.bool (.t 11)]++EC (Bk (v 1) (v 2) (.t 0))++[.aU [0,1,2,3,4,10,11]]) (.sub (v 2) (v 1)) s }
def OV:Sp:=bt 210 Gt [E4,j9] [.sub (.k 16711680) (.len (.t 0))] [(wZ,[])] 11 (.k 0)
def bV (x:SV):Bl:=fun _ s=>(x,s)
def Mb (val:Bl):Bl:=fun e s=>let p:=val e s;(p.1,c6 p.2 e.os)
def XM:XE:=.add (.k 1) (.mul 2 (.add (.wt (.p 0 3)) (.wt (.p 0 4))))
def OW:Sp:=bD 216 [iu Φ7 0 (iR 60 1),iu Φ7 0 (iR 60 1)] [] [(bB,[])] 3 XM
def OX:Gu:={ fM 216 with lp:=fun id s=>cY (.t 39) (.len (.c 2 3)) (L3 (.c 2 3) (.t 39)) [2,3,4,38,39] s }
def OY:Sp:=bD 344 [ix 62 0,ix 62 0] [] [(bB,[])] 3 (.mul 2 (.wt (.t 0)))
def gM (x:XR)(k:Nat):XE:=.gn (.m x) k
def RC (x:XR)(c:Nat)(s:SS):An:=match rG s (.m x)with|some g=>.ty c g|none=>.no
def OZ:Gu:={ fM 344 with
 an:=fun id s i=>match id,i with|3,0=>(match rG s (.n 0)with|some g=>.kq 99 g|none=>.no)|7,9=>RC (.t 5) 100 s|_,_=>.no
 ac:=fun id=>match id with|3=>[Rz [(0,.len (.t 1)),(1,.k 0)] .z]|_=>[]
 a2:=fun id op=>match id,op with|7,9=>[oL (.m (.t 5)) 1 (.add (gM (.t 5) 1) (.k 1))]|_,_=>[]
 lp:=fun id s=>match id with
 |0=>cY (.t 21) (.len (.t 19)) ([.JU (.m (.t 5)),.km (.t 5)]++EC (u4 (gM (.t 5) 0) (.len (.t 1))++[.sub (.v (.t 21)) (gM (.t 5) 1)])) [0,1,4,5,19,20,21] s
 |2=>cY (.t 39) (.len (.t 37)) (.km (.t 5)::L3 (.t 37) (.t 39)) [0,1,4,5,37,38,39] s
 |4=>cY (.t 48) (.len (.t 46)) [] [0,1,4,5,9,10,37,38,39,46,47,48] s
 |_=>none }
def XN (el:TypeId)(ks:List K2):SS:=let p:=XA Φ7 0 ks (Uh 1);c6 p.2 [.loc 0 el p.1]
def RD:SS:=XN 201 (iR 60 3)
def O0:Sp:=bt 215 RD [iu Φ7 0 (iR 60 3),bC (.bZ 0 0)] [] [(Mb bB,[])] 4 (.k 0)
def O3:Bl:=bV (.wB 215 [] [.bZ 0 0])
def O4:Sp:=bt 343 RD [ix 63 0,O3] [] [(Mb bI,[])] 5 (.k 0)
def O5:Gu:={ fM 343 with lp:=fun id s=>cY (.t 8) (.len (.t 6)) [] [0,1,4,6,7,8] s }
def O6:Sp:=bt 214 RD [ix 63 0,O3] [] [(Mb bB,[])] 6 (.k 0)
def O7:Sp:=bD 145 [ix 63 0,ix 63 0] [] [(bB,[])] 7 (.k 0)
def O8:Gu:={ fM 145 with lp:=fun id s=>cY (.t 9) (.len (.t 7)) [] [0,1,4,7,8,9] s }
end Go.Rd
namespace Go.Rd
open Go.aK Go.RowKit Go.Rt
def Vd:SO:=.loc 5 195 [.ref 2,.ref 6,.ref 7,.ref 8]
def Z8 (full:Bool):List LE:=[(LE.k 2000).sub (fW 1 0),(LE.k 2000).sub (fW 1 1),(LE.k 2000).sub (fW 1 2)]++eqs (.a (.len 6)) (fW 1 2)++eqs (fW 4 0) (fW 1 2)++(bif full then eqs (.a (.len 7)) (fW 1 2)++eqs (.a (.len 8)) (fW 1 2)else [])
def Z9:List dW:=[.pt 2 89 1,.sl 6 80 1,.sl 7 98 0,.sl 8 101 4]
def O9 (w full:Bool):SS:=⟨9,[],[Vd],Z9,[(4,4,w),(1,1,false)],Z8 full,[],[],[],[],[],[1],[]⟩
def lA:Bl:=bC (.bZ 5 0)
def Mc (t:Nat):List XE:=[v t,.sub (.raw (fW 1 2)) (.add (v t) (.k 1))]
def Pa:Sp:=bt 144 (O9 false true) [lA,bI,bI] (Mc 1++Mc 2) [(Mb bB,[])] 17 (.k 0)
def Md:Sp:=bt 81 (O9 false true) [lA,bI,bI] (Mc 1++Mc 2) [(Mb bB,[])] 18 (.k 0)
def Pb:Sp:=bt 146 (O9 false true) [lA,bS] [] [(Mb bB,[])] 17 (.k 0)
def JL:Sp:=bt 82 (O9 false true) [lA,bI,bI] (Mc 1++Mc 2) [(Mb bB,[])] 18 (.k 0)
def Ve:Sp:=bt 83 (O9 false true) [lA,bI] [] [(Mb (bC tt),Mc 1),(Mb (bC ff),[])] 0 (.k 0)
def Pc:Sp:=bD 83 [bC .c7,bI] [] [(bC ff,[])] 0 (.k 0)
def Vf (x k:XR)(s:SS):Option Ga:=match rC s x,rC s k with|some (.cV b),some c=>some (.look b (sc c))|_,_=>none
def RE (x:XR)(K:Nat)(s:SS):Option Ga:=match rC s x with|some (.cV b)=>some (.cap b K)|_=>none
def aRm (x:XR)(s:SS):Option Ga:=match rC s x with|some (.ref y)=>some (.rm y)|_=>none
def Vg (x:XR)(s:SS):Option Ga:=match rC s x with|some (.cV b)=>some (.Xw b)|_=>none
def Vh (c:Nat)(q:Bool)(s:SS):An:=match rG s (.n 0)with|some g=>(bif q then .kq c g else .km c g)|none=>.no
def XO:Bl:=fun e s=>let y:=s.nx;let x:=s.nx+1;(sc (.ref y),⟨s.nx+2,[],[Vd],[.mp y 99 4],[(4,x,true)],eqs (fW x 0) (fW 4 0)++[(fW x 1).sub (fW 4 1),((fW 4 1).aO 2000).sub (fW x 1),(fW x 2).sub (fW 4 2),((fW 4 2).aO 5000000).sub (fW x 2)],[],[],[],[],[],[],[]⟩)
def XP:List XE:=[.sub (.k 100000000) (.raw (fW 4 1)),.sub (.k 100000000000000) (.raw (fW 4 2))]
def mr (full:Bool):Sp:=bt 140 (O9 true full) [lA,ix 81 1] (GB 2000 (.t 1)::XP) [(XO,[])] 17 (.k 0)
def JM:XE:=.add (.len (.t 8)) (.mul 2001 (.sub (.k 2000) (.Bf (.t 6))))
def mw:Gu:={ fM 140 with
 an:=fun id s i=>match id,i with|1,0=>Vh 99 false s|2,0=>Vh 102 true s|3,0=>.km 106 0|13,9=>RC (.t 5) 100 s|_,_=>.no
 ac:=fun id=>match id with
  |8=>[Vf (.t 6) (.t 9),oL (.m (.t 5)) 2 (.add (gM (.t 5) 2) (.k 1))]
  |9=>[RE (.t 6) 2000]
  |21=>[wY (.m (.t 5)) (.t 5) 99]
  |_=>[]
 a2:=fun id op=>match id,op with|13,9=>[oL (.m (.t 5)) 1 (.add (gM (.t 5) 1) (.k 1))]|_,_=>[]
 lp:=fun id s=>dj ([.JU (.m (.t 5)),.km (.t 6),.km (.t 5),.km (.t 7),.sl (.t 8) 81 (.r (.c 0 1))]++EC (u4 (gM (.t 5) 0) (.raw (fW 4 0))++[.sub (gM (.t 5) 1) (.raw (fW 4 1)),.sub (.add (.raw (fW 4 1)) (.Bf (.t 6))) (gM (.t 5) 1),.sub (gM (.t 5) 2) (.raw (fW 4 2)),.sub (.k 2000) (.Bf (.t 6)),.sub (.k 4004000) JM,.sub (.add (.raw (fW 4 2)) (.k 4004000)) (.add (gM (.t 5) 2) JM)])++[.aU [0,5,6,7,8]]) JM s }
def gO (td:SC)(n:LE):List SO:=[.loc 9 296 [.bZ 5 0,.cV 10,td,.bool (.v 12)],Vd,.kq 10 103 4 n none]
def XQ:SS:=⟨14,[],gO (.ref 11) (.a (.n 13)),.sl 11 97 4::Z9,[(4,4,false),(1,1,false)],[(LE.k 4000000).sub (.a (.n 13)),(LE.a (.n 13)).sub (.a (.len 11))]++Z8 true,[],[],[],[],[],[1],[]⟩
def Vi (val:Bl):Bl:=fun e s=>let p:=val e s;let x:=p.2.nx;let y:=p.2.nx+1
 (p.1,⟨y+1,[],gO (.ref x) (.a (.n y)),.sl x 97 4::p.2.ty,[],[(LE.a (.n y)).sub (.a (.n 13)),((LE.a (.len 11)).sub (.a (.n 13))).sub ((LE.a (.len x)).sub (.a (.n y))),(LE.k 4000000).sub (.a (.n y))],[],[],[],[],[],[],[]⟩)
def gA:Bl:=bC (.bZ 9 0)
def Pd:Sp:=bt 143 XQ [gA,bI,bI] (Mc 1++Mc 2) [(Vi wZ,[])] 0 (.k 0)
def Pe:Gu:={ fM 143 with
 ac:=fun id=>match id with|4=>[RE (.c 0 1) 2000]|_=>[] }
def Wo (t:Nat):List Gn:=[.sl (.c t 2) 97 (.m (.c t 1)),.km (.c t 1)]++EC [.sub (.Bf (.c t 1)) (.raw (.a (.n 13))),.sub (.sub (.raw (.a (.len 11))) (.raw (.a (.n 13)))) (.sub (.len (.c t 2)) (.Bf (.c t 1))),.sub (.k 4000000) (.Bf (.c t 1))]
def mpA (t:Nat):Bl:=fun _ s=>(sc (.ref s.nx),bL (aC s) (.mp s.nx 99 4))
def Pf:Sp:=bt 141 XQ [gA,mpA 1,mpA 2] [] [(Vi wZ,[])] 1 (.k 0)
def Pg:Gu:={ fM 141 with
 ac:=fun id=>match id with|0=>[aRm (.t 1)]|_=>[]
 lp:=fun id s=>match id with
 |0=>dj ([.it (.t 13)]++Wo 0++[.aU [0,1,2,13]]) (.Bf (.t 13)) s
 |2=>cY (.t 21) (.len (.t 19)) (Wo 0) [0,1,2,6,7,13,19,20,21] s
 |4=>cY (.t 29) (.len (.t 27)) (Wo 0) [0,1,2,6,7,9,13,19,20,21,27,28,29] s
 |_=>none }
def Vj:Bl:=fun e s=>let y:=s.nx;(sc (.ref y),⟨s.nx+1,[],[Vd],[.sl y 97 4],[],[(LE.k 4000000).sub (.a (.len y))],[],[],[],[],[],[],[]⟩)
def Pj:Sp:=bt 142 XQ [gA] [] [(Vj,[])] 18 (.k 0)
def muG:XE:=.add (.len (.c 0 2)) (.mul 2 (.sub (.k 4000000) (.Bf (.c 0 1))))
def Pm:Gu:={ fM 142 with
 an:=fun id s i=>match id,i with|10,3=>RC (.c 0 1) 97 s|_,_=>.no
 ac:=fun id=>match id with|7=>[Vg (.c 0 1)]|_=>[]
 lp:=fun id s=>match id with
 |0=>dj (Wo 0++[.aU [0,2]]) muG s
 |2=>dj [.it (.t 81),.sl (.t 4) 97 (.m (.c 0 1)),.ge (.sub (.sub (.Bf (.c 0 1)) (.Bf (.t 81))) (.len (.t 4))),.aU [0,2,4,81]] (.Bf (.t 81)) s
 |_=>none }
def XS:Bl:=fun e s=>let y:=s.nx;let x:=s.nx+1;(sc (.ref y),⟨s.nx+2,[],[Vd],[.sl y 97 4],[(4,x,true)],eqs (fW x 0) (fW 4 0)++[(LE.k 4000000).sub (.a (.len y))],[],[],[],[],[],[],[]⟩)
def XT:List XE:=[.sub (.k 50000000) (.raw (fW 4 1)),.sub (.k 50000000000000) (.raw (fW 4 2))]
def Vk:Sp:=bt 78 (O9 true true) [lA] XT [(XS,[])] 19 (.k 0)
def XU (t:Nat):List Gn:=[.sl (.c t 2) 97 (.m (.c t 1)),.km (.c t 1)]++EC [.sub (.Bf (.c t 1)) (.len (.c t 2)),.sub (.k 4000000) (.Bf (.c t 1))]
def ghH (i:XE):List Gn:=.JU (.n 0)::EC (u4 (pJ 0) (.raw (fW 4 0))++[.sub (.add (.raw (fW 4 1)) (.mul 2000 i)) (pJ 1),.sub (.add (.raw (fW 4 2)) (.mul 5000000 i)) (pJ 2)])
def Vl:Gu:={ fM 78 with
 an:=fun id s i=>match id,i with|1,1=>Vh 103 true s|_,_=>.no
 lp:=fun id s=>match id with
 |0=>cY (.t 19) (.raw (fW 1 0)) (ghH (v 19)++XU 3) [0,2,3,18,19] s
 |2=>cY (.t 40) (.len (.t 38)) (XU 3) [0,2,3,38,39,40] s
 |_=>none }
def Vm:Sp:=bt 79 (O9 false true) [lA,ix 97 4] [] [(Vj,[])] 19 (.k 0)
def Vn:Gu:={ fM 79 with
 an:=fun id s i=>match id,i with|1,1=>Vh 103 true s|_,_=>.no
 lp:=fun id s=>cY (.t 14) (.len (.t 12)) (XU 5) [0,1,4,5,12,13,14] s }
def XV:Bl:=fun e s=>let b:=s.nx;let g:=b;let d:=b+1;let l:=b+2;let n:=b+3;let o:=b+4;let k:=b+5
 (sc (.bZ l 0),⟨b+6,[],[.loc l 195 [.ref 2,.ref n,.ref o,.ref k]],[.sl n 80 1,.sl o 98 0,.sl k 101 (g+1)],[(g+1,d,true)],eqs (.a (.len n)) (fW 1 2)++eqs (fW d 0) (fW 1 2)++eqs (.a (.len o)) (fW 1 2)++eqs (.a (.len k)) (fW 1 2)++[(LE.k 4000000).sub (fW d 1),(LE.k 10000000000).sub (fW d 2)],[],[],[],[],[],[],[]⟩)
def Vo:Sp:=JJ 76 [] [(bC .c7,[]),(XV,[])] 18
def Pn:Sp:=bD 76 [bC .c7] [] [(bC .c7,[])] 18 (.k 0)
def Me:Gu:={ fM 76 with
 an:=fun id s i=>match id,i with|4,0=>.km 105 0|13,8=>.ty 98 0|18,10=>(match rG s (.n 0)with|some g=>.ty 101 g|none=>.no)|_,_=>.no
 ac:=fun id=>match id with|4=>[Rz [(0,.len (.c 3 1)),(1,.k 0),(2,.k 0)] .z]|_=>[]
 lp:=fun id s=>match id with
 |0=>cY (.t 27) (.len (.t 25)) [.km (.t 4),.sl (.c 3 2) 98 .z,.ge (.sub (.len (.c 3 2)) (v 27)),.ge (.sub (v 27) (.len (.c 3 2)))] [0,3,4,25,26,27] s
 |2=>cY (.t 71) (.len (.t 69)) (.ZY (.n 0)::EC (u4 (pJ 0) (.len (.t 69))++[.sub (.mul 2000 (v 71)) (pJ 1),.sub (.mul 5000000 (v 71)) (pJ 2)])++[.sl (.c 3 3) 101 (.n 0),.ge (.sub (.len (.c 3 3)) (v 71)),.ge (.sub (v 71) (.len (.c 3 3)))]) [0,3,69,70,71] s
 |_=>none }
def Vp:Sp:=bt 77 Gt [ix 97 1] [.sub (.k 4000000) (.len (.t 0))] [(ix 108 1,[])] 0 (.k 0)
def Vq:Gu:={ fM 77 with
 an:=fun id s i=>match id,i with|5,3=>(match rG s (.n 0)with|some g=>.ty 108 g|none=>.no)|_,_=>.no
 lp:=fun id s=>cY (.t 8) (.len (.t 6)) [.sl (.t 3) 108 (.n 0),.ge (.sub (v 8) (.len (.t 3)))] [0,2,3,6,7,8] s }
def Vr (c:Nat):Bl:=fun _ s=>(sc (.ref (s.nx+2)),⟨s.nx+3,s.L,s.os,.sl (s.nx+2) c (s.nx+1)::s.ty,(s.nx+1,s.nx+1,false)::s.gs,s.fs,s.bs,s.pw,s.ats,s.dB,s.ne,s.fz,s.sb⟩)
def Mf (nl:Bool):Sp:=bif nl then bD 32 [bC .c7] [] [(bC .ab,[])] 20 (.k 0)else JJ 32 [] [(bC .ab,[]),(Vr 108,[])] 20
def Mg (nl:Bool):Sp:=bif nl then bD 33 [bC .c7] [] [(bC .ab,[])] 20 (.k 0)else JJ 33 [] [(bC .ab,[]),(Vr 108,[])] 20
def clS:SS:=⟨5,[],[.loc 2 188 [.cV 3],.kq 3 104 1 (.a (.n 4)) none],[],[(1,1,false)],[],[],[],[],[],[],[],[]⟩
def XW:Bl:=fun e s=>(.cN [],⟨s.nx+1,[],[.loc 2 188 [.cV 3],.kq 3 104 1 (.a (.n s.nx)) none],[],[],[],[],[],[],[],[],[],[]⟩)
def Vs:Sp:=bt 80 clS [bP,bC (.bZ 2 0)] [] [(XW,[])] 0 (.k 0)
def Mh (nl:Bool):Sp:=bif nl then bD 34 [bC .c7] [] [(bC .ab,[])] 20 (.k 0)else JJ 34 [] [(bC .ab,[]),(ix 92 0,[])] 20
def Mi:Gu:={ fM 34 with
 an:=fun id s i=>match id,i with|4,0=>Vh 104 true s|23,17=>.ty 90 0|23,20=>.ty 92 0|24,1=>.ty 93 0|_,_=>.no
 ac:=fun id=>match id with|19=>[RE (.c 4 0) 2000]|20=>[Vg (.c 4 0)]|_=>[]
 lp:=fun id s=>match id with
 |0=>cY (.t 24) (.len (.t 22)) [.km (.c 4 0)] [0,3,4,5,6,22,23,24] s
 |2=>cY (.t 43) (.len (.t 41)) [.km (.c 4 0)] [0,3,4,5,41,42,43] s
 |4=>dj [.it (.t 59),.sl (.t 11) 92 .z,.ge (.sub (.sub (.Bf (.c 4 0)) (.Bf (.t 59))) (.len (.t 11))),.aU [0,3,4,11,59]] (.Bf (.t 59)) s
 |_=>none }
def Mj (nl:Bool):Sp:=bif nl then bD 35 [bC .c7,bI,bI] [] [(bC ff,[])] 20 (.k 0)else JJ 35 [bI,bI] [(bB,[])] 20
def Mk (nl:Bool):Sp:=bif nl then bD 36 [bC .c7,bI,bI] [] [(bC ff,[])] 20 (.k 0)else JJ 36 [bI,bI] [(bB,[])] 20
def RF:Sp:=bD 29 [] [] [(bC (.bool (.k true)),[])] 0 (.k 0)
def S5:Sp:=bD 6 [ix 8 0,iu Φ7 0 [.sl 6],bI,bI] [wu [.wt (.t 0)],wu [.wt (.p 1 0)]] [(bC (.bool (.k true)),[])] 21 (.k 0)
def XX:Gu:={ fM 6 with
 un:=fun _=>4
 jn:=fun id s=>match id with|1=>LD [.aU [0,1,2,3,27,28,29]] s|_=>none
 lp:=fun _ s=>dj [] (.k 0) s }
end Go.Rd
namespace Go.Rd
open Go.aK Go.RowKit Go.Rt
def XY:List (Sp×Gu):=[
 (Eu 0,Ev),(Eu 20,Ev),(Ew 0,Ey),(Ew 20,Ey),(Ez 0,EA),(Ez 20,EA),
 (EB 0,cw 149),(EB 20,cw 149),(LG 0,LH),(LG 20,LH),(Uj,cw 85),(Uk,cw 86),
 (Ul,Um),(Un,Uo),(Up,cw 89),(Uq,Ur),(Us,Ut),(lB,lC),
 (LI 0,LJ),(LI 20,LJ),(LK 0,cw 44),(LK 20,cw 44),(UD,UE),(UA,cw 93),
 (UB,UC),(Uy,Uz),(UF,UG),(UH,cw 95),(UI,UJ),(LL,LM),
 (JH,cw 122),(Nw,cw 122),(LN true,LO),(LN false,LO),(LP true,cw 65),(LP false,cw 65),
 (ED true,cw 155),(ED false,cw 155),(EE true,cw 154),(EE false,cw 154),(EF true,EG),(EF false,EG),
 (Nx,cw 449),(Ny,cw 450),(Nz,cw 345),(NA,cw 346),(LR 0,cw 53),(EH 0,cw 109),
 (EI 0,qL 107 1),(EJ 0,qL 108 2),(EK 0,cw 111),(EL 0,qL 110 3),(LU 0,cw 54),(EM 0,cw 153),
 (EN 0,qL 152 4),(EO 0,cw 100),(EP 0,cw 102),(ER 0,qL 101 5),(LW 0,cw 99),(LX 0,qL 98 7),
 (LY 0,cw 97),(LZ 0,qL 96 6),(L0 0,cw 49),(LR 60,cw 53),(EH 60,cw 109),(EI 60,qL 107 1),
 (EJ 60,qL 108 2),(EK 60,cw 111),(EL 60,qL 110 3),(LU 60,cw 54),(EM 60,cw 153),(EN 60,qL 152 4),
 (EO 60,cw 100),(EP 60,cw 102),(ER 60,qL 101 5),(LW 60,cw 99),(LX 60,qL 98 7),(LY 60,cw 97),
 (LZ 60,qL 96 6),(L0 60,cw 49),(NC,ND),(ES true,cw 103),(ET true,cw 105),(sG true,sH true),
 (EU true,EV true),(EW true,EX true),(oM true,oN true),(L4 true,L5 true),(L6 true,L7 true),(ES false,cw 103),
 (ET false,cw 105),(sG false,sH false),(EU false,EV false),(EW false,EX false),(oM false,oN false),(L4 false,L5 false),
 (L6 false,L7 false),(UR,cw 12),(NG,cw 12),(US,cw 13),(UT,UU),(EY,NH),
 (UW,cw 51),(UX,UY),(UZ,cw 19),(U0,cw 21),(EZ,iJ 332),(NJ,iJ 205),
 (NK,iJ 434),(NL,iJ 435),(NM,iJ 333),(NN,iJ 342),(NO,iJ 506),(NP,iJ 206),
 (NQ,iJ 213),(NR,iJ 438),(NT,iJ 335),(NU,NV),(NW,iJ 207),(NX,iJ 137),
 (NY,iJ 336),(NZ,N0),(N1,iJ 136),(N2,N3),(N4,N5),(N6,N7),
 (N8,N9),(Oa,iJ 505),(Ob,iJ 437),(Oc,iJ 436),(Od,iJ 326),(Oe,Of),
 (Og,Oh),(Oj,Ol),(E0,E3),(Bm,Bn),(Om,iJ 135),(On,Oo),
 (U2,U3),(U5,U6),(U7,U8),(L9,Ma),(iZ,ja),(Ot,Ou),
 (Ov,Ow),(U9,Va),(Vb,Vc),(Ox,Oy),(Oz,OA),(OC,OD),
 (OE,OG),(OH,OI),(OJ,OK),(OL,fM 539),(OM,fM 510),(ON,fM 509),
 (OO,fM 444),(OP,OQ),(OR,OS),(OT,OU),(Bo,Bp),(Bq,Br),
 (OV,fM 210),(OW,OX),(OY,OZ),(O0,fM 215),(O4,O5),(O6,fM 214),
 (O7,O8),(Pa,fM 144),(Md,fM 81),(Pb,fM 146),(JL,fM 82),(Ve,fM 83),
 (Pc,fM 83),(mr false,mw),(mr true,mw),(Pd,Pe),(Pf,Pg),(Pj,Pm),
 (Vk,Vl),(Vm,Vn),(Vo,Me),(Pn,Me),(Vp,Vq),(Vs,fM 80),
 (Mf false,fM 32),(Mf true,fM 32),(Mg false,fM 33),(Mg true,fM 33),(Mh false,Mi),(Mh true,Mi),
 (Mj false,fM 35),(Mj true,fM 35),(Mk false,fM 36),(Mk true,fM 36),(S5,XX)]
def ai:List (TypeId×KK):=[(9,.str),(220,.pair),(9,.kz),(3,.int),(190,.fy),(285,.yJ)]
def aH:List Sp:=XY.map (·.1)++[RF]
end Go.Rd
