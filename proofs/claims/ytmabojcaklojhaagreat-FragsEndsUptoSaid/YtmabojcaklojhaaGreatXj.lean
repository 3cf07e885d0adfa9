/- Part Xj of the proof of FragsEnds: no condition. -/
import Derived.Test.YtmabojcaklojhaaGreatProg
import Derived.Test.YtmabojcaklojhaaGreatXdd
namespace Go.Rd
open Go.aQ Go.RowKit Go.Rt Go.Proofs
theorem X5 (l n l' n':Nat) (k:Bool->Rs):ku Tryz.prog 9 9 (.str l n) (.str l' n') k=bY (aO l n l' n') k:=by kernel_rfl
theorem TG (a b c d a' b' c' d':Nat) (k:Bool->Rs):ku Tryz.prog 9 220 (.agg [.str a b,.str c d]) (.agg [.str a' b',.str c' d']) k=bY (aO a b a' b') (fun x=>Bool.rec (k false) (bY (aO c d c' d') fun y=>Bool.rec (k false) (k true) y) x):=by kernel_rfl
theorem Jv {P:Program} {t:TypeId} {x y:AV} {b:Bool} (h:ku P 9 t x y (fun r=>if r=b then .ok else .bad 0)=.ok):tV P 9 t x y b:=by
 obtain⟨r,h1,h2⟩:=mE P 9 t x y _ h
 by_cases e:r=b
 · subst e; exact h2
 · rw [if_neg e] at h1; cases h1
theorem TH:lC Tryz.prog 9 .str where
 Mp:=⟨.string,by kernel_rfl⟩
 eq:=fun a b ⟨l,n,ha⟩ ⟨l',n',hb⟩=>by
  subst ha hb
  exact Jv (by rw [X5,aU]; exact if_pos rfl)
 zF:=fun v ⟨l,n,hv⟩ e ι w=>by subst hv; simp only [aj]; kernel_rfl
theorem P9:lC Tryz.prog 9 .mf where
 Mp:=⟨.string,by kernel_rfl⟩
 eq:=fun a b ⟨l,n,ha,_⟩ ⟨l',n',hb,_⟩=>by
  subst ha hb
  exact Jv (by rw [X5,aU]; exact if_pos rfl)
 zF:=fun v ⟨l,n,hv,_⟩ e ι w=>by subst hv; simp only [aj]; kernel_rfl
theorem Yy (n n':Int) (k:Bool->Rs):ku Tryz.prog 9 3 (.int .i64 n) (.int .i64 n') k=bY (n==n') k:=by kernel_rfl
theorem TI:lC Tryz.prog 3 .int where
 Mp:=⟨.int .i64,by kernel_rfl⟩
 eq:=fun a b ⟨n,ha⟩ ⟨n',hb⟩=>by
  subst ha hb
  exact Jv (by rw [Yy,aU]; exact if_pos rfl)
 zF:=fun v ⟨n,hv⟩ e ι w=>by subst hv; simp only [aj]; kernel_rfl
theorem TJ (a b a' b':Nat) (n n':Int) (p p':Bool) (k:Bool->Rs):ku Tryz.prog 9 285 (.agg [.str a b,.int .i64 n,.bool p]) (.agg [.str a' b',.int .i64 n',.bool p']) k=bY (aO a b a' b') (fun x=>Bool.rec (k false) (bY (n==n') fun y=>Bool.rec (k false) (bY (p==p') fun z=>Bool.rec (k false) (k true) z) y) x):=by kernel_rfl
theorem LY:lC Tryz.prog 285 .u9 where
 Mp:=Option.isSome_iff_exists.1 (show (Tryz.prog.underlying 285).isSome=true by kernel_rfl)
 eq:=fun x y ⟨a,b,n,p,hx⟩ ⟨a',b',n',p',hy⟩=>by
  subst hx hy
  refine Jv ?_
  rw [TJ,aU]
  have e:aY (.agg [.str a b,.int .i64 n,.bool p]) (.agg [.str a' b',.int .i64 n',.bool p'])=(aO a b a' b'&&(n==n'&&p==p')):=rfl
  rw [e]
  cases h1:aO a b a' b' with
  | false=>rfl
  | true =>
    show bY (n==n') _=Rs.ok
    rw [aU]
    cases h2:n==n' with
    | false=>rfl
    | true =>
      show bY (p==p') _=Rs.ok
      rw [aU]
      cases h3:p==p' with
      | false=>rfl
      | true=>rfl
 zF:=fun v ⟨a,b,n,p,hv⟩ e ι w=>by subst hv; simp only [aj,ao]; kernel_rfl
theorem LZ:lC Tryz.prog 220 .pair where
 Mp:=Option.isSome_iff_exists.1 (show (Tryz.prog.underlying 220).isSome=true by kernel_rfl)
 eq:=fun x y ⟨a,b,c,d,hx⟩ ⟨a',b',c',d',hy⟩=>by
  subst hx hy
  refine Jv ?_
  rw [TG,aU]
  show Bool.rec _ _ (aO a b a' b')=Rs.ok
  have e:aY (.agg [.str a b,.str c d]) (.agg [.str a' b',.str c' d'])=(aO a b a' b'&&aO c d c' d'):=rfl
  rw [e]
  cases h1:aO a b a' b' with
  | false=>rfl
  | true =>
    show bY (aO c d c' d') _=Rs.ok
    rw [aU]
    cases h2:aO c d c' d' with
    | false=>rfl
    | true=>rfl
 zF:=fun v ⟨a,b,c,d,hv⟩ e ι w=>by subst hv; simp only [aj,ao]; kernel_rfl
def ah:List (TypeId × KK):=[(9,.str),(220,.pair),(9,.mf),(3,.int),(285,.u9)]
theorem L0:∀p∈ah,lC Tryz.prog p.1 p.2:=all_cons (p:=fun p:TypeId × KK=>lC Tryz.prog p.1 p.2) TH (all_cons LZ (all_cons P9 (all_cons TI (all_cons LY all_nil))))
def V4:List (Sp × Gu):=[
 (Sk,Sm),(MQ,MR),(Sn,So),(MS,MT),(Sq,Sr),(EF,EG),
 (XV,XW),(tE,tF),(CK 0,CM),(CK 20,CM),(CN 0,CO),(CN 20,CO),
 (CP 0,CQ),(CP 20,CQ),(CR 0,bM 149),(CR 20,bM 149),(Ls 0,Lu),(Ls 20,Lu),
 (Sv,bM 85),(Sw,bM 86),(Sx,Sy),(Sz,SD),(SE,bM 89),(SF,SG),
 (SH,SI),(gM,gN),(Lv 0,Lw),(Lv 20,Lw),(Lx 0,bM 44),(Lx 20,bM 44),
 (SW,SX),(SQ,bM 93),(SR,SU),(SN,SP),(SY,SZ),(S0,bM 95),
 (S3,S4),(Jm,Jn),(Jo,bM 122),(MW,bM 122),(Lz true,LA),(Lz false,LA),
 (LB true,bM 65),(LB false,bM 65),(CS true,bM 155),(CS false,bM 155),(CT true,bM 154),(CT false,bM 154),
 (CU true,CV),(CU false,CV),(MX,bM 449),(MY,bM 450),(MZ,bM 345),(M0,bM 346),
 (LD 0,bM 53),(CW 0,bM 109),(CX 0,pI 107 1),(CY 0,pI 108 2),(CZ 0,bM 111),(C3 0,pI 110 3),
 (LF 0,bM 54),(C4 0,bM 153),(C5 0,pI 152 4),(C6 0,bM 100),(C7 0,bM 102),(C8 0,pI 101 5),
 (LG 0,bM 99),(LH 0,pI 98 7),(LI 0,bM 97),(LJ 0,pI 96 6),(LK 0,bM 49),(LD 60,bM 53),
 (CW 60,bM 109),(CX 60,pI 107 1),(CY 60,pI 108 2),(CZ 60,bM 111),(C3 60,pI 110 3),(LF 60,bM 54),
 (C4 60,bM 153),(C5 60,pI 152 4),(C6 60,bM 100),(C7 60,bM 102),(C8 60,pI 101 5),(LG 60,bM 99),
 (LH 60,pI 98 7),(LI 60,bM 97),(LJ 60,pI 96 6),(LK 60,bM 49),(M3,M4),(C9 true,bM 103),
 (Da true,bM 105),(lA true,lB true),(Db true,Dc true),(Dd true,De true),(vB true,vC true),(LL true,LM true),
 (LN true,LO true),(C9 false,bM 103),(Da false,bM 105),(lA false,lB false),(Db false,Dc false),(Dd false,De false),
 (vB false,vC false),(LL false,LM false),(LN false,LO false),(Tc,bM 12),(Td,bM 13),(Te,Tf),
 (Jr,M6),(Tg,Th),(Ti,bM 51),(Tj,Tk),(Tl,bM 15),(Tn,To),
 (Tp,Tq),(Ts,bM 18),(Tt,bM 19),(Tu,Tv),(Tw,bM 21),(Df,eY 332),
 (M8,eY 205),(M9,eY 434),(Na,eY 435),(Nb,eY 333),(Nc,eY 342),(Nd,eY 506),
 (Nf,eY 206),(Ng,eY 213),(Nh,eY 438),(Ni,eY 335),(Nj,Nk),(Nl,eY 207),
 (Nm,eY 137),(Nn,eY 336),(Np,Nq),(Nr,eY 136),(Ns,Nt),(Nu,Nv),
 (Nw,Nx),(Ny,Nz),(NA,eY 505),(NB,eY 437),(NC,eY 436),(ND,eY 326),
 (NF,NG),(NH,NI),(NK,NL),(Dg,Dh),(vE,vF),(NM,eY 135),
 (NN,NO),(TA,TB),(Di false,Dj),(Dk false,eY 132),(LU false,LW),(zB false,zC),
 (Dl false,Dm),(qv false,qw),(Di true,Dj),(Dk true,eY 132),(LU true,LW),(zB true,zC),
 (Dl true,Dm),(qv true,qw),(NP,NQ),(NR,eY 133),(NS,LX),(TE,LX),
 (Q7,eY 5)]
def aH:List Sp:=V4.map (·.1)++[P8]
theorem mixed:Tryz.prog.follows .mixedOrders=true:=by kernel_rfl
end Go.Rd
