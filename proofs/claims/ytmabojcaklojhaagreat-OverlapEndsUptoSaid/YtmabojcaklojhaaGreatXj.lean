/- Part Xj of the proof of OverlapEnds: no condition. -/
import Derived.Test.YtmabojcaklojhaaGreatProg
import Derived.Test.YtmabojcaklojhaaGreatXdd
import Derived.Test.YtmabojcaklojhaaGreatXde
namespace Go.Rd
open Go.aK Go.RowKit Go.Rt Go.Proofs
theorem eq9 (l n l' n':Nat)(k:Bool->Rs):jS Tryz.prog 9 9 (.str l n) (.str l' n') k=ck (aR l n l' n') k:=by kernel_rfl
theorem Vt (a b c d a' b' c' d':Nat)(k:Bool->Rs):jS Tryz.prog 9 220 (.agg [.str a b,.str c d]) (.agg [.str a' b',.str c' d']) k=ck (aR a b a' b') (fun x=>Bool.rec (k false) (ck (aR c d c' d') fun y=>Bool.rec (k false) (k true) y) x):=by kernel_rfl
theorem Gv {P:Program}{t:TypeId}{x y:AV}{b:Bool}(h:jS P 9 t x y (fun r=>if r=b then .ok else .bad 0)=.ok):vk P 9 t x y b:=by
 obtain⟨r,h1,h2⟩:=jY P 9 t x y _ h;by_cases e:r=b
 ·subst e;exact h2
 ·rw[if_neg e]at h1;cases h1
theorem Vu:lj Tryz.prog 9 .str where
 KD:=⟨.string,by kernel_rfl⟩
 eq:=fun a b ⟨l,n,ha⟩ ⟨l',n',hb⟩=>by
  subst ha hb;exact Gv (by rw[eq9,aW];exact if_pos rfl)
 Ay:=fun v ⟨l,n,hv⟩ e ι w=>by subst hv;simp only[ak];kernel_rfl
theorem RG:lj Tryz.prog 9 .kz where
 KD:=⟨.string,by kernel_rfl⟩
 eq:=fun a b ⟨l,n,ha,_⟩ ⟨l',n',hb,_⟩=>by
  subst ha hb;exact Gv (by rw[eq9,aW];exact if_pos rfl)
 Ay:=fun v ⟨l,n,hv,_⟩ e ι w=>by subst hv;simp only[ak];kernel_rfl
theorem eq3 (n n':Int)(k:Bool->Rs):jS Tryz.prog 9 3 (.int .i64 n) (.int .i64 n') k=ck (n==n') k:=by kernel_rfl
theorem Vv:lj Tryz.prog 3 .int where
 KD:=⟨.int .i64,by kernel_rfl⟩
 eq:=fun a b ⟨n,ha⟩ ⟨n',hb⟩=>by
  subst ha hb;exact Gv (by rw[eq3,aW];exact if_pos rfl)
 Ay:=fun v ⟨n,hv⟩ e ι w=>by subst hv;simp only[ak];kernel_rfl
theorem Vw (a b a' b':Nat)(n n':Int)(p p':Bool)(k:Bool->Rs):jS Tryz.prog 9 285 (.agg [.str a b,.int .i64 n,.bool p]) (.agg [.str a' b',.int .i64 n',.bool p']) k=ck (aR a b a' b') (fun x=>Bool.rec (k false) (ck (n==n') fun y=>Bool.rec (k false) (ck (p==p') fun z=>Bool.rec (k false) (k true) z) y) x):=by kernel_rfl
theorem Ml:lj Tryz.prog 285 .yJ where
 KD:=Option.isSome_iff_exists.1 (show (Tryz.prog.underlying 285).isSome=true by kernel_rfl)
 eq:=fun x y ⟨a,b,n,p,hx⟩ ⟨a',b',n',p',hy⟩=>by
  subst hx hy;refine Gv ?_;rw[Vw,aW];have e:aZ (.agg [.str a b,.int .i64 n,.bool p]) (.agg [.str a' b',.int .i64 n',.bool p'])=(aR a b a' b'&&(n==n'&&p==p')):=rfl;rw[e];cases h1:aR a b a' b' with
  |false=>rfl
  |true =>
   show ck (n==n') _=Rs.ok;rw[aW];cases h2:n==n' with
   |false=>rfl
   |true =>
    show ck (p==p') _=Rs.ok;rw[aW];cases h3:p==p' with
    |false=>rfl
    |true=>rfl
 Ay:=fun v ⟨a,b,n,p,hv⟩ e ι w=>by subst hv;simp only[ak,aq];kernel_rfl
theorem Vx (a b a' b':Int)(k:Bool->Rs):jS Tryz.prog 9 190 (.agg [.int .i64 a,.int .i64 b]) (.agg [.int .i64 a',.int .i64 b']) k=ck (a==a') (fun x=>Bool.rec (k false) (ck (b==b') fun y=>Bool.rec (k false) (k true) y) x):=by kernel_rfl
theorem Mm:lj Tryz.prog 190 .fy where
 KD:=Option.isSome_iff_exists.1 (show (Tryz.prog.underlying 190).isSome=true by kernel_rfl)
 eq:=fun x y ⟨a,b,hx⟩ ⟨a',b',hy⟩=>by
  subst hx hy;refine Gv ?_;rw[Vx,aW];have e:aZ (.agg [.int .i64 a,.int .i64 b]) (.agg [.int .i64 a',.int .i64 b'])=(a==a'&&b==b'):=rfl;rw[e];cases h1:a==a' with
  |false=>rfl
  |true =>
   show ck (b==b') _=Rs.ok;rw[aW];cases h2:b==b' with
   |false=>rfl
   |true=>rfl
 Ay:=fun v ⟨a,b,hv⟩ e ι w=>by subst hv;simp only[ak,aq];kernel_rfl
theorem Mn:lj Tryz.prog 220 .pair where
 KD:=Option.isSome_iff_exists.1 (show (Tryz.prog.underlying 220).isSome=true by kernel_rfl)
 eq:=fun x y ⟨a,b,c,d,hx⟩ ⟨a',b',c',d',hy⟩=>by
  subst hx hy;refine Gv ?_;rw[Vt,aW];show Bool.rec _ _ (aR a b a' b')=Rs.ok;have e:aZ (.agg [.str a b,.str c d]) (.agg [.str a' b',.str c' d'])=(aR a b a' b'&&aR c d c' d'):=rfl;rw[e];cases h1:aR a b a' b' with
  |false=>rfl
  |true =>
   show ck (aR c d c' d') _=Rs.ok;rw[aW];cases h2:aR c d c' d' with
   |false=>rfl
   |true=>rfl
 Ay:=fun v ⟨a,b,c,d,hv⟩ e ι w=>by subst hv;simp only[ak,aq];kernel_rfl
theorem Mo:∀p∈ai,lj Tryz.prog p.1 p.2:=all_cons (p:=fun p:TypeId×KK=>lj Tryz.prog p.1 p.2) Vu (all_cons Mn (all_cons RG (all_cons Vv (all_cons Mm (all_cons Ml all_nil)))))
theorem mixed:Tryz.prog.follows .mixedOrders=true:=by kernel_rfl
end Go.Rd
