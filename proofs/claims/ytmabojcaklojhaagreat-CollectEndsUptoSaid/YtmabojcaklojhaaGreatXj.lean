/- Part Xj of the proof of CollectEnds: no condition. -/
import Derived.Test.YtmabojcaklojhaaGreatProg
import Derived.Test.YtmabojcaklojhaaGreatXde
namespace Go.Rd
open Go.aI Go.RowKit Go.Rt Go.Proofs
theorem VT (l n l' n':Nat)(k:Bool->Rs):lH Tryz.prog 9 9 (.str l n) (.str l' n') k=c7 (aR l n l' n') k:=by kernel_rfl
theorem Tl (a b c d a' b' c' d':Nat)(k:Bool->Rs):lH Tryz.prog 9 220 (.agg [.str a b,.str c d]) (.agg [.str a' b',.str c' d']) k=c7 (aR a b a' b') (fun x=>Bool.rec (k false) (c7 (aR c d c' d') fun y=>Bool.rec (k false) (k true) y) x):=by kernel_rfl
theorem Qp {P:Program}{t:TypeId}{x y:AV}{b:Bool}(h:lH P 9 t x y (fun r=>if r=b then .ok else .bad 0)=.ok):xx P 9 t x y b:=by
 obtain⟨r,h1,h2⟩:=jY P 9 t x y _ h;by_cases e:r=b
 ·subst e;exact h2
 ·rw[if_neg e]at h1;cases h1
theorem Tn:oY Tryz.prog 9 .str where
 Qx:=⟨.string,by kernel_rfl⟩
 eq:=fun a b ⟨l,n,ha⟩ ⟨l',n',hb⟩=>by
  subst ha hb;exact Qp (by rw[VT,bc];exact if_pos rfl)
 DR:=fun v ⟨l,n,hv⟩ e ι w=>by subst hv;simp only[ak];kernel_rfl
theorem Qq:oY Tryz.prog 9 .mE where
 Qx:=⟨.string,by kernel_rfl⟩
 eq:=fun a b ⟨l,n,ha,_⟩ ⟨l',n',hb,_⟩=>by
  subst ha hb;exact Qp (by rw[VT,bc];exact if_pos rfl)
 DR:=fun v ⟨l,n,hv,_⟩ e ι w=>by subst hv;simp only[ak];kernel_rfl
theorem MN:oY Tryz.prog 220 .pair where
 Qx:=Option.isSome_iff_exists.1 (show (Tryz.prog.underlying 220).isSome=true by kernel_rfl)
 eq:=fun x y ⟨a,b,c,d,hx⟩ ⟨a',b',c',d',hy⟩=>by
  subst hx hy;refine Qp ?_;rw[Tl,bc];show Bool.rec _ _ (aR a b a' b')=Rs.ok;have e:aW (.agg [.str a b,.str c d]) (.agg [.str a' b',.str c' d'])=(aR a b a' b'&&aR c d c' d'):=rfl;rw[e];cases h1:aR a b a' b' with
  |false=>rfl
  |true =>
   show c7 (aR c d c' d') _=Rs.ok;rw[bc];cases h2:aR c d c' d' with
   |false=>rfl
   |true=>rfl
 DR:=fun v ⟨a,b,c,d,hv⟩ e ι w=>by subst hv;simp only[ak,ao];kernel_rfl
theorem MO:∀p∈aj,oY Tryz.prog p.1 p.2:=all_cons (p:=fun p:TypeId×KK=>oY Tryz.prog p.1 p.2) Tn (all_cons MN (all_cons Qq all_nil))
theorem mixed:Tryz.prog.follows .mixedOrders=true:=by kernel_rfl
end Go.Rd
