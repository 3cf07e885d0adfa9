/- Part Xh of the proof of ScopeEnds: no condition. -/
import Derived.Test.YtmabojcaklojhaaGreatProg
import Derived.Test.YtmabojcaklojhaaGreatXac
namespace Go.Rex
open Go.Proofs
theorem follows_mixed:Tryz.prog.follows .mixedOrders=true:=by kernel_rfl
noncomputable def bodyOk (P:Program) (Pl:Nat->Nat->List Ph) (f:Nat):Bool:=match P.funcs[f]? with
 | some fn=>match fn.body with
   | some c=>plansOk P (Pl f) c
   | none=>true
 | none=>true
noncomputable def bodiesOk (P:Program) (Pl:Nat->Nat->List Ph) (a n:Nat):Bool:=Nat.rec (motive:=fun _=>Nat->Bool) (fun _=>true) (fun _ ih a=>Bool.rec (motive:=fun _=>Bool) false (ih (Nat.succ a)) (bodyOk P Pl a)) n a
theorem bodiesOk_at {P:Program} {Pl:Nat->Nat->List Ph}:∀(n a:Nat),bodiesOk P Pl a n=true->∀f,a<=f->f<a+n->bodyOk P Pl f=true
 | 0,a,h,f,h1,h2=>by omega
 | n+1,a,h,f,h1,h2=>by
   have h:Bool.rec (motive:=fun _=>Bool) false (bodiesOk P Pl (Nat.succ a) n) (bodyOk P Pl a)=true:=h
   cases hb:bodyOk P Pl a with
   | false=>rw [hb] at h; cases h
   | true =>
     rw [hb] at h
     by_cases e:f=a
     · rw [e]; exact hb
     · exact bodiesOk_at n (a+1) h f (by omega) (by omega)
theorem b0:bodiesOk Tryz.prog Pl 0 160=true:=by kernel_rfl
theorem b1:bodiesOk Tryz.prog Pl 160 160=true:=by kernel_rfl
theorem b2:bodiesOk Tryz.prog Pl 320 160=true:=by kernel_rfl
theorem b3:bodiesOk Tryz.prog Pl 480 112=true:=by kernel_rfl
theorem funcs_size:Tryz.prog.funcs.size=592:=by kernel_rfl
theorem plans_ok (f:Nat) (fn:Func) (c:Code) (hf:Tryz.prog.funcs[f]?=some fn) (hb:fn.body=some c):plansOk Tryz.prog (Pl f) c=true:=by
 have hl:f<592:=by
  have:=(Array.getElem?_eq_some_iff.1 hf).1
  rwa [funcs_size] at this
 have h:bodyOk Tryz.prog Pl f=true:=by
  by_cases h1:f<160
  · exact bodiesOk_at 160 0 b0 f (by omega) (by omega)
  · by_cases h2:f<320
    · exact bodiesOk_at 160 160 b1 f (by omega) (by omega)
    · by_cases h3:f<480
      · exact bodiesOk_at 160 320 b2 f (by omega) (by omega)
      · exact bodiesOk_at 112 480 b3 f (by omega) (by omega)
 unfold bodyOk at h
 rw [hf] at h
 simp only [hb] at h
 exact h
end Go.Rex
