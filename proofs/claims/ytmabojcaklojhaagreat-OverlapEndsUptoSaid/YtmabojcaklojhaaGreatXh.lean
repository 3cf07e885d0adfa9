/- Part Xh of the proof of OverlapEnds: no condition. -/
import Derived.Test.YtmabojcaklojhaaGreatProg
import Derived.Test.YtmabojcaklojhaaGreatXac
namespace Go.aK
open Go.Proofs
theorem aS:Tryz.prog.follows .mixedOrders=true:=by kernel_rfl
noncomputable def rP (P:Program)(Pl:Nat->Nat->List Ph)(f:Nat):Bool:=match P.funcs[f]? with
 |some fn=>match fn.body with
  |some c=>dE P (Pl f) c
  |none=>true
 |none=>true
noncomputable def lD (P:Program)(Pl:Nat->Nat->List Ph)(a n:Nat):Bool:=Nat.rec (motive:=fun _=>Nat->Bool) (fun _=>true) (fun _ ih a=>Bool.rec (motive:=fun _=>Bool) false (ih (Nat.succ a)) (rP P Pl a)) n a
theorem jb {P:Program}{Pl:Nat->Nat->List Ph}:∀(n a:Nat),lD P Pl a n=true->∀f,a<=f->f<a+n->rP P Pl f=true
 |0,a,h,f,h1,h2=>by omega
 |n+1,a,h,f,h1,h2=>by
  have h:Bool.rec (motive:=fun _=>Bool) false (lD P Pl (Nat.succ a) n) (rP P Pl a)=true:=h;cases hb:rP P Pl a with
  |false=>rw[hb]at h;cases h
  |true =>
   rw[hb]at h;by_cases e:f=a
   ·rw[e];exact hb
   ·exact jb n (a+1) h f (by omega) (by omega)
theorem b0:lD Tryz.prog Pl 0 160=true:=by kernel_rfl
theorem b1:lD Tryz.prog Pl 160 160=true:=by kernel_rfl
theorem b2:lD Tryz.prog Pl 320 160=true:=by kernel_rfl
theorem b3:lD Tryz.prog Pl 480 112=true:=by kernel_rfl
theorem Db:Tryz.prog.funcs.size=592:=by kernel_rfl
theorem cI (f:Nat)(fn:Func)(c:Code)(hf:Tryz.prog.funcs[f]?=some fn)(hb:fn.body=some c):dE Tryz.prog (Pl f) c=true:=by
 have hl:f<592:=by
  have:=(Array.getElem?_eq_some_iff.1 hf).1;rwa[Db]at this
 have h:rP Tryz.prog Pl f=true:=by
  by_cases h1:f<160
  ·exact jb 160 0 b0 f (by omega) (by omega)
  ·by_cases h2:f<320
   ·exact jb 160 160 b1 f (by omega) (by omega)
   ·by_cases h3:f<480
    ·exact jb 160 320 b2 f (by omega) (by omega)
    ·exact jb 112 480 b3 f (by omega) (by omega)
 unfold rP at h;rw[hf]at h;simp only[hb]at h;exact h
end Go.aK
