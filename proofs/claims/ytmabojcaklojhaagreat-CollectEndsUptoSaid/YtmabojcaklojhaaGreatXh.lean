/- Part Xh of the proof of CollectEnds: no condition. -/
import Derived.Test.YtmabojcaklojhaaGreatProg
import Derived.Test.YtmabojcaklojhaaGreatXac
namespace Go.aI
open Go.Proofs
theorem aH:Tryz.prog.follows .mixedOrders=true:=by kernel_rfl
noncomputable def rS (P:Program)(Pl:Nat->Nat->List Ph)(f:Nat):Bool:=match P.funcs[f]? with
 |some fn=>match fn.body with
  |some c=>dL P (Pl f) c
  |none=>true
 |none=>true
noncomputable def lB (P:Program)(Pl:Nat->Nat->List Ph)(a n:Nat):Bool:=Nat.rec (motive:=fun _=>Nat->Bool) (fun _=>true) (fun _ ih a=>Bool.rec (motive:=fun _=>Bool) false (ih (Nat.succ a)) (rS P Pl a)) n a
theorem iU {P:Program}{Pl:Nat->Nat->List Ph}:∀(n a:Nat),lB P Pl a n=true->∀f,a<=f->f<a+n->rS P Pl f=true
 |0,a,h,f,h1,h2=>by omega
 |n+1,a,h,f,h1,h2=>by
  have h:Bool.rec (motive:=fun _=>Bool) false (lB P Pl (Nat.succ a) n) (rS P Pl a)=true:=h;cases hb:rS P Pl a with
  |false=>rw[hb]at h;cases h
  |true =>
   rw[hb]at h;by_cases e:f=a
   ·rw[e];exact hb
   ·exact iU n (a+1) h f (by omega) (by omega)
theorem b0:lB Tryz.prog Pl 0 160=true:=by kernel_rfl
theorem b1:lB Tryz.prog Pl 160 160=true:=by kernel_rfl
theorem b2:lB Tryz.prog Pl 320 160=true:=by kernel_rfl
theorem b3:lB Tryz.prog Pl 480 112=true:=by kernel_rfl
theorem Dp:Tryz.prog.funcs.size=592:=by kernel_rfl
theorem bU (f:Nat)(fn:Func)(c:Code)(hf:Tryz.prog.funcs[f]?=some fn)(hb:fn.body=some c):dL Tryz.prog (Pl f) c=true:=by
 have hl:f<592:=by
  have:=(Array.getElem?_eq_some_iff.1 hf).1;rwa[Dp]at this
 have h:rS Tryz.prog Pl f=true:=by
  by_cases h1:f<160
  ·exact iU 160 0 b0 f (by omega) (by omega)
  ·by_cases h2:f<320
   ·exact iU 160 160 b1 f (by omega) (by omega)
   ·by_cases h3:f<480
    ·exact iU 160 320 b2 f (by omega) (by omega)
    ·exact iU 112 480 b3 f (by omega) (by omega)
 unfold rS at h;rw[hf]at h;simp only[hb]at h;exact h
end Go.aI
