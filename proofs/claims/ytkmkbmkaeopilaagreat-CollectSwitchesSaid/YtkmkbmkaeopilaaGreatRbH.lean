/- The plans are plans of the program's drawn regions; the program leaves its orders open. The loop of the law CollectSwitches, over what stands in its frame when it begins. The law CollectSwitches up to its loop, over whatever integer: each operation on that by hand. The law CollectSwitches: its walk up to the loop, and the loop's two turns. The law CollectSwitches, walked to its loop. Conditions: none. -/
import Derived.Test.YtkmkbmkaeopilaaGreatRbP
import Derived.Test.YtkmkbmkaeopilaaGreatProg
import Derived.IntWalk
namespace Go.Rex
open Go.Proofs
theorem follows_mixed : Tryz.prog.follows .mixedOrders = true := by kernel_rfl
noncomputable def bodyOk (P : Program) (Pl : Nat → Nat → List Ph) (f : Nat) : Bool := match P.funcs[f]? with
  | some fn => match fn.body with
    | some c => plansOk P (Pl f) c
    | none => true
  | none => true
noncomputable def bodiesOk (P : Program) (Pl : Nat → Nat → List Ph) (a n : Nat) : Bool := Nat.rec (motive := fun _ => Nat → Bool) (fun _ => true) (fun _ ih a => Bool.rec (motive := fun _ => Bool) false (ih (Nat.succ a)) (bodyOk P Pl a)) n a
theorem bodiesOk_at {P : Program} {Pl : Nat → Nat → List Ph} : ∀ (n a : Nat), bodiesOk P Pl a n = true → ∀ f, a ≤ f → f < a + n → bodyOk P Pl f = true
  | 0, a, h, f, h1, h2 => by omega
  | n + 1, a, h, f, h1, h2 => by
    have h : Bool.rec (motive := fun _ => Bool) false (bodiesOk P Pl (Nat.succ a) n) (bodyOk P Pl a) = true := h
    cases hb : bodyOk P Pl a with
    | false => rw [hb] at h; cases h
    | true =>
      rw [hb] at h
      by_cases e : f = a
      · rw [e]; exact hb
      · exact bodiesOk_at n (a + 1) h f (by omega) (by omega)
theorem b0 : bodiesOk Tryz.prog Pl 0 160 = true := by kernel_rfl
theorem b1 : bodiesOk Tryz.prog Pl 160 160 = true := by kernel_rfl
theorem b2 : bodiesOk Tryz.prog Pl 320 157 = true := by kernel_rfl
theorem funcs_size : Tryz.prog.funcs.size = 477 := by kernel_rfl
theorem plans_ok (f : Nat) (fn : Func) (c : Code) (hf : Tryz.prog.funcs[f]? = some fn) (hb : fn.body = some c) : plansOk Tryz.prog (Pl f) c = true := by
  have hl : f < 477 := by
    have := (Array.getElem?_eq_some_iff.1 hf).1
    rwa [funcs_size] at this
  have h : bodyOk Tryz.prog Pl f = true := by
    by_cases h1 : f < 160
    · exact bodiesOk_at 160 0 b0 f (by omega) (by omega)
    · by_cases h2 : f < 320
      · exact bodiesOk_at 160 160 b1 f (by omega) (by omega)
      · exact bodiesOk_at 157 320 b2 f (by omega) (by omega)
  unfold bodyOk at h
  rw [hf] at h
  simp only [hb] at h
  exact h
end Go.Rex
namespace Go.Rex.Sw
open Go.Proofs
noncomputable def sndC (c : Code) : Code := match c with | .seq _ b => b | c => c
noncomputable def fstC (c : Code) : Code := match c with | .seq a _ => a | c => c
noncomputable def bodyC : Code := (Tryz.f3.body).getD .skip
noncomputable def restC (n : Nat) : Code := Nat.rec (motive := fun _ => Code) bodyC (fun _ ih => sndC ih) n
noncomputable def loopC : Code := match sndC (fstC (restC 12)) with | .block _ (.loop l) => l | c => c
noncomputable def endC : Code := sndC (restC 12)
/-- b:a, ...F, ...on Query, ... -/
def whatS (r : Nat) : AV := match r with
  | 0 => .str 3 0x623a61
  | 1 => .str 4 0x2e2e2e46
  | 2 => .str 11 0x2e2e2e6f6e205175657279
  | _ => .str 3 0x2e2e2e
/-- {b:a} -/
def bodyS (r : Nat) : AV := match r with | 0 => .str 0 0 | 1 => .str 0 0 | _ => .str 5 0x7b623a617d
def textS (b : Bool) : AV := match b with | true => .str 4 0x74727565 | false => .str 5 0x66616c7365
/-- query, query($t:Boolean!) -/
def headS (o : Nat) : AV := match o with | 0 => .str 5 0x7175657279 | _ => .str 18 0x71756572792824743a426f6f6c65616e2129
def tailS (r : Nat) : AV := match r with | 1 => .str 24 0x667261676d656e742046206f6e2051756572797b623a617d | _ => .str 0 0
def ifS (o : Nat) (b : Bool) : AV := match o with | 0 => textS b | _ => .str 2 0x2474
def varS (o : Nat) (b : Bool) : AV := match o, b with
  | 0, _ => .str 2 0x7b7d
  | _, true => .str 10 0x7b2274223a747275657d
  | _, false => .str 11 0x7b2274223a66616c73657d
noncomputable def put (t : Nat) (v : AV) (tm : Tm) : Tm := tm.put t v
/-- The frame at the loop, without what is not read any more. -/
noncomputable def baseT (r o : Nat) (skip incl : Bool) (turn : Nat) : Tm :=
  put 1 (.bool skip) (put 2 (.bool incl) (put 6 (.bool false) (put 7 (whatS r) (put 8 (bodyS r) (put 9 (textS skip) (put 11 (ifS o incl) (put 12 (varS o incl) (put 13 (headS o) (put 14 (tailS r) (put 15 (.int .i64 (.ofNat turn)) Tm.e))))))))))
noncomputable def turnRun (call : CallT) (r o : Nat) (skip incl : Bool) (turn base : Nat) : Rs :=
  (codeB Tryz.prog 3 133 (Pl 3) loopC).run 1000000 call (baseT r o skip incl turn) .e (z base) (fun e _ _ _ => Ex.rec (motive := fun _ => Rs) .ok (fun _ => .bad 901) (.bad 902) e)
end Go.Rex.Sw
namespace Go.Rex.Sw
open Go.Proofs Go.RowKit
set_option linter.unusedSimpArgs false
set_option linter.unusedVariables false

noncomputable def opsC (c : Code) : Array Oper := match c with | .region _ ops _ => ops | _ => #[]
noncomputable def idC (c : Code) : Nat := match c with | .region id _ _ => id | .block id _ => id | _ => 0
noncomputable def isSeq (c : Code) : Bool := match c with | .seq _ _ => true | _ => false
noncomputable def isReg (n : Nat) (c : Code) : Bool := match c with | .region _ ops false => Nat.beq ops.size n | _ => false
noncomputable def isCondT (n : Nat) (c : Code) : Bool := match c with | .cond (.tmp t) _ _ => Nat.beq t n | _ => false
noncomputable def yesC (c : Code) : Code := match c with | .cond _ a _ => a | c => c
section
variable {call : CallT} {c : Code} {nt : Nat} {tm T : Tm} {hp H : Tr AO} {nx X : Pz} {K : Ex → Tm → Tr AO → Pz → Prop}
theorem seq_at (hc : isSeq c = true) (h : Goes Tryz.prog nt (fstC c) tm hp nx (nrmP (fun tm hp nx => Goes Tryz.prog nt (sndC c) tm hp nx K) K)) : Goes Tryz.prog nt c tm hp nx K := by
  cases c with
  | seq a b => exact goes_seq h
  | _ => cases hc
theorem reg_at {n : Nat} (hc : isReg n c = true) (h : GoesOps Tryz.prog nt (opsC c) 0 n tm hp nx K) : Goes Tryz.prog nt c tm hp nx K := by
  cases c with
  | region id ops d =>
    cases d with
    | false => exact goes_region (Nat.eq_of_beq_eq_true hc) h
    | true => cases hc
  | _ => cases hc
theorem cond_at {n : Nat} (hc : isCondT n c = true) (ht : ∀ k, (getS n).run tm k = k (.bool true)) (h : Goes Tryz.prog nt (yesC c) tm hp nx K) : Goes Tryz.prog nt c tm hp nx K := by
  cases c with
  | cond o a b =>
    cases o with
    | tmp t =>
      have hc : t = n := Nat.eq_of_beq_eq_true hc
      subst hc
      intro B w0 w ι a' hs Q hn
      refine wpIn_cond_true ?_ (h B w0 w ι a' hs Q hn)
      have e : tm.at t = .bool true := by
        classical
        have := ht (fun v => if v = .bool true then .ok else .bad 0)
        rw [getS_eq] at this
        simp only [if_true] at this
        split at this
        · assumption
        · cases this
      obtain ⟨t1, _⟩ := hs.2 ι (Agree.refl _ _)
      show a'.tmps.getD t undef = _
      rw [t1.val t, e]; rfl
    | _ => cases hc
  | _ => cases hc
theorem at_run (hcall : CallOk Tryz.prog call) {f : Nat} (hpl : plansOk Tryz.prog (Pl f) c = true) {fu : Nat} {Kr : Ex → Tm → Tr AO → Pz → Rs} (h : (codeB Tryz.prog f nt (Pl f) c).run fu call tm hp nx Kr = .ok) (hk : ∀ e tm hp nx, Kr e tm hp nx = .ok → K e tm hp nx) : Goes Tryz.prog nt c tm hp nx K :=
  goes_run (opB_ok hcall) (draw_ok follows_mixed (opB_ok hcall) nt) (range_ok hcall) hpl h hk
theorem at_exec (hcall : CallOk Tryz.prog call) {f : Nat} (hpl : plansOk Tryz.prog (Pl f) c = true) (e0 : Ex) (T : Tm) (H : Tr AO) (X : Pz) (h : ∀ Kr, (codeB Tryz.prog f nt (Pl f) c).run 4 call tm hp nx Kr = Kr e0 T H X) (hk : K e0 T H X) : Goes Tryz.prog nt c tm hp nx K :=
  goes_exec (opB_ok hcall) (draw_ok follows_mixed (opB_ok hcall) nt) (range_ok hcall) hpl h hk
theorem at_step (hcall : CallOk Tryz.prog call) {ops : Array Oper} {i m : Nat} (T : Tm) (H : Tr AO) (X : Pz) (h : ∀ Kr, stepI Tryz.prog nt ops i call tm hp nx Kr = Kr T H X) (hg : GoesOps Tryz.prog nt ops (i + 1) m T H X K) : GoesOps Tryz.prog nt ops i (m + 1) tm hp nx K :=
  ops_step (opB_ok hcall) h hg
end
/-! the function that writes a condition -/
noncomputable def c5 (n : Nat) : Code := Nat.rec (motive := fun _ => Code) ((Tryz.f5.body).getD .skip) (fun _ ih => sndC ih) n
noncomputable def s0 (q : Int) (b : Bool) : Tm := put 1 (.bool b) (put 0 (.int .i64 q) Tm.e)
noncomputable def s1 (q : Int) (b : Bool) : Tm := put 5 (.str 0 0) (put 4 (.str 0 0) (s0 q b))
noncomputable def s2 (q : Int) (b : Bool) : Tm := put 6 (textS false) (s1 q b)
noncomputable def s3 (q : Int) (b : Bool) : Tm := put 6 (textS b) (put 7 (.bool b) (s2 q b))
noncomputable def s4 (q : Int) (b : Bool) (o : Nat) : Tm := put 10 (.bool (Nat.beq o 0)) (put 9 (.int .i64 (.ofNat o)) (put 8 (.int .i64 q) (s3 q b)))
theorem switched_at {call : CallT} (hcall : CallOk Tryz.prog call) (q : Int) (b : Bool) (o : Nat) (ho : o = 0 ∨ o = 1) (hq : q.tmod 2 = .ofNat o) (hp : Tr AO) (nx : Pz) (k : AV → Tr AO → Pz → Rs) (hk : k (.tup [ifS o b, varS o b]) hp nx = .ok) :
    CallAt Tryz.prog 5 [.int .i64 q, .bool b] hp nx k := by
  refine fn_goes (fn := Tryz.f5) (c := c5 0) (T := s0 q b) Tryz.func5 (by kernel_rfl) (by kernel_rfl) (by kernel_rfl) (fun Kr => by kernel_rfl) ?_
  refine seq_at (by kernel_rfl) (at_exec hcall (f := 5) (by kernel_rfl) .nrm (s1 q b) hp nx (fun Kr => by kernel_rfl) ?_)
  show Goes Tryz.prog _ (c5 1) _ _ _ _
  refine seq_at (by kernel_rfl) (at_exec hcall (f := 5) (by kernel_rfl) .nrm (s2 q b) hp nx (fun Kr => by kernel_rfl) ?_)
  show Goes Tryz.prog _ (c5 2) _ _ _ _
  refine seq_at (by kernel_rfl) (at_exec hcall (f := 5) (by kernel_rfl) .nrm (s3 q b) hp nx (fun Kr => by cases b <;> kernel_rfl) ?_)
  show Goes Tryz.prog _ (c5 3) _ _ _ _
  refine seq_at (by kernel_rfl) (seq_at (by kernel_rfl) (reg_at (n := 3) (by kernel_rfl) ?_))
  refine at_step hcall (put 8 (.int .i64 q) (s3 q b)) hp nx (fun Kr => by kernel_rfl) ?_
  refine at_step hcall (put 9 (.int .i64 (.ofNat o)) (put 8 (.int .i64 q) (s3 q b))) hp nx (fun Kr => ?_) ?_
  · refine Eq.trans (b := scal (binOp .rem 3 (.int .i64 q) (.int .i64 2)) fun v => Kr (put 9 v (put 8 (.int .i64 q) (s3 q b))) hp nx) (by kernel_rfl) ?_
    rw [scal_rem _ _ _ (by decide), hq]
  refine at_step hcall (s4 q b o) hp nx (fun Kr => by rcases ho with rfl | rfl <;> kernel_rfl) (ops_end ?_)
  show Goes Tryz.prog _ (sndC (fstC (c5 3))) _ _ _ _
  refine at_run hcall (f := 5) (fu := 4) (by kernel_rfl) (Kr := fun e tm hp nx => Ex.rec (motive := fun _ => Rs) ((codeB Tryz.prog 5 15 (Pl 5) (c5 4)).run 4 call tm hp nx (finK (P := Tryz.prog) Tryz.f5 k)) (fun _ => .bad 1) (finK (P := Tryz.prog) Tryz.f5 k .ret tm hp nx) e) ?_ fun e tm hp nx h => ?_
  · refine Eq.trans (b := k (.tup [ifS o b, varS o b]) hp nx) ?_ hk
    rcases ho with rfl | rfl <;> cases b <;> kernel_rfl
  · cases e with
    | nrm => exact at_run hcall (f := 5) (by kernel_rfl) h fun _ _ _ _ h => h
    | ext j => cases h
    | ret => exact h
end Go.Rex.Sw
namespace Go.Rex.Sw
open Go.Proofs Go.RowKit
set_option linter.unusedSimpArgs false
set_option linter.unusedVariables false
/-- What stands in the frame, that a turn reads, and what it does not: the integer at its start and later, its quarter, three places. -/
structure Un where
  n0 : Int
  n : Int
  q : Int
  b : Bool
  x25 : AV
  x26 : AV
  x27 : AV
noncomputable def a0 (n0 : Int) (s i : Bool) : Tm := put 2 (.bool i) (put 1 (.bool s) (put 0 (.int .i64 n0) Tm.e))
noncomputable def a1 (n0 : Int) (s i : Bool) : Tm := put 22 (.bool false) (put 21 (.bool true) (put 6 (.bool false) (a0 n0 s i)))
noncomputable def a2 (n0 : Int) (b : Bool) (s i : Bool) : Tm := put 24 (.bool b) (put 23 (.int .i64 n0) (a1 n0 s i))
noncomputable def t2 (u : Un) (s i : Bool) : Tm := put 0 (.int .i64 u.n) (put 27 u.x27 (put 26 u.x26 (put 25 u.x25 (a2 u.n0 u.b s i))))
noncomputable def h5 : Tr AO := .n .e (some (.arr 1 4 9 (.n (.n (.n .e (some [.str 3 3026478]) .e) (some [.str 4 774778438]) .e) (some [.str 3 6437473]) (.n .e (some [.str 11 55828673140103056237884025]) .e)))) .e
noncomputable def k5a (u : Un) (s i : Bool) : Tm := put 28 (.slice (z 0) 0 4 4) (t2 u s i)
noncomputable def k5b (u : Un) (s i : Bool) : Tm := put 29 (.int .i64 u.n) (k5a u s i)
noncomputable def k5c (u : Un) (s i : Bool) (r : Nat) : Tm := put 30 (.int .i64 (.ofNat r)) (k5b u s i)
noncomputable def k5d (u : Un) (s i : Bool) (r : Nat) : Tm := put 31 (.ptr (z 0) r) (k5c u s i r)
noncomputable def k5e (u : Un) (s i : Bool) (r : Nat) : Tm := put 32 (whatS r) (k5d u s i r)
noncomputable def t5 (u : Un) (s i : Bool) (r : Nat) : Tm := put 7 (whatS r) (k5e u s i r)
noncomputable def t6 (u : Un) (s i : Bool) (r : Nat) : Tm := put 8 (.str 0 0) (t5 u s i r)
noncomputable def k7a (u : Un) (s i : Bool) (r : Nat) : Tm := put 33 (.int .i64 u.n) (t6 u s i r)
noncomputable def k7b (u : Un) (s i : Bool) (r : Nat) : Tm := put 34 (.int .i64 (.ofNat r)) (k7a u s i r)
noncomputable def k7c (u : Un) (s i : Bool) (r : Nat) : Tm := put 35 (.bool (Nat.ble 2 r)) (k7b u s i r)
noncomputable def t7 (u : Un) (s i : Bool) (r : Nat) : Tm := put 8 (bodyS r) (k7c u s i r)
noncomputable def k9a (u : Un) (s i : Bool) (r : Nat) : Tm := put 37 (.bool s) (t7 u s i r)
noncomputable def k9b (u : Un) (s i : Bool) (r : Nat) : Tm := put 38 (.tup [ifS 0 s, varS 0 s]) (k9a u s i r)
noncomputable def k9c (u : Un) (s i : Bool) (r : Nat) : Tm := put 36 (.tup [ifS 0 s, varS 0 s]) (k9b u s i r)
noncomputable def k9d (u : Un) (s i : Bool) (r : Nat) : Tm := put 39 (ifS 0 s) (k9c u s i r)
noncomputable def k9e (u : Un) (s i : Bool) (r : Nat) : Tm := put 40 (varS 0 s) (k9d u s i r)
noncomputable def k9f (u : Un) (s i : Bool) (r : Nat) : Tm := put 9 (ifS 0 s) (k9e u s i r)
noncomputable def t9 (u : Un) (s i : Bool) (r : Nat) : Tm := put 10 (varS 0 s) (k9f u s i r)
noncomputable def k10a (u : Un) (s i : Bool) (r : Nat) : Tm := put 42 (.int .i64 u.n) (t9 u s i r)
noncomputable def k10b (u : Un) (s i : Bool) (r : Nat) : Tm := put 43 (.int .i64 u.q) (k10a u s i r)
noncomputable def k10c (u : Un) (s i : Bool) (r : Nat) : Tm := put 44 (.bool i) (k10b u s i r)
noncomputable def k10d (u : Un) (s i : Bool) (r o : Nat) : Tm := put 45 (.tup [ifS o i, varS o i]) (k10c u s i r)
noncomputable def k10e (u : Un) (s i : Bool) (r o : Nat) : Tm := put 41 (.tup [ifS o i, varS o i]) (k10d u s i r o)
noncomputable def k10f (u : Un) (s i : Bool) (r o : Nat) : Tm := put 46 (ifS o i) (k10e u s i r o)
noncomputable def k10g (u : Un) (s i : Bool) (r o : Nat) : Tm := put 47 (varS o i) (k10f u s i r o)
noncomputable def k10h (u : Un) (s i : Bool) (r o : Nat) : Tm := put 11 (ifS o i) (k10g u s i r o)
noncomputable def t10 (u : Un) (s i : Bool) (r o : Nat) : Tm := put 12 (varS o i) (k10h u s i r o)
noncomputable def t11 (u : Un) (s i : Bool) (r o : Nat) : Tm := put 13 (headS 0) (t10 u s i r o)
noncomputable def k12a (u : Un) (s i : Bool) (r o : Nat) : Tm := put 48 (.int .i64 u.n) (t11 u s i r o)
noncomputable def k12b (u : Un) (s i : Bool) (r o : Nat) : Tm := put 49 (.int .i64 u.q) (k12a u s i r o)
noncomputable def k12c (u : Un) (s i : Bool) (r o : Nat) : Tm := put 50 (.int .i64 (.ofNat o)) (k12b u s i r o)
noncomputable def k12d (u : Un) (s i : Bool) (r o : Nat) : Tm := put 51 (.bool (Nat.beq o 1)) (k12c u s i r o)
noncomputable def t12 (u : Un) (s i : Bool) (r o : Nat) : Tm := put 13 (headS o) (k12d u s i r o)
noncomputable def t14 (u : Un) (s i : Bool) (r o : Nat) : Tm := put 14 (tailS 1) (t12 u s i r o)
noncomputable def k15a (u : Un) (s i : Bool) (r o : Nat) : Tm := put 52 (.int .i64 u.n) (t14 u s i r o)
noncomputable def k15b (u : Un) (s i : Bool) (r o : Nat) : Tm := put 53 (.int .i64 (.ofNat r)) (k15a u s i r o)
noncomputable def k15c (u : Un) (s i : Bool) (r o : Nat) : Tm := put 54 (.bool (not (Nat.beq r 1))) (k15b u s i r o)
noncomputable def t15 (u : Un) (s i : Bool) (r o : Nat) : Tm := put 14 (tailS r) (k15c u s i r o)
noncomputable def t17 (u : Un) (s i : Bool) (r o : Nat) : Tm := put 15 (.int .i64 (.ofNat 0)) (t15 u s i r o)
/-! the loop's turns, each from a heap of which nothing is known -/
noncomputable def endR (call : CallT) (tm : Tm) (hp : Tr AO) (nx : Pz) : Rs :=
  (codeB Tryz.prog 3 133 (Pl 3) endC).run 1000 call tm hp nx (finK (P := Tryz.prog) Tryz.f3 (seeK (.bool true) .e (z 300000)))
noncomputable def turnK (next : Tm → Pz → Rs) (e : Ex) (tm : Tm) (hp : Tr AO) (nx : Pz) : Rs := Ex.rec (motive := fun _ => Rs) (next tm nx) (fun _ => .bad 901) (.bad 902) e
noncomputable def lastK (call : CallT) (e : Ex) (tm : Tm) (hp : Tr AO) (nx : Pz) : Rs := Ex.rec (motive := fun _ => Rs) (.bad 903) (fun j => ifK (Nat.beq j 0) (endR call tm hp nx) (.bad 904)) (.bad 905) e
noncomputable def turn (call : CallT) (K : Ex → Tm → Tr AO → Pz → Rs) (tm : Tm) (nx : Pz) : Rs := (codeB Tryz.prog 3 133 (Pl 3) loopC).run 1000000 call tm .e nx K
noncomputable def caseRun (call : CallT) (tm : Tm) : Rs :=
  turn call (turnK fun tm nx => ifK (Nat.ble (pzNum nx) 65537) (turn call (turnK fun tm nx => turn call (lastK call) tm nx) tm (z 65536)) (.bad 906)) tm (z 1)
section
variable {call : CallT}
theorem loop_at (hcall : CallOk Tryz.prog call) {T : Tm} {H : Tr AO} {nx : Pz} (hnx : nx.num ≤ (z 1).num) (h : caseRun call T = .ok) :
    Goes Tryz.prog 133 (sndC (fstC (restC 12))) T H nx (nrmP (fun tm hp nx => Goes Tryz.prog 133 endC tm hp nx (fun e tm hp nx => finK (P := Tryz.prog) Tryz.f3 (seeK (.bool true) .e (z 300000)) e tm hp nx = .ok)) (fun e tm hp nx => finK (P := Tryz.prog) Tryz.f3 (seeK (.bool true) .e (z 300000)) e tm hp nx = .ok)) := by
  have hB : sndC (fstC (restC 12)) = .block 0 (.loop loopC) := by kernel_rfl
  have hpl : plansOk Tryz.prog (Pl 3) loopC = true := by kernel_rfl
  have hple : plansOk Tryz.prog (Pl 3) endC = true := by kernel_rfl
  rw [hB]
  refine goes_bump hnx (goes_block (goes_loop 3 (goesR_succ (at_run hcall (f := 3) hpl h fun e tm hp nx h => ?_))))
  cases e with
  | ext j => cases h
  | ret => cases h
  | nrm =>
    obtain ⟨hle, h⟩ := ifK_ok h
    have hle := ble_ok hle
    rw [pzNum_eq] at hle
    refine goesR_bump (X := z 65536) (Nat.le_trans hle (by rw [show (z 65536).num = 65537 by kernel_rfl]; exact Nat.le_refl _)) (goesR_succ (at_run hcall (f := 3) hpl h fun e tm hp nx h => ?_))
    cases e with
    | ext j => cases h
    | ret => cases h
    | nrm =>
      refine goesR_bump (X := nx) (Nat.le_refl _) (goesR_succ (at_run hcall (f := 3) hpl h fun e tm hp nx h => ?_))
      cases e with
      | nrm => cases h
      | ret => cases h
      | ext j =>
        have h : ifK (Nat.beq j 0) (endR call tm hp nx) (.bad 904) = .ok := h
        obtain ⟨hj, h⟩ := ifK_ok h
        have hj : j = 0 := Nat.eq_of_beq_eq_true hj
        subst hj
        exact at_run hcall (f := 3) hple h fun _ _ _ _ h => h
end
end Go.Rex.Sw
namespace Go.Rex.Sw
open Go.Proofs Go.RowKit
set_option linter.unusedSimpArgs false
set_option linter.unusedVariables false
noncomputable def finL (e : Ex) (tm : Tm) (hp : Tr AO) (nx : Pz) : Prop := finK (P := Tryz.prog) Tryz.f3 (seeK (.bool true) .e (z 300000)) e tm hp nx = .ok
section
variable {call : CallT}
theorem tail_at (hcall : CallOk Tryz.prog call) {call2 : CallT} (hcall2 : CallOk Tryz.prog call2) (u : Un) (s i : Bool) (r o : Nat) (hr : r = 0 ∨ r = 1 ∨ r = 2 ∨ r = 3) (ho : o = 0 ∨ o = 1) (hmod : u.n.tmod 4 = .ofNat r) (hquo : IntKind.i64.wrap (u.n.tdiv 4) = u.q) (hq : u.q.tmod 2 = .ofNat o)
    (hrun : caseRun call2 (t17 u s i r o) = .ok) : Goes Tryz.prog 133 (restC 3) (t2 u s i) .e (z 0) finL := by
  have hsw : ∀ (q : Int) (b : Bool) (o : Nat), (o = 0 ∨ o = 1) → q.tmod 2 = .ofNat o → CallOk Tryz.prog (oneC call 5 [.int .i64 q, .bool b] (.tup [ifS o b, varS o b])) := fun q b o h1 h2 => oneC_ok hcall fun hp nx k hk => switched_at hcall q b o h1 h2 hp nx k hk
  refine seq_at (by kernel_rfl) (reg_at (n := 6) (by kernel_rfl) ?_)
  refine at_step hcall (k5a u s i) h5 (z 1) (fun Kr => by kernel_rfl) ?_
  refine at_step hcall (k5b u s i) h5 (z 1) (fun Kr => by kernel_rfl) ?_
  refine at_step hcall (k5c u s i r) h5 (z 1) (fun Kr => ?_) ?_
  · refine Eq.trans (b := scal (binOp .rem 3 (.int .i64 u.n) (.int .i64 4)) fun v => Kr (put 30 v (k5b u s i)) h5 (z 1)) (by kernel_rfl) ?_
    rw [scal_rem _ _ _ (by decide), hmod]
    rfl
  refine at_step hcall (k5d u s i r) h5 (z 1) (fun Kr => by rcases hr with rfl | rfl | rfl | rfl <;> kernel_rfl) ?_
  refine at_step hcall (k5e u s i r) h5 (z 1) (fun Kr => by rcases hr with rfl | rfl | rfl | rfl <;> kernel_rfl) ?_
  refine at_step hcall (t5 u s i r) h5 (z 1) (fun Kr => by rcases hr with rfl | rfl | rfl | rfl <;> kernel_rfl) (ops_end ?_)
  refine goes_bump (X := z 1) (Nat.le_refl _) ?_
  show Goes _ _ (restC 4) _ _ _ _
  refine seq_at (by kernel_rfl) (at_exec hcall (f := 3) (by kernel_rfl) .nrm (t6 u s i r) .e (z 1) (fun Kr => by kernel_rfl) ?_)
  show Goes _ _ (restC 5) _ _ _ _
  refine seq_at (by kernel_rfl) (seq_at (by kernel_rfl) (reg_at (n := 3) (by kernel_rfl) ?_))
  refine at_step hcall (k7a u s i r) .e (z 1) (fun Kr => by kernel_rfl) ?_
  refine at_step hcall (k7b u s i r) .e (z 1) (fun Kr => ?_) ?_
  · refine Eq.trans (b := scal (binOp .rem 3 (.int .i64 u.n) (.int .i64 4)) fun v => Kr (put 34 v (k7a u s i r)) .e (z 1)) (by kernel_rfl) ?_
    rw [scal_rem _ _ _ (by decide), hmod]
    rfl
  refine at_step hcall (k7c u s i r) .e (z 1) (fun Kr => by rcases hr with rfl | rfl | rfl | rfl <;> kernel_rfl) (ops_end ?_)
  show Goes _ _ (sndC (fstC (restC 5))) _ _ _ _
  refine at_exec hcall (f := 3) (by kernel_rfl) .nrm (t7 u s i r) .e (z 1) (fun Kr => by rcases hr with rfl | rfl | rfl | rfl <;> kernel_rfl) ?_
  show Goes _ _ (restC 6) _ _ _ _
  have h0 := hsw 0 s 0 (.inl rfl) rfl
  refine seq_at (by kernel_rfl) (reg_at (n := 7) (by kernel_rfl) ?_)
  refine at_step hcall (k9a u s i r) .e (z 1) (fun Kr => by kernel_rfl) ?_
  refine at_step h0 (k9b u s i r) .e (z 1) (fun Kr => ?_) ?_
  · refine Eq.trans (b := (oneC call 5 [.int .i64 0, .bool s] (.tup [ifS 0 s, varS 0 s])).run 5 [.int .i64 0, .bool s] .e (z 1) fun v hp nx => Kr (put 38 v (k9a u s i r)) hp nx) (by kernel_rfl) ?_
    rw [oneC_at]
    rfl
  refine at_step hcall (k9c u s i r) .e (z 1) (fun Kr => by kernel_rfl) ?_
  refine at_step hcall (k9d u s i r) .e (z 1) (fun Kr => by kernel_rfl) ?_
  refine at_step hcall (k9e u s i r) .e (z 1) (fun Kr => by kernel_rfl) ?_
  refine at_step hcall (k9f u s i r) .e (z 1) (fun Kr => by kernel_rfl) ?_
  refine at_step hcall (t9 u s i r) .e (z 1) (fun Kr => by kernel_rfl) (ops_end ?_)
  show Goes _ _ (restC 7) _ _ _ _
  have h1 := hsw u.q i o ho hq
  refine seq_at (by kernel_rfl) (reg_at (n := 9) (by kernel_rfl) ?_)
  refine at_step hcall (k10a u s i r) .e (z 1) (fun Kr => by kernel_rfl) ?_
  refine at_step hcall (k10b u s i r) .e (z 1) (fun Kr => ?_) ?_
  · refine Eq.trans (b := scal (binOp .quo 3 (.int .i64 u.n) (.int .i64 4)) fun v => Kr (put 43 v (k10a u s i r)) .e (z 1)) (by kernel_rfl) ?_
    rw [scal_quo _ _ _ (by decide), hquo]
    rfl
  refine at_step hcall (k10c u s i r) .e (z 1) (fun Kr => by kernel_rfl) ?_
  refine at_step h1 (k10d u s i r o) .e (z 1) (fun Kr => ?_) ?_
  · refine Eq.trans (b := (oneC call 5 [.int .i64 u.q, .bool i] (.tup [ifS o i, varS o i])).run 5 [.int .i64 u.q, .bool i] .e (z 1) fun v hp nx => Kr (put 45 v (k10c u s i r)) hp nx) (by kernel_rfl) ?_
    rw [oneC_at]
    rfl
  refine at_step hcall (k10e u s i r o) .e (z 1) (fun Kr => by kernel_rfl) ?_
  refine at_step hcall (k10f u s i r o) .e (z 1) (fun Kr => by kernel_rfl) ?_
  refine at_step hcall (k10g u s i r o) .e (z 1) (fun Kr => by kernel_rfl) ?_
  refine at_step hcall (k10h u s i r o) .e (z 1) (fun Kr => by kernel_rfl) ?_
  refine at_step hcall (t10 u s i r o) .e (z 1) (fun Kr => by kernel_rfl) (ops_end ?_)
  show Goes _ _ (restC 8) _ _ _ _
  refine seq_at (by kernel_rfl) (at_exec hcall (f := 3) (by kernel_rfl) .nrm (t11 u s i r o) .e (z 1) (fun Kr => by kernel_rfl) ?_)
  show Goes _ _ (restC 9) _ _ _ _
  refine seq_at (by kernel_rfl) (seq_at (by kernel_rfl) (reg_at (n := 4) (by kernel_rfl) ?_))
  refine at_step hcall (k12a u s i r o) .e (z 1) (fun Kr => by kernel_rfl) ?_
  refine at_step hcall (k12b u s i r o) .e (z 1) (fun Kr => ?_) ?_
  · refine Eq.trans (b := scal (binOp .quo 3 (.int .i64 u.n) (.int .i64 4)) fun v => Kr (put 49 v (k12a u s i r o)) .e (z 1)) (by kernel_rfl) ?_
    rw [scal_quo _ _ _ (by decide), hquo]
    rfl
  refine at_step hcall (k12c u s i r o) .e (z 1) (fun Kr => ?_) ?_
  · refine Eq.trans (b := scal (binOp .rem 3 (.int .i64 u.q) (.int .i64 2)) fun v => Kr (put 50 v (k12b u s i r o)) .e (z 1)) (by kernel_rfl) ?_
    rw [scal_rem _ _ _ (by decide), hq]
    rfl
  refine at_step hcall (k12d u s i r o) .e (z 1) (fun Kr => by rcases ho with rfl | rfl <;> kernel_rfl) (ops_end ?_)
  show Goes _ _ (sndC (fstC (restC 9))) _ _ _ _
  refine at_exec hcall (f := 3) (by kernel_rfl) .nrm (t12 u s i r o) .e (z 1) (fun Kr => by rcases ho with rfl | rfl <;> kernel_rfl) ?_
  show Goes _ _ (restC 10) _ _ _ _
  refine seq_at (by kernel_rfl) (at_exec hcall (f := 3) (by kernel_rfl) .nrm (t14 u s i r o) .e (z 1) (fun Kr => by kernel_rfl) ?_)
  show Goes _ _ (restC 11) _ _ _ _
  refine seq_at (by kernel_rfl) (seq_at (by kernel_rfl) (reg_at (n := 3) (by kernel_rfl) ?_))
  refine at_step hcall (k15a u s i r o) .e (z 1) (fun Kr => by kernel_rfl) ?_
  refine at_step hcall (k15b u s i r o) .e (z 1) (fun Kr => ?_) ?_
  · refine Eq.trans (b := scal (binOp .rem 3 (.int .i64 u.n) (.int .i64 4)) fun v => Kr (put 53 v (k15a u s i r o)) .e (z 1)) (by kernel_rfl) ?_
    rw [scal_rem _ _ _ (by decide), hmod]
    rfl
  refine at_step hcall (k15c u s i r o) .e (z 1) (fun Kr => by rcases hr with rfl | rfl | rfl | rfl <;> kernel_rfl) (ops_end ?_)
  show Goes _ _ (sndC (fstC (restC 11))) _ _ _ _
  refine at_exec hcall (f := 3) (by kernel_rfl) .nrm (t15 u s i r o) .e (z 1) (fun Kr => by rcases hr with rfl | rfl | rfl | rfl <;> kernel_rfl) ?_
  show Goes _ _ (restC 12) _ _ _ _
  refine seq_at (by kernel_rfl) (seq_at (by kernel_rfl) (at_exec hcall (f := 3) (by kernel_rfl) .nrm (t17 u s i r o) .e (z 1) (fun Kr => by kernel_rfl) ?_))
  exact loop_at hcall2 (Nat.le_refl _) hrun
end
theorem wrapC_in (x : Int) (h1 : -9223372036854775808 ≤ x) (h2 : x ≤ 9223372036854775807) (k : Int → Rs) : wrapC .i64 x k = k x := by
  cases x with
  | ofNat m =>
    show ifK (Nat.ble m 9223372036854775807) (natF m fun m => k (.ofNat m)) _ = _
    rw [show Nat.ble m 9223372036854775807 = true from Nat.ble_eq_true_of_le (by simp only [Int.ofNat_eq_natCast] at h2; omega)]
    exact natF_eq m (fun m => k (.ofNat m))
  | negSucc m =>
    show ifK (Nat.ble m 9223372036854775807) (natF m fun m => k (.negSucc m)) _ = _
    rw [show Nat.ble m 9223372036854775807 = true from Nat.ble_eq_true_of_le (by omega)]
    exact natF_eq m (fun m => k (.negSucc m))
theorem wrapF_in (x : Int) (h1 : -9223372036854775808 ≤ x) (h2 : x ≤ 9223372036854775807) (k : Int → Rs) : wrapF .i64 x k = k x := by
  cases x with
  | ofNat m =>
    show ifK (Nat.ble m 9223372036854775807) (natF m fun m => k (.ofNat m)) _ = _
    rw [show Nat.ble m 9223372036854775807 = true from Nat.ble_eq_true_of_le (by simp only [Int.ofNat_eq_natCast] at h2; omega)]
    exact natF_eq m (fun m => k (.ofNat m))
  | negSucc m =>
    show ifK (Nat.ble m 9223372036854775807) (natF m fun m => k (.negSucc m)) _ = _
    rw [show Nat.ble m 9223372036854775807 = true from Nat.ble_eq_true_of_le (by omega)]
    exact natF_eq m (fun m => k (.negSucc m))
/-- The law, walked: from the runs of its 32 cases. -/
theorem law_goes {call : CallT} (hcall : CallOk Tryz.prog call) (hawake : ∀ nx, Ran Tryz.prog 4 [] .e nx (.bool true) .e nx)
    (hruns : ∀ (u : Un) (s i : Bool) (r o : Nat), (r = 0 ∨ r = 1 ∨ r = 2 ∨ r = 3) → (o = 0 ∨ o = 1) → ∃ call, CallOk Tryz.prog call ∧ caseRun call (t17 u s i r o) = .ok) (n0 : Int) (h1 : -9223372036854775808 ≤ n0) (h2 : n0 ≤ 9223372036854775807) (s i : Bool) :
    CallAt Tryz.prog 3 [.int .i64 n0, .bool s, .bool i] .e (z 0) (seeK (.bool true) .e (z 300000)) := by
  refine fn_goes (fn := Tryz.f3) (c := bodyC) (T := a0 n0 s i) Tryz.func3 (by kernel_rfl) (by kernel_rfl) (by kernel_rfl) (fun Kr => by kernel_rfl) ?_
  show Goes _ 133 (restC 0) _ _ _ finL
  refine seq_at (by kernel_rfl) (at_exec hcall (f := 3) (by kernel_rfl) .nrm (put 6 (.bool false) (a0 n0 s i)) .e (z 0) (fun Kr => by kernel_rfl) ?_)
  show Goes _ _ (restC 1) _ _ _ _
  have ha : CallOk Tryz.prog (oneE call 4 [] (.bool true)) := oneE_ok hcall hawake
  refine seq_at (by kernel_rfl) (seq_at (by kernel_rfl) (reg_at (n := 2) (by kernel_rfl) ?_))
  refine at_step ha (put 21 (.bool true) (put 6 (.bool false) (a0 n0 s i))) .e (z 0) (fun Kr => ?_) ?_
  · refine Eq.trans (b := (oneE call 4 [] (.bool true)).run 4 [] .e (z 0) fun v hp nx => Kr (put 21 v (put 6 (.bool false) (a0 n0 s i))) hp nx) (by kernel_rfl) ?_
    rw [oneE_at]
  refine at_step hcall (a1 n0 s i) .e (z 0) (fun Kr => by kernel_rfl) (ops_end ?_)
  show Goes _ _ (sndC (fstC (restC 1))) _ _ _ _
  refine at_exec hcall (f := 3) (by kernel_rfl) .nrm (a1 n0 s i) .e (z 0) (fun Kr => by kernel_rfl) ?_
  show Goes _ _ (restC 2) _ _ _ _
  have hres : ∀ (u : Un), 0 ≤ u.n → u.n ≤ 9223372036854775807 → IntKind.i64.wrap (u.n.tdiv 4) = u.q → Goes Tryz.prog 133 (restC 3) (t2 u s i) .e (z 0) finL := fun u g1 g2 g3 => by
    obtain ⟨m, hm⟩ := Int.eq_ofNat_of_zero_le g1
    have e1 : u.n.tmod 4 = .ofNat (m % 4) := by rw [hm]; rfl
    have e2 : u.n.tdiv 4 = .ofNat (m / 4) := by rw [hm]; rfl
    have e3 : u.q = .ofNat (m / 4) := by rw [← g3, e2]; exact IntWalk.i64_in _ (by simp only [Int.ofNat_eq_natCast]; omega)
    have hr : m % 4 = 0 ∨ m % 4 = 1 ∨ m % 4 = 2 ∨ m % 4 = 3 := by omega
    have ho : m / 4 % 2 = 0 ∨ m / 4 % 2 = 1 := by omega
    obtain ⟨call2, g4, g5⟩ := hruns u s i _ _ hr ho
    exact tail_at hcall g4 u s i (m % 4) (m / 4 % 2) hr ho e1 g3 (by rw [e3]; rfl) g5
  cases n0 with
  | ofNat m =>
    refine seq_at (by kernel_rfl) (at_exec hcall (f := 3) (by kernel_rfl) .nrm (a2 (.ofNat m) false s i) .e (z 0) (fun Kr => by kernel_rfl) ?_)
    show Goes _ _ (restC 3) _ _ _ finL
    have e : a2 (.ofNat m) false s i = t2 ⟨.ofNat m, .ofNat m, IntKind.i64.wrap (Int.tdiv (.ofNat m) 4), false, undefA, undefA, undefA⟩ s i := by kernel_rfl
    rw [e]
    exact hres _ (Int.natCast_nonneg m) h2 rfl
  | negSucc m =>
    refine seq_at (by kernel_rfl) (seq_at (by kernel_rfl) (reg_at (n := 2) (by kernel_rfl) ?_))
    refine at_step hcall (put 23 (.int .i64 (.negSucc m)) (a1 (.negSucc m) s i)) .e (z 0) (fun Kr => by kernel_rfl) ?_
    refine at_step hcall (a2 (.negSucc m) true s i) .e (z 0) (fun Kr => ?_) (ops_end ?_)
    · refine Eq.trans (b := ltK (.negSucc m) 0 fun x => Kr (put 24 (.bool x) (put 23 (.int .i64 (.negSucc m)) (a1 (.negSucc m) s i))) .e (z 0)) (by kernel_rfl) ?_
      rw [ltK_eq, decide_eq_true (by omega)]
      rfl
    show Goes _ _ (sndC (fstC (restC 2))) _ _ _ _
    refine cond_at (n := 24) (by kernel_rfl) (fun k => by kernel_rfl) (reg_at (n := 4) (by kernel_rfl) ?_)
    have hw1 : Int.add (.negSucc m) 1 = -(m : Int) := by show (Int.negSucc m) + 1 = _; omega
    have hw2 : Int.sub 0 (-(m : Int)) = (m : Int) := by show (0 : Int) - -(m : Int) = _; omega
    refine at_step hcall (put 25 (.int .i64 (.negSucc m)) (a2 (.negSucc m) true s i)) .e (z 0) (fun Kr => by kernel_rfl) ?_
    refine at_step hcall (put 26 (.int .i64 (-(m : Int))) (put 25 (.int .i64 (.negSucc m)) (a2 (.negSucc m) true s i))) .e (z 0) (fun Kr => ?_) ?_
    · refine Eq.trans (b := addK (.negSucc m) 1 fun x => wrapC .i64 x fun x => Kr (put 26 (.int .i64 x) (put 25 (.int .i64 (.negSucc m)) (a2 (.negSucc m) true s i))) .e (z 0)) (by kernel_rfl) ?_
      rw [addK_eq, hw1, wrapC_in _ (by omega) (by omega)]
    refine at_step hcall (put 27 (.int .i64 (m : Int)) (put 26 (.int .i64 (-(m : Int))) (put 25 (.int .i64 (.negSucc m)) (a2 (.negSucc m) true s i)))) .e (z 0) (fun Kr => ?_) ?_
    · refine Eq.trans (b := wrapF .i64 (Int.sub 0 (-(m : Int))) fun x => Kr (put 27 (.int .i64 x) (put 26 (.int .i64 (-(m : Int))) (put 25 (.int .i64 (.negSucc m)) (a2 (.negSucc m) true s i)))) .e (z 0)) (by kernel_rfl) ?_
      rw [hw2, wrapF_in _ (by omega) (by omega)]
    refine at_step hcall (t2 ⟨.negSucc m, (m : Int), IntKind.i64.wrap (Int.tdiv (m : Int) 4), true, .int .i64 (.negSucc m), .int .i64 (-(m : Int)), .int .i64 (m : Int)⟩ s i) .e (z 0) (fun Kr => by kernel_rfl) (ops_end ?_)
    show Goes _ _ (restC 3) _ _ _ finL
    exact hres _ (Int.natCast_nonneg m) (by show (m : Int) ≤ _; omega) rfl
end Go.Rex.Sw
