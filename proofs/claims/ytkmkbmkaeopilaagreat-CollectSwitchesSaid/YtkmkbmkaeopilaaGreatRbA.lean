/- The abstract machine: what it computes. Plain definitions, written by recursors so that the kernel runs them fast. The abstract machine: operations, code, calls. Plain definitions. Conditions: none. -/
import Derived.Calls
import Derived.Below
import Derived.KernelRfl
import Derived.Orders
namespace Go.Rex
set_option linter.unusedVariables false

inductive Rs where | ok | bad (n : Nat)
inductive Pz where | h | o (p : Pz) | i (p : Pz)
  deriving DecidableEq
inductive Tr (α : Type) where | e | n (l : Tr α) (v : Option α) (r : Tr α)

inductive AV where
  | bool (b : Bool)
  | int (k : IntKind) (n : Int)
  | str (len n : Nat)
  | float (k : FloatKind) (bits : Nat)
  | ptr (id : Pz) (off : Nat)
  | nilp
  | slice (id : Pz) (off len cap : Nat)
  | oslice (id : Pz) (off len skip : Nat)
  | nils
  | map (id : Pz)
  | nilmap
  | func (fn : Fn) (first captured : List AV)
  | nilfunc
  | iface (t : TypeId) (v : AV)
  | nilIface
  | agg (cs : List AV)
  | tup (vs : List AV)

structure ME where
  key : AV
  val : AV
  born : Nat

structure Oct (α : Type) where
  a0 : α
  a1 : α
  a2 : α
  a3 : α
  a4 : α
  a5 : α
  a6 : α
  a7 : α
structure Tm where
  lo : Oct (Oct AV)
  hi : Tr AV
  ml : List Pz

inductive Ex where | nrm | ext (id : Nat) | ret
/- where a loop over a function stands -/
inductive LS where | ready | busy | done (e : Ex)
inductive AO where
  | arr (es n : Nat) (el : TypeId) (cells : Tr (List AV))
  | seg (fam : Pz) (ep : Nat) (tip : Bool) (es n : Nat) (el : TypeId) (cells : Tr (List AV))
  | fam (ep : Nat) (solo : Bool)
  | map (es : List ME) (clock : Nat)
  | iter (m : Pz) (since : Nat) (seen : List Nat) (clock : Nat)
  | loop (f nt : Nat) (tm : Tm) (ps : Array Tmp) (assign body : Code) (st : LS)
  | dmark
  | gone

noncomputable section

/-! trees -/
def Tr.getK {α : Type} (p : Pz) : Tr α → Rs → (α → Rs) → Rs :=
  Pz.rec (motive := fun _ => Tr α → Rs → (α → Rs) → Rs)
    (fun t z k => Tr.rec (motive := fun _ => Rs) z (fun _ v _ _ _ => Option.rec (motive := fun _ => Rs) z k v) t)
    (fun _ ih t z k => Tr.rec (motive := fun _ => Rs) z (fun l _ _ _ _ => ih l z k) t)
    (fun _ ih t z k => Tr.rec (motive := fun _ => Rs) z (fun _ _ r _ _ => ih r z k) t) p
def Tr.setK {α : Type} (p : Pz) : Tr α → α → (Tr α → Rs) → Rs :=
  Pz.rec (motive := fun _ => Tr α → α → (Tr α → Rs) → Rs)
    (fun t v k => Tr.rec (motive := fun _ => Rs) (k (.n .e (some v) .e)) (fun l _ r _ _ => k (.n l (some v) r)) t)
    (fun _ ih t v k => Tr.rec (motive := fun _ => Rs) (ih .e v fun l => k (.n l none .e)) (fun l x r _ _ => ih l v fun l => k (.n l x r)) t)
    (fun _ ih t v k => Tr.rec (motive := fun _ => Rs) (ih .e v fun r => k (.n .e none r)) (fun l x r _ _ => ih r v fun r => k (.n l x r)) t) p
def Pz.succK (p : Pz) : (Pz → Rs) → Rs :=
  Pz.rec (motive := fun _ => (Pz → Rs) → Rs) (fun k => k (.o .h)) (fun q _ k => k (.i q)) (fun _ ih k => ih fun q => k (.o q)) p
def natPzF (f : Nat) : Nat → Pz :=
  Nat.rec (motive := fun _ => Nat → Pz) (fun _ => .h)
    (fun _ ih m => Bool.rec (motive := fun _ => Pz) (Bool.rec (motive := fun _ => Pz) (.o (ih (Nat.div m 2))) (.i (ih (Nat.div m 2))) (Nat.beq (Nat.mod m 2) 1)) .h (Nat.ble m 1)) f
def natPz (n : Nat) : Pz := natPzF (n + 1) (n + 1)

/- the same path, laid out whole before it is handed on -/
def pzC (β : Type) (p : Pz) : (Pz → β) → β :=
  Pz.rec (motive := fun _ => (Pz → β) → β) (fun k => k .h) (fun _ ih k => ih fun q => k (.o q)) (fun _ ih k => ih fun q => k (.i q)) p
def natPzC (β : Type) (n : Nat) (k : Pz → β) : β := pzC β (natPz n) k

/-! temporaries -/
structure G1 (α : Type) where run : Oct α → (α → Rs) → Rs
structure S1 (α : Type) where run : Oct α → (α → (α → Rs) → Rs) → (Oct α → Rs) → Rs
structure S2 (α : Type) where run : Oct α → α → (Oct α → Rs) → Rs
def g1 (α : Type) (d : Nat) : G1 α :=
  match d with
  | 0 => ⟨fun o => Oct.rec (motive := fun _ => (α → Rs) → Rs) (fun a0 _ _ _ _ _ _ _ k => k a0) o⟩
  | 1 => ⟨fun o => Oct.rec (motive := fun _ => (α → Rs) → Rs) (fun _ a1 _ _ _ _ _ _ k => k a1) o⟩
  | 2 => ⟨fun o => Oct.rec (motive := fun _ => (α → Rs) → Rs) (fun _ _ a2 _ _ _ _ _ k => k a2) o⟩
  | 3 => ⟨fun o => Oct.rec (motive := fun _ => (α → Rs) → Rs) (fun _ _ _ a3 _ _ _ _ k => k a3) o⟩
  | 4 => ⟨fun o => Oct.rec (motive := fun _ => (α → Rs) → Rs) (fun _ _ _ _ a4 _ _ _ k => k a4) o⟩
  | 5 => ⟨fun o => Oct.rec (motive := fun _ => (α → Rs) → Rs) (fun _ _ _ _ _ a5 _ _ k => k a5) o⟩
  | 6 => ⟨fun o => Oct.rec (motive := fun _ => (α → Rs) → Rs) (fun _ _ _ _ _ _ a6 _ k => k a6) o⟩
  | _ => ⟨fun o => Oct.rec (motive := fun _ => (α → Rs) → Rs) (fun _ _ _ _ _ _ _ a7 k => k a7) o⟩
def s1 (α : Type) (d : Nat) : S1 α :=
  match d with
  | 0 => ⟨fun o => Oct.rec (motive := fun _ => (α → (α → Rs) → Rs) → (Oct α → Rs) → Rs) (fun a0 a1 a2 a3 a4 a5 a6 a7 f k => f a0 fun x => k ⟨x, a1, a2, a3, a4, a5, a6, a7⟩) o⟩
  | 1 => ⟨fun o => Oct.rec (motive := fun _ => (α → (α → Rs) → Rs) → (Oct α → Rs) → Rs) (fun a0 a1 a2 a3 a4 a5 a6 a7 f k => f a1 fun x => k ⟨a0, x, a2, a3, a4, a5, a6, a7⟩) o⟩
  | 2 => ⟨fun o => Oct.rec (motive := fun _ => (α → (α → Rs) → Rs) → (Oct α → Rs) → Rs) (fun a0 a1 a2 a3 a4 a5 a6 a7 f k => f a2 fun x => k ⟨a0, a1, x, a3, a4, a5, a6, a7⟩) o⟩
  | 3 => ⟨fun o => Oct.rec (motive := fun _ => (α → (α → Rs) → Rs) → (Oct α → Rs) → Rs) (fun a0 a1 a2 a3 a4 a5 a6 a7 f k => f a3 fun x => k ⟨a0, a1, a2, x, a4, a5, a6, a7⟩) o⟩
  | 4 => ⟨fun o => Oct.rec (motive := fun _ => (α → (α → Rs) → Rs) → (Oct α → Rs) → Rs) (fun a0 a1 a2 a3 a4 a5 a6 a7 f k => f a4 fun x => k ⟨a0, a1, a2, a3, x, a5, a6, a7⟩) o⟩
  | 5 => ⟨fun o => Oct.rec (motive := fun _ => (α → (α → Rs) → Rs) → (Oct α → Rs) → Rs) (fun a0 a1 a2 a3 a4 a5 a6 a7 f k => f a5 fun x => k ⟨a0, a1, a2, a3, a4, x, a6, a7⟩) o⟩
  | 6 => ⟨fun o => Oct.rec (motive := fun _ => (α → (α → Rs) → Rs) → (Oct α → Rs) → Rs) (fun a0 a1 a2 a3 a4 a5 a6 a7 f k => f a6 fun x => k ⟨a0, a1, a2, a3, a4, a5, x, a7⟩) o⟩
  | _ => ⟨fun o => Oct.rec (motive := fun _ => (α → (α → Rs) → Rs) → (Oct α → Rs) → Rs) (fun a0 a1 a2 a3 a4 a5 a6 a7 f k => f a7 fun x => k ⟨a0, a1, a2, a3, a4, a5, a6, x⟩) o⟩
def s2 (α : Type) (d : Nat) : S2 α :=
  match d with
  | 0 => ⟨fun o => Oct.rec (motive := fun _ => α → (Oct α → Rs) → Rs) (fun _ a1 a2 a3 a4 a5 a6 a7 x k => k ⟨x, a1, a2, a3, a4, a5, a6, a7⟩) o⟩
  | 1 => ⟨fun o => Oct.rec (motive := fun _ => α → (Oct α → Rs) → Rs) (fun a0 _ a2 a3 a4 a5 a6 a7 x k => k ⟨a0, x, a2, a3, a4, a5, a6, a7⟩) o⟩
  | 2 => ⟨fun o => Oct.rec (motive := fun _ => α → (Oct α → Rs) → Rs) (fun a0 a1 _ a3 a4 a5 a6 a7 x k => k ⟨a0, a1, x, a3, a4, a5, a6, a7⟩) o⟩
  | 3 => ⟨fun o => Oct.rec (motive := fun _ => α → (Oct α → Rs) → Rs) (fun a0 a1 a2 _ a4 a5 a6 a7 x k => k ⟨a0, a1, a2, x, a4, a5, a6, a7⟩) o⟩
  | 4 => ⟨fun o => Oct.rec (motive := fun _ => α → (Oct α → Rs) → Rs) (fun a0 a1 a2 a3 _ a5 a6 a7 x k => k ⟨a0, a1, a2, a3, x, a5, a6, a7⟩) o⟩
  | 5 => ⟨fun o => Oct.rec (motive := fun _ => α → (Oct α → Rs) → Rs) (fun a0 a1 a2 a3 a4 _ a6 a7 x k => k ⟨a0, a1, a2, a3, a4, x, a6, a7⟩) o⟩
  | 6 => ⟨fun o => Oct.rec (motive := fun _ => α → (Oct α → Rs) → Rs) (fun a0 a1 a2 a3 a4 a5 _ a7 x k => k ⟨a0, a1, a2, a3, a4, a5, x, a7⟩) o⟩
  | _ => ⟨fun o => Oct.rec (motive := fun _ => α → (Oct α → Rs) → Rs) (fun a0 a1 a2 a3 a4 a5 a6 _ x k => k ⟨a0, a1, a2, a3, a4, a5, a6, x⟩) o⟩
structure GetC where run : Tm → (AV → Rs) → Rs
structure SetC where run : Tm → AV → (Tm → Rs) → Rs
def undefA : AV := .tup []
def getS (t : Nat) : GetC :=
  match Nat.ble t 63 with
  | true => ⟨fun tm k => Tm.rec (motive := fun _ => (AV → Rs) → Rs) (fun lo _ _ k => (g1 (Oct AV) (Nat.div t 8)).run lo fun o => (g1 AV (Nat.mod t 8)).run o k) tm k⟩
  | false => natPzC GetC t fun p => ⟨fun tm k => Tm.rec (motive := fun _ => (AV → Rs) → Rs) (fun _ hi _ k => hi.getK p (k undefA) k) tm k⟩
def setS (t : Nat) : SetC :=
  match Nat.ble t 63 with
  | true => ⟨fun tm v k => Tm.rec (motive := fun _ => AV → (Tm → Rs) → Rs) (fun lo hi ml v k => (s1 (Oct AV) (Nat.div t 8)).run lo (fun o k => (s2 AV (Nat.mod t 8)).run o v k) fun lo => k ⟨lo, hi, ml⟩) tm v k⟩
  | false => natPzC SetC t fun p => ⟨fun tm v k => Tm.rec (motive := fun _ => AV → (Tm → Rs) → Rs) (fun lo hi ml v k => hi.setK p v fun hi => k ⟨lo, hi, ml⟩) tm v k⟩
def octE {α : Type} (a : α) : Oct α := ⟨a, a, a, a, a, a, a, a⟩
def Tm.e : Tm := ⟨⟨⟨.tup [], .tup [], .tup [], .tup [], .tup [], .tup [], .tup [], .tup []⟩, octE undefA, octE undefA, octE undefA, octE undefA, octE undefA, octE undefA, octE undefA⟩, .e, []⟩

/-! small matches -/
def ifK (b : Bool) (x y : Rs) : Rs := Bool.rec (motive := fun _ => Rs) y x b
def natF (n : Nat) (k : Nat → Rs) : Rs := Nat.rec (motive := fun _ => Rs) (k 0) (fun m _ => k (Nat.succ m)) n
def intF (z : Int) (k : Int → Rs) : Rs := Int.rec (motive := fun _ => Rs) (fun m => natF m fun m => k (.ofNat m)) (fun m => natF m fun m => k (.negSucc m)) z
def boolF (b : Bool) (k : Bool → Rs) : Rs := Bool.rec (motive := fun _ => Rs) (k false) (k true) b
def AV.cells (v : AV) : List AV :=
  AV.rec (motive_1 := fun _ => List AV) (motive_2 := fun _ => Unit)
    (fun b => [.bool b])
    (fun k n => [.int k n])
    (fun l n => [.str l n])
    (fun k n => [.float k n])
    (fun p o => [.ptr p o])
    ([.nilp])
    (fun p o l c => [.slice p o l c])
    (fun p o l c => [.oslice p o l c])
    ([.nils])
    (fun p => [.map p])
    ([.nilmap])
    (fun f a b _ _ => [.func f a b])
    ([.nilfunc])
    (fun t v _ => [.iface t v])
    ([.nilIface])
    (fun cs _ => cs)
    (fun vs _ => [.tup vs])
    () (fun _ _ _ _ => ()) v
def asInt (v : AV) : (IntKind → Int → Rs) → Rs :=
  AV.rec (motive_1 := fun _ => (IntKind → Int → Rs) → Rs) (motive_2 := fun _ => Unit)
    (fun _ _ => .bad 1)
    (fun k n kk => kk k n)
    (fun _ _ _ => .bad 1)
    (fun _ _ _ => .bad 1)
    (fun _ _ _ => .bad 1)
    (fun _ => .bad 1)
    (fun _ _ _ _ _ => .bad 1)
    (fun _ _ _ _ _ => .bad 1)
    (fun _ => .bad 1)
    (fun _ _ => .bad 1)
    (fun _ => .bad 1)
    (fun _ _ _ _ _ _ => .bad 1)
    (fun _ => .bad 1)
    (fun _ _ _ _ => .bad 1)
    (fun _ => .bad 1)
    (fun _ _ _ => .bad 1)
    (fun _ _ _ => .bad 1)
    () (fun _ _ _ _ => ()) v
def asBool (v : AV) : (Bool → Rs) → Rs :=
  AV.rec (motive_1 := fun _ => (Bool → Rs) → Rs) (motive_2 := fun _ => Unit)
    (fun b kk => kk b)
    (fun _ _ _ => .bad 2)
    (fun _ _ _ => .bad 2)
    (fun _ _ _ => .bad 2)
    (fun _ _ _ => .bad 2)
    (fun _ => .bad 2)
    (fun _ _ _ _ _ => .bad 2)
    (fun _ _ _ _ _ => .bad 2)
    (fun _ => .bad 2)
    (fun _ _ => .bad 2)
    (fun _ => .bad 2)
    (fun _ _ _ _ _ _ => .bad 2)
    (fun _ => .bad 2)
    (fun _ _ _ _ => .bad 2)
    (fun _ => .bad 2)
    (fun _ _ _ => .bad 2)
    (fun _ _ _ => .bad 2)
    () (fun _ _ _ _ => ()) v
def asPtr (v : AV) : (Pz → Nat → Rs) → Rs :=
  AV.rec (motive_1 := fun _ => (Pz → Nat → Rs) → Rs) (motive_2 := fun _ => Unit)
    (fun _ _ => .bad 3)
    (fun _ _ _ => .bad 3)
    (fun _ _ _ => .bad 3)
    (fun _ _ _ => .bad 3)
    (fun p o kk => kk p o)
    (fun _ => .bad 3)
    (fun _ _ _ _ _ => .bad 3)
    (fun _ _ _ _ _ => .bad 3)
    (fun _ => .bad 3)
    (fun _ _ => .bad 3)
    (fun _ => .bad 3)
    (fun _ _ _ _ _ _ => .bad 3)
    (fun _ => .bad 3)
    (fun _ _ _ _ => .bad 3)
    (fun _ => .bad 3)
    (fun _ _ _ => .bad 3)
    (fun _ _ _ => .bad 3)
    () (fun _ _ _ _ => ()) v
def selStr (v : AV) : (Rs) → (Nat → Nat → Rs) → Rs :=
  AV.rec (motive_1 := fun _ => (Rs) → (Nat → Nat → Rs) → Rs) (motive_2 := fun _ => Unit)
    (fun _ z _ => z)
    (fun _ _ z _ => z)
    (fun l n _ kk => kk l n)
    (fun _ _ z _ => z)
    (fun _ _ z _ => z)
    (fun z _ => z)
    (fun _ _ _ _ z _ => z)
    (fun _ _ _ _ z _ => z)
    (fun z _ => z)
    (fun _ z _ => z)
    (fun z _ => z)
    (fun _ _ _ _ _ z _ => z)
    (fun z _ => z)
    (fun _ _ _ z _ => z)
    (fun z _ => z)
    (fun _ _ z _ => z)
    (fun _ _ z _ => z)
    () (fun _ _ _ _ => ()) v
def selAgg (v : AV) : (Rs) → (List AV → Rs) → Rs :=
  AV.rec (motive_1 := fun _ => (Rs) → (List AV → Rs) → Rs) (motive_2 := fun _ => Unit)
    (fun _ z _ => z)
    (fun _ _ z _ => z)
    (fun _ _ z _ => z)
    (fun _ _ z _ => z)
    (fun _ _ z _ => z)
    (fun z _ => z)
    (fun _ _ _ _ z _ => z)
    (fun _ _ _ _ z _ => z)
    (fun z _ => z)
    (fun _ z _ => z)
    (fun z _ => z)
    (fun _ _ _ _ _ z _ => z)
    (fun z _ => z)
    (fun _ _ _ z _ => z)
    (fun z _ => z)
    (fun cs _ _ kk => kk cs)
    (fun _ _ z _ => z)
    () (fun _ _ _ _ => ()) v
def selTup (v : AV) : (Rs) → (List AV → Rs) → Rs :=
  AV.rec (motive_1 := fun _ => (Rs) → (List AV → Rs) → Rs) (motive_2 := fun _ => Unit)
    (fun _ z _ => z)
    (fun _ _ z _ => z)
    (fun _ _ z _ => z)
    (fun _ _ z _ => z)
    (fun _ _ z _ => z)
    (fun z _ => z)
    (fun _ _ _ _ z _ => z)
    (fun _ _ _ _ z _ => z)
    (fun z _ => z)
    (fun _ z _ => z)
    (fun z _ => z)
    (fun _ _ _ _ _ z _ => z)
    (fun z _ => z)
    (fun _ _ _ z _ => z)
    (fun z _ => z)
    (fun _ _ z _ => z)
    (fun vs _ _ kk => kk vs)
    () (fun _ _ _ _ => ()) v
def selSl (v : AV) : (Rs) → (Rs) → (Pz → Nat → Nat → Nat → Rs) → (Pz → Nat → Nat → Nat → Rs) → Rs :=
  AV.rec (motive_1 := fun _ => (Rs) → (Rs) → (Pz → Nat → Nat → Nat → Rs) → (Pz → Nat → Nat → Nat → Rs) → Rs) (motive_2 := fun _ => Unit)
    (fun _ z _ _ _ => z)
    (fun _ _ z _ _ _ => z)
    (fun _ _ z _ _ _ => z)
    (fun _ _ z _ _ _ => z)
    (fun _ _ z _ _ _ => z)
    (fun z _ _ _ => z)
    (fun p o l c _ _ ks _ => ks p o l c)
    (fun p o l c _ _ _ ko => ko p o l c)
    (fun _ zn _ _ => zn)
    (fun _ z _ _ _ => z)
    (fun z _ _ _ => z)
    (fun _ _ _ _ _ z _ _ _ => z)
    (fun z _ _ _ => z)
    (fun _ _ _ z _ _ _ => z)
    (fun z _ _ _ => z)
    (fun _ _ z _ _ _ => z)
    (fun _ _ z _ _ _ => z)
    () (fun _ _ _ _ => ()) v
def selNum (v : AV) : (Rs) → (IntKind → Int → Rs) → (Nat → Nat → Rs) → Rs :=
  AV.rec (motive_1 := fun _ => (Rs) → (IntKind → Int → Rs) → (Nat → Nat → Rs) → Rs) (motive_2 := fun _ => Unit)
    (fun _ z _ _ => z)
    (fun k n _ ki _ => ki k n)
    (fun l n _ _ ks => ks l n)
    (fun _ _ z _ _ => z)
    (fun _ _ z _ _ => z)
    (fun z _ _ => z)
    (fun _ _ _ _ z _ _ => z)
    (fun _ _ _ _ z _ _ => z)
    (fun z _ _ => z)
    (fun _ z _ _ => z)
    (fun z _ _ => z)
    (fun _ _ _ _ _ z _ _ => z)
    (fun z _ _ => z)
    (fun _ _ _ z _ _ => z)
    (fun z _ _ => z)
    (fun _ _ z _ _ => z)
    (fun _ _ z _ _ => z)
    () (fun _ _ _ _ => ()) v
def selFun (v : AV) : (Rs) → (Fn → List AV → List AV → Rs) → Rs :=
  AV.rec (motive_1 := fun _ => (Rs) → (Fn → List AV → List AV → Rs) → Rs) (motive_2 := fun _ => Unit)
    (fun _ z _ => z)
    (fun _ _ z _ => z)
    (fun _ _ z _ => z)
    (fun _ _ z _ => z)
    (fun _ _ z _ => z)
    (fun z _ => z)
    (fun _ _ _ _ z _ => z)
    (fun _ _ _ _ z _ => z)
    (fun z _ => z)
    (fun _ z _ => z)
    (fun z _ => z)
    (fun f a b _ _ _ kk => kk f a b)
    (fun z _ => z)
    (fun _ _ _ z _ => z)
    (fun z _ => z)
    (fun _ _ z _ => z)
    (fun _ _ z _ => z)
    () (fun _ _ _ _ => ()) v
def selPF (v : AV) : (Rs) → (Pz → Nat → Rs) → (Fn → List AV → List AV → Rs) → Rs :=
  AV.rec (motive_1 := fun _ => (Rs) → (Pz → Nat → Rs) → (Fn → List AV → List AV → Rs) → Rs) (motive_2 := fun _ => Unit)
    (fun _ z _ _ => z)
    (fun _ _ z _ _ => z)
    (fun _ _ z _ _ => z)
    (fun _ _ z _ _ => z)
    (fun p o _ kp _ => kp p o)
    (fun z _ _ => z)
    (fun _ _ _ _ z _ _ => z)
    (fun _ _ _ _ z _ _ => z)
    (fun z _ _ => z)
    (fun _ z _ _ => z)
    (fun z _ _ => z)
    (fun f a b _ _ _ _ kf => kf f a b)
    (fun z _ _ => z)
    (fun _ _ _ z _ _ => z)
    (fun z _ _ => z)
    (fun _ _ z _ _ => z)
    (fun _ _ z _ _ => z)
    () (fun _ _ _ _ => ()) v
def selBz (v : AV) : (Rs) → (Bool → Rs) → Rs :=
  AV.rec (motive_1 := fun _ => (Rs) → (Bool → Rs) → Rs) (motive_2 := fun _ => Unit)
    (fun b _ kb => kb b)
    (fun _ _ z _ => z)
    (fun _ _ z _ => z)
    (fun _ _ z _ => z)
    (fun _ _ z _ => z)
    (fun z _ => z)
    (fun _ _ _ _ z _ => z)
    (fun _ _ _ _ z _ => z)
    (fun z _ => z)
    (fun _ z _ => z)
    (fun z _ => z)
    (fun _ _ _ _ _ z _ => z)
    (fun z _ => z)
    (fun _ _ _ z _ => z)
    (fun z _ => z)
    (fun _ _ z _ => z)
    (fun _ _ z _ => z)
    () (fun _ _ _ _ => ()) v
def selMp (v : AV) : (Rs) → (Rs) → (Pz → Rs) → Rs :=
  AV.rec (motive_1 := fun _ => (Rs) → (Rs) → (Pz → Rs) → Rs) (motive_2 := fun _ => Unit)
    (fun _ z _ _ => z)
    (fun _ _ z _ _ => z)
    (fun _ _ z _ _ => z)
    (fun _ _ z _ _ => z)
    (fun _ _ z _ _ => z)
    (fun z _ _ => z)
    (fun _ _ _ _ z _ _ => z)
    (fun _ _ _ _ z _ _ => z)
    (fun z _ _ => z)
    (fun p _ _ km => km p)
    (fun _ zn _ => zn)
    (fun _ _ _ _ _ z _ _ => z)
    (fun z _ _ => z)
    (fun _ _ _ z _ _ => z)
    (fun z _ _ => z)
    (fun _ _ z _ _ => z)
    (fun _ _ z _ _ => z)
    () (fun _ _ _ _ => ()) v
def asNat (v : AV) (k : Nat → Rs) : Rs := asInt v fun _ n => Int.rec (motive := fun _ => Rs) k (fun _ => .bad 4) n
def nthK {α : Type} (r : Nat) : List α → (α → Rs) → Rs :=
  Nat.rec (motive := fun _ => List α → (α → Rs) → Rs) (fun l k => List.rec (motive := fun _ => Rs) (.bad 5) (fun v _ _ => k v) l)
    (fun _ ih l k => List.rec (motive := fun _ => Rs) (.bad 5) (fun _ t _ => ih t k) l) r
/- 'vs' over the places from 'r' on -/
def overK (vs : List AV) : List AV → (List AV → Rs) → Rs :=
  List.rec (motive := fun _ => List AV → (List AV → Rs) → Rs) (fun l k => k l)
    (fun v _ ih l k => List.rec (motive := fun _ => Rs) (.bad 6) (fun _ t _ => ih t fun t => k (v :: t)) l) vs
def spliceK (r : Nat) (vs : List AV) : List AV → (List AV → Rs) → Rs :=
  Nat.rec (motive := fun _ => List AV → (List AV → Rs) → Rs) (fun l k => overK vs l k)
    (fun _ ih l k => List.rec (motive := fun _ => Rs) (.bad 6) (fun x t _ => ih t fun t => k (x :: t)) l) r
def takeK (n : Nat) : List AV → (List AV → Rs) → Rs :=
  Nat.rec (motive := fun _ => List AV → (List AV → Rs) → Rs) (fun _ k => k [])
    (fun _ ih l k => List.rec (motive := fun _ => Rs) (.bad 7) (fun x t _ => ih t fun t => k (x :: t)) l) n
def dropK (n : Nat) : List AV → (List AV → Rs) → Rs :=
  Nat.rec (motive := fun _ => List AV → (List AV → Rs) → Rs) (fun l k => k l)
    (fun _ ih l k => List.rec (motive := fun _ => Rs) (.bad 7) (fun _ t _ => ih t k) l) n

/-! constants -/
def absStr (l : List UInt8) : Nat := l.foldl (fun n b => n * 256 + b.toNat) 0
def okFn : Fn → Bool
  | .yield _ => false
  | _ => true
def absV : Nat → Value → Option AV
  | 0, _ => none
  | _ + 1, .bool b => some (.bool b)
  | _ + 1, .int k n => some (.int k n)
  | _ + 1, .float k n => some (.float k n)
  | _ + 1, .string s => some (.str s.data.toList.length (absStr s.data.toList))
  | _ + 1, .pointer none => some .nilp
  | _ + 1, .slice none 0 0 => some .nils
  | _ + 1, .map none => some .nilmap
  | _ + 1, .nilFunc => some .nilfunc
  | _ + 1, .nilIface => some .nilIface
  | d + 1, .func fn first captured =>
    match okFn fn, first.toList.mapM (absV d), captured.toList.mapM (absV d) with
    | true, some a, some b => some (.func fn a b)
    | _, _, _ => none
  | d + 1, .agg cs => (cs.toList.mapM (absV d)).map .agg
  | d + 1, .tuple cs => (cs.toList.mapM (absV d)).map .tup
  | _, _ => none

/-! objects -/
def selFam (o : AO) : (Nat → Bool → Rs) → Rs :=
  AO.rec (motive := fun _ => (Nat → Bool → Rs) → Rs) (fun _ _ _ _ _ => .bad 12) (fun _ _ _ _ _ _ _ _ => .bad 12) (fun e s kk => kk e s) (fun _ _ _ => .bad 12) (fun _ _ _ _ _ => .bad 12) (fun _ _ _ _ _ _ _ _ => .bad 12) (fun _ => .bad 12) (fun _ => .bad 12) o
def selRow (o : AO) : (Nat → Nat → TypeId → Tr (List AV) → Rs) → (Pz → Nat → Bool → Nat → Nat → TypeId → Tr (List AV) → Rs) → Rs :=
  AO.rec (motive := fun _ => (Nat → Nat → TypeId → Tr (List AV) → Rs) → (Pz → Nat → Bool → Nat → Nat → TypeId → Tr (List AV) → Rs) → Rs)
    (fun es n el c ka _ => ka es n el c) (fun f ep tip es n el c _ ks => ks f ep tip es n el c) (fun _ _ _ _ => .bad 14) (fun _ _ _ _ => .bad 14) (fun _ _ _ _ _ _ => .bad 14) (fun _ _ _ _ _ _ _ _ _ => .bad 14) (fun _ _ => .bad 14) (fun _ _ => .bad 14) o
def selMap (o : AO) : (List ME → Nat → Rs) → Rs :=
  AO.rec (motive := fun _ => (List ME → Nat → Rs) → Rs) (fun _ _ _ _ _ => .bad 103) (fun _ _ _ _ _ _ _ _ => .bad 103) (fun _ _ _ => .bad 103) (fun es c kk => kk es c) (fun _ _ _ _ _ => .bad 103) (fun _ _ _ _ _ _ _ _ => .bad 103) (fun _ => .bad 103) (fun _ => .bad 103) o
def selIter (o : AO) : (Pz → Nat → List Nat → Nat → Rs) → Rs :=
  AO.rec (motive := fun _ => (Pz → Nat → List Nat → Nat → Rs) → Rs) (fun _ _ _ _ _ => .bad 260) (fun _ _ _ _ _ _ _ _ => .bad 260) (fun _ _ _ => .bad 260) (fun _ _ _ => .bad 260) (fun m s l c kk => kk m s l c) (fun _ _ _ _ _ _ _ _ => .bad 260) (fun _ => .bad 260) (fun _ => .bad 260) o
def selLoop (o : AO) : (Nat → Nat → Tm → Array Tmp → Code → Code → LS → Rs) → Rs :=
  AO.rec (motive := fun _ => (Nat → Nat → Tm → Array Tmp → Code → Code → LS → Rs) → Rs) (fun _ _ _ _ _ => .bad 290) (fun _ _ _ _ _ _ _ _ => .bad 290) (fun _ _ _ => .bad 290) (fun _ _ _ => .bad 290) (fun _ _ _ _ _ => .bad 290) (fun f nt tm ps a b st kk => kk f nt tm ps a b st) (fun _ => .bad 290) (fun _ => .bad 290) o
def isMark (o : AO) (r : Rs) : Rs :=
  AO.rec (motive := fun _ => Rs) (fun _ _ _ _ => .bad 291) (fun _ _ _ _ _ _ _ => .bad 291) (fun _ _ => .bad 291) (fun _ _ => .bad 291) (fun _ _ _ _ => .bad 291) (fun _ _ _ _ _ _ _ => .bad 291) r (.bad 291) o
/-! the heap -/
/- a row that may be read: its element size, count, cells -/
def liveK (hp : Tr AO) (f : Pz) (ep : Nat) (k : Bool → Rs) : Rs :=
  hp.getK f (.bad 10) fun o => selFam o fun e solo => ifK (Nat.beq e ep) (k solo) (.bad 11)
def rowK (hp : Tr AO) (id : Pz) (k : Nat → Nat → Tr (List AV) → Rs) : Rs :=
  hp.getK id (.bad 13) fun o => selRow o (fun es n _ c => k es n c) fun f ep _ es n _ c => liveK hp f ep fun _ => k es n c
/- one element, and the place in it -/
def elemK (es n : Nat) (c : Tr (List AV)) (off : Nat) (k : Nat → Nat → List AV → Rs) : Rs :=
  natF (Nat.div off es) fun q => natF (Nat.mod off es) fun r => ifK (Nat.blt q n) (c.getK (natPz q) (.bad 15) fun l => k q r l) (.bad 16)
def readCell (hp : Tr AO) (id : Pz) (off : Nat) (k : AV → Rs) : Rs :=
  rowK hp id fun es n c => elemK es n c off fun _ r l => nthK r l k
def readCells (hp : Tr AO) (id : Pz) (off sz : Nat) (k : List AV → Rs) : Rs :=
  rowK hp id fun es n c => elemK es n c off fun _ r l =>
    ifK (Nat.beq sz es && Nat.beq r 0) (k l) (dropK r l fun l => takeK sz l k)
/- a value that is one cell -/
def oneB (v : AV) : Bool :=
  AV.rec (motive_1 := fun _ => Bool) (motive_2 := fun _ => Unit)
    (fun _ => true)
    (fun _ _ => true)
    (fun _ _ => true)
    (fun _ _ => true)
    (fun _ _ => true)
    (true)
    (fun _ _ _ _ => true)
    (fun _ _ _ _ => true)
    (true)
    (fun _ => true)
    (true)
    (fun _ _ _ _ _ => true)
    (true)
    (fun _ _ _ => true)
    (true)
    (fun _ _ => false)
    (fun _ _ => false)
    () (fun _ _ _ _ => ()) v
def flat (vs : List AV) : Bool := List.rec (motive := fun _ => Bool) true (fun v _ ih => Bool.rec (motive := fun _ => Bool) false ih (oneB v)) vs
/- the row takes a write: it is the one that stays -/
def writeCells (hp : Tr AO) (id : Pz) (off : Nat) (vs : List AV) (k : Tr AO → Rs) : Rs :=
  ifK (flat vs) (hp.getK id (.bad 17) fun o => selRow o (fun es n el c => elemK es n c off fun q r l => spliceK r vs l fun l => c.setK (natPz q) l fun c => hp.setK id (.arr es n el c) k)
      (fun f ep tip es n el c => liveK hp f ep fun solo =>
        elemK es n c off fun q r l => spliceK r vs l fun l => c.setK (natPz q) l fun c =>
          ifK solo (hp.setK id (.seg f ep tip es n el c) k)
            (natF (ep + 1) fun ep => hp.setK f (.fam ep true) fun hp => hp.setK id (.seg f ep tip es n el c) k))) (.bad 19)
def newObj (hp : Tr AO) (nx : Pz) (o : AO) (k : Pz → Tr AO → Pz → Rs) : Rs :=
  hp.setK nx o fun hp => nx.succK fun nx' => k nx hp nx'
def newArr (hp : Tr AO) (nx : Pz) (es n : Nat) (el : TypeId) (c : Tr (List AV)) (k : Pz → Tr AO → Pz → Rs) : Rs :=
  newObj hp nx (.arr es n el c) k
def one (l : List AV) : Tr (List AV) := .n .e (some l) .e
/- a list of elements, laid from place q on -/
def layK (ls : List (List AV)) : Nat → Tr (List AV) → (Tr (List AV) → Rs) → Rs :=
  List.rec (motive := fun _ => Nat → Tr (List AV) → (Tr (List AV) → Rs) → Rs) (fun _ c k => k c)
    (fun l _ ih q c k => c.setK (natPz q) l fun c => natF (q + 1) fun q => ih q c k) ls
/- n elements of size sz, from off on -/
def readElems (hp : Tr AO) (id : Pz) (sz : Nat) (n : Nat) : Nat → (List (List AV) → Rs) → Rs :=
  Nat.rec (motive := fun _ => Nat → (List (List AV) → Rs) → Rs) (fun _ k => k [])
    (fun _ ih off k => readCells hp id off sz fun l => natF (off + sz) fun off => ih off fun r => k (l :: r)) n
def writeElems (id : Pz) (sz : Nat) (ls : List (List AV)) : Nat → Tr AO → (Tr AO → Rs) → Rs :=
  List.rec (motive := fun _ => Nat → Tr AO → (Tr AO → Rs) → Rs) (fun _ hp k => k hp)
    (fun l _ ih off hp k => ifK (Nat.beq l.length sz) (writeCells hp id off l fun hp => natF (off + sz) fun off => ih off hp k) (.bad 9)) ls

/-! types -/
def szOf (P : Program) (t : TypeId) : Nat := ((P.info? t).map (·.size)).getD 0
def zeroOf (P : Program) (t : TypeId) : Option AV := match P.info? t with | some i => i.zero.bind (absV 8) | none => none
def aggT (P : Program) (t : TypeId) : Bool := match P.underlying t with | some (.struct _) | some (.array _ _) => true | _ => false

def knownT (P : Program) (t : TypeId) : Bool := (P.underlying t).isSome

/-! operands, operations -/
structure EvB where run : Tm → (AV → Rs) → Rs
def evB (x : Operand) : EvB :=
  match x with
  | .tmp t => ⟨(getS t).run⟩
  | .const v => match absV 8 v with
    | some a => ⟨fun _ k => k a⟩
    | none => ⟨fun _ _ => .bad 20⟩
  | .global _ => ⟨fun _ _ => .bad 21⟩
  | .func f => ⟨fun _ k => k (.func (.func f) [] [])⟩
def evsB (xs : List Operand) : Tm → (List AV → Rs) → Rs :=
  List.rec (motive := fun _ => Tm → (List AV → Rs) → Rs) (fun _ k => k []) (fun x _ ih tm k => (evB x).run tm fun v => ih tm fun vs => k (v :: vs)) xs

structure Cfg where
  prog : Program
/-- the calls: function, arguments, heap, next name, what follows -/
structure CallT where
  run : Nat → List AV → Tr AO → Pz → (AV → Tr AO → Pz → Rs) → Rs
  code : Nat → Nat → Code → Tm → Tr AO → Pz → (Ex → Tm → Tr AO → Pz → Rs) → Rs
structure OB where run : CallT → Tm → Tr AO → Pz → (AV → Tr AO → Pz → Rs) → Rs
def badB (n : Nat) : OB := ⟨fun _ _ _ _ _ => .bad n⟩
/- of operands alone -/
def pureB (f : Tm → (AV → Rs) → Rs) : OB := ⟨fun _ tm hp nx k => f tm fun v => k v hp nx⟩

/-! scalars: by the model's own words -/
def conc (v : AV) : Option Value :=
  match v with
  | .bool b => some (.bool b)
  | .int k n => some (.int k n)
  | .float k n => some (.float k n)
  | _ => none
def scal (s : Sem Value) (k : AV → Rs) : Rs :=
  match s with
  | .pure (.int kd n) => intF n fun n => k (.int kd n)
  | .pure (.bool b) => boolF b fun b => k (.bool b)
  | .pure (.float f b) => natF b fun b => k (.float f b)
  | _ => .bad 30
def wrapF (kd : IntKind) (z : Int) (k : Int → Rs) : Rs :=
  match kd with
  | .i64 => Int.rec (motive := fun _ => Rs) (fun m => ifK (Nat.ble m 9223372036854775807) (natF m fun m => k (.ofNat m)) (intF (IntKind.i64.wrap z) k))
      (fun m => ifK (Nat.ble m 9223372036854775807) (natF m fun m => k (.negSucc m)) (intF (IntKind.i64.wrap z) k)) z
  | kd => intF (kd.wrap z) k
def intOp (op : BinOp) (t : TypeId) (kd : IntKind) (a : Int) (kd' : IntKind) (b : Int) (k : AV → Rs) : Rs :=
  match op with
  | .add => ifK (decide (kd = kd')) (wrapF kd (Int.add a b) fun z => k (.int kd z)) (.bad 31)
  | .sub => ifK (decide (kd = kd')) (wrapF kd (Int.sub a b) fun z => k (.int kd z)) (.bad 31)
  | .eql => ifK (decide (kd = kd')) (boolF (a == b) fun b => k (.bool b)) (.bad 31)
  | .neq => ifK (decide (kd = kd')) (boolF (a != b) fun b => k (.bool b)) (.bad 31)
  | .lss => ifK (decide (kd = kd')) (boolF (decide (a < b)) fun b => k (.bool b)) (.bad 31)
  | .leq => ifK (decide (kd = kd')) (boolF (decide (a ≤ b)) fun b => k (.bool b)) (.bad 31)
  | .gtr => ifK (decide (kd = kd')) (boolF (decide (a > b)) fun b => k (.bool b)) (.bad 31)
  | .geq => ifK (decide (kd = kd')) (boolF (decide (a ≥ b)) fun b => k (.bool b)) (.bad 31)
  | op => scal (binOp op t (.int kd a) (.int kd' b)) k
def pow8 (n : Nat) : Nat := Nat.shiftLeft 1 (8 * n)
def strNorm (len n : Nat) : Nat := Nat.mod n (pow8 len)
def strEq (l m l' m' : Nat) : Bool := Nat.beq l l' && Nat.beq (strNorm l m) (strNorm l' m')
def strOp (op : BinOp) (l m l' m' : Nat) (k : AV → Rs) : Rs :=
  match op with
  | .add => natF (l + l') fun n => ifK (Nat.ble n 4294967296) (natF (m * pow8 l' + strNorm l' m') fun x => k (.str n x)) (.bad 32)
  | .eql => boolF (strEq l m l' m') fun b => k (.bool b)
  | .neq => boolF (!strEq l m l' m') fun b => k (.bool b)
  | _ => .bad 33
/- '==' of two values at a type -/
def eqvF (P : Program) : Nat → TypeId → AV → AV → (Bool → Rs) → Rs
  | 0, _, _, _, _ => .bad 34
  | d + 1, t, x, y, k =>
    match P.underlying t, x, y with
    | some .bool, .bool a, .bool b => boolF (a == b) k
    | some (.int _), .int ka a, .int kb b => ifK (decide (ka = kb)) (boolF (a == b) k) (.bad 35)
    | some .string, .str l m, .str l' m' => boolF (strEq l m l' m') k
    | some (.pointer _), .nilp, .nilp => k true
    | some (.pointer _), .nilp, .ptr _ _ => k false
    | some (.pointer _), .ptr _ _, .nilp => k false
    | some (.slice _), .nils, .nils => k true
    | some (.slice _), .nils, .slice _ _ _ _ => k false
    | some (.slice _), .nils, .oslice _ _ _ _ => k false
    | some (.slice _), .slice _ _ _ _, .nils => k false
    | some (.slice _), .oslice _ _ _ _, .nils => k false
    | some (.map _ _), .nilmap, .nilmap => k true
    | some (.map _ _), .nilmap, .map _ => k false
    | some (.map _ _), .map _, .nilmap => k false
    | some (.func _ _ _), .nilfunc, .nilfunc => k true
    | some (.func _ _ _), .nilfunc, .func _ _ _ => k false
    | some (.func _ _ _), .func _ _ _, .nilfunc => k false
    | some (.struct fields), .agg xs, .agg ys =>
      ifK (P.stoodInHeld t) (.bad 36)
        (List.rec (motive := fun _ => (Bool → Rs) → Rs) (fun k => k true)
          (fun f _ ih k => ifK (f.name == "_") (ih k)
            (dropK f.offset xs fun a => dropK f.offset ys fun b => natF (szOf P f.type) fun sz => takeK sz a fun a => takeK sz b fun b =>
              ifK (aggT P f.type) (eqvF P d f.type (.agg a) (.agg b) fun e => ifK e (ih k) (k false))
                (nthK 0 a fun a => nthK 0 b fun b => eqvF P d f.type a b fun e => ifK e (ih k) (k false)))) fields.toList k)
    | _, _, _ => .bad 37
def binK (P : Program) (op : BinOp) (t : TypeId) (x y : AV) (k : AV → Rs) : Rs :=
  match x, y with
  | .int kd a, .int kd' b => intOp op t kd a kd' b k
  | .str l m, .str l' m' => strOp op l m l' m' k
  | .float _ _, _ => .bad 38
  | x, y => match op with
    | .eql => eqvF P 9 t x y fun b => k (.bool b)
    | .neq => eqvF P 9 t x y fun b => boolF (!b) fun b => k (.bool b)
    | _ => .bad 39
def isEq (op : BinOp) : Bool := match op with | .eql | .neq => true | _ => false
/- the guard of the model's '==' at interfaces: no interface value in what is compared -/
def eqOkT (P : Program) (op : BinOp) (t : TypeId) : Bool := !isEq op || !P.eqGuardType P.depth t

def kindEq (a : IntKind) : IntKind → Bool :=
  IntKind.rec (motive := fun _ => IntKind → Bool)
    (fun b => IntKind.rec (motive := fun _ => Bool) true false false false false false false false b)
    (fun b => IntKind.rec (motive := fun _ => Bool) false true false false false false false false b)
    (fun b => IntKind.rec (motive := fun _ => Bool) false false true false false false false false b)
    (fun b => IntKind.rec (motive := fun _ => Bool) false false false true false false false false b)
    (fun b => IntKind.rec (motive := fun _ => Bool) false false false false true false false false b)
    (fun b => IntKind.rec (motive := fun _ => Bool) false false false false false true false false b)
    (fun b => IntKind.rec (motive := fun _ => Bool) false false false false false false true false b)
    (fun b => IntKind.rec (motive := fun _ => Bool) false false false false false false false true b) a
def wrapS (mx : Nat) (kd : IntKind) (z : Int) (k : Int → Rs) : Rs :=
  Int.rec (motive := fun _ => Rs) (fun m => ifK (Nat.ble m mx) (natF m fun m => k (.ofNat m)) (intF (kd.wrap (.ofNat m)) k))
    (fun m => ifK (Nat.ble m mx) (natF m fun m => k (.negSucc m)) (intF (kd.wrap (.negSucc m)) k)) z
def wrapU (mx : Nat) (kd : IntKind) (z : Int) (k : Int → Rs) : Rs :=
  Int.rec (motive := fun _ => Rs) (fun m => ifK (Nat.ble m mx) (natF m fun m => k (.ofNat m)) (intF (kd.wrap (.ofNat m)) k))
    (fun m => intF (kd.wrap (.negSucc m)) k) z
def wrapC (kd : IntKind) : Int → (Int → Rs) → Rs :=
  IntKind.rec (motive := fun _ => Int → (Int → Rs) → Rs) (wrapS 127 .i8) (wrapS 32767 .i16) (wrapS 2147483647 .i32) (wrapS 9223372036854775807 .i64) (wrapU 255 .u8) (wrapU 65535 .u16) (wrapU 4294967295 .u32) (wrapU 18446744073709551615 .u64) kd
def addK (a : Int) : Int → (Int → Rs) → Rs :=
  Int.rec (motive := fun _ => Int → (Int → Rs) → Rs)
    (fun m b k => Int.rec (motive := fun _ => Rs) (fun n => natF (Nat.add m n) fun s => k (.ofNat s)) (fun n => intF (Int.add (.ofNat m) (.negSucc n)) k) b)
    (fun m b k => intF (Int.add (.negSucc m) b) k) a
def subK (a : Int) : Int → (Int → Rs) → Rs :=
  Int.rec (motive := fun _ => Int → (Int → Rs) → Rs)
    (fun m b k => Int.rec (motive := fun _ => Rs) (fun n => ifK (Nat.ble n m) (natF (Nat.sub m n) fun s => k (.ofNat s)) (intF (Int.sub (.ofNat m) (.ofNat n)) k)) (fun n => intF (Int.sub (.ofNat m) (.negSucc n)) k) b)
    (fun m b k => intF (Int.sub (.negSucc m) b) k) a
def ltK (a : Int) : Int → (Bool → Rs) → Rs :=
  Int.rec (motive := fun _ => Int → (Bool → Rs) → Rs)
    (fun m b k => Int.rec (motive := fun _ => Rs) (fun n => boolF (Nat.ble (Nat.succ m) n) k) (fun n => boolF (decide (Int.ofNat m < .negSucc n)) k) b)
    (fun m b k => boolF (decide (Int.negSucc m < b)) k) a
def leK (a : Int) : Int → (Bool → Rs) → Rs :=
  Int.rec (motive := fun _ => Int → (Bool → Rs) → Rs)
    (fun m b k => Int.rec (motive := fun _ => Rs) (fun n => boolF (Nat.ble m n) k) (fun n => boolF (decide (Int.ofNat m ≤ .negSucc n)) k) b)
    (fun m b k => boolF (decide (Int.negSucc m ≤ b)) k) a
def eqK (a : Int) : Int → (Bool → Rs) → Rs :=
  Int.rec (motive := fun _ => Int → (Bool → Rs) → Rs)
    (fun m b k => Int.rec (motive := fun _ => Rs) (fun n => boolF (Nat.beq m n) k) (fun n => k false) b)
    (fun m b k => Int.rec (motive := fun _ => Rs) (fun n => k false) (fun n => boolF (Nat.beq m n) k) b) a
def strEqK (l m l' m' : Nat) (k : Bool → Rs) : Rs := ifK (Nat.beq l l') (boolF (Nat.beq (strNorm l m) (strNorm l' m')) k) (k false)
structure BinC where run : AV → AV → (AV → Rs) → Rs
def notK (k : AV → Rs) (b : Bool) : Rs := Bool.rec (motive := fun _ => Rs) (k (.bool true)) (k (.bool false)) b
/- an operator, laid out ahead -/
def binS (P : Program) (op : BinOp) (t : TypeId) : BinC :=
  match op with
  | .add => ⟨fun x y k => selNum x (.bad 39) (fun kd a => asInt y fun kd' b => ifK (kindEq kd kd') (addK a b fun z => wrapC kd z fun z => k (.int kd z)) (.bad 31)) fun l m => selStr y (.bad 39) fun l' m' => strOp .add l m l' m' k⟩
  | .sub => ⟨fun x y k => asInt x fun kd a => asInt y fun kd' b => ifK (kindEq kd kd') (subK a b fun z => wrapC kd z fun z => k (.int kd z)) (.bad 31)⟩
  | .lss => ⟨fun x y k => asInt x fun kd a => asInt y fun kd' b => ifK (kindEq kd kd') (ltK a b fun b => k (.bool b)) (.bad 31)⟩
  | .gtr => ⟨fun x y k => asInt x fun kd a => asInt y fun kd' b => ifK (kindEq kd kd') (ltK b a fun b => k (.bool b)) (.bad 31)⟩
  | .leq => ⟨fun x y k => asInt x fun kd a => asInt y fun kd' b => ifK (kindEq kd kd') (leK a b fun b => k (.bool b)) (.bad 31)⟩
  | .geq => ⟨fun x y k => asInt x fun kd a => asInt y fun kd' b => ifK (kindEq kd kd') (leK b a fun b => k (.bool b)) (.bad 31)⟩
  | .eql => ⟨fun x y k => selNum x (binK P .eql t x y k) (fun kd a => asInt y fun kd' b => ifK (kindEq kd kd') (eqK a b fun b => k (.bool b)) (.bad 31)) fun l m => selStr y (.bad 39) fun l' m' => strEqK l m l' m' fun b => k (.bool b)⟩
  | .neq => ⟨fun x y k => selNum x (binK P .neq t x y k) (fun kd a => asInt y fun kd' b => ifK (kindEq kd kd') (eqK a b (notK k)) (.bad 31)) fun l m => selStr y (.bad 39) fun l' m' => strEqK l m l' m' (notK k)⟩
  | op => ⟨fun x y k => binK P op t x y k⟩

def fieldOff (P : Program) (t : TypeId) (f : Nat) : Option (Nat × TypeId) :=
  match P.underlying t with
  | some (.struct fs) => (fs[f]?).map fun f => (f.offset, f.type)
  | _ => none

def fillK (place : Nat → Option (Nat × Nat)) (ps : List (Nat × Operand)) : Tm → List AV → (List AV → Rs) → Rs :=
  List.rec (motive := fun _ => Tm → List AV → (List AV → Rs) → Rs) (fun _ cs k => k cs)
    (fun p _ ih tm cs k => match place p.1 with
      | none => .bad 40
      | some (off, size) => (evB p.2).run tm fun v => ifK (Nat.beq v.cells.length size) (spliceK off v.cells cs fun cs => ih tm cs k) (.bad 41)) ps
def repl (n : Nat) (l : List AV) : List AV := Nat.rec (motive := fun _ => List AV) [] (fun _ ih => l ++ ih) n
def chunkK (sz : Nat) (n : Nat) : List AV → Nat → Tr (List AV) → (Tr (List AV) → Rs) → Rs :=
  Nat.rec (motive := fun _ => List AV → Nat → Tr (List AV) → (Tr (List AV) → Rs) → Rs) (fun _ _ c k => k c)
    (fun _ ih cs q c k => takeK sz cs fun l => dropK sz cs fun r => c.setK (natPz q) l fun c => natF (q + 1) fun q => ih r q c k) n
def fullK (n : Nat) (l : List AV) : Nat → Tr (List AV) → (Tr (List AV) → Rs) → Rs :=
  Nat.rec (motive := fun _ => Nat → Tr (List AV) → (Tr (List AV) → Rs) → Rs) (fun _ c k => k c)
    (fun _ ih q c k => c.setK (natPz q) l fun c => natF (q + 1) fun q => ih q c k) n

/- x[l:h] of a slice whose capacity is known, or not -/
def optNat (x : Option EvB) (tm : Tm) (d : Nat) (k : Nat → Rs) : Rs :=
  match x with
  | none => k d
  | some e => e.run tm fun v => asNat v k
def sliceK (P : Program) (t : TypeId) (x : EvB) (lo hi mx : Option EvB) : OB :=
  match P.underlying t with
  | some .string => match mx with
    | none => ⟨fun _ tm hp nx k => x.run tm fun v => selStr v (.bad 51) fun len n => optNat hi tm len fun h => optNat lo tm 0 fun l => ifK (Nat.ble l h && Nat.ble h len) (natF (Nat.sub h l) fun ln => natF (Nat.div n (pow8 (Nat.sub len h))) fun m => k (.str ln m) hp nx) (.bad 50)⟩
    | some _ => badB 52
  | some (.slice el) => match P.info? el, mx with
    | none, _ => badB 62
    | some _, some _ => badB 49
    | some _, none => ⟨fun _ tm hp nx k => x.run tm fun v => match v with
      | .slice id off len cap => optNat hi tm len fun h => optNat lo tm 0 fun l =>
          ifK (Nat.ble l h && Nat.ble h cap)
            (natF (Nat.sub h l) fun ln => natF (Nat.sub cap l) fun c => ifK (Nat.beq cap l) (k (.slice id off ln c) hp nx) (natF (off + l * szOf P el) fun off => k (.slice id off ln c) hp nx)) (.bad 53)
      | .oslice id off len skip => optNat hi tm len fun h => optNat lo tm 0 fun l =>
          hp.getK id (.bad 55) fun o => match o with
          | .seg f ep tip es n el' c => liveK hp f ep fun _ => ifK (Nat.ble l h && Nat.ble (skip + h) n)
            (ifK (Nat.beq l 0 && Nat.blt 0 h) (k (.oslice id off h skip) hp nx)
              (ifK (Nat.blt (skip + l) n) (natF (Nat.sub h l) fun ln => natF (off + l * szOf P el) fun off => natF (skip + l) fun skip => k (.oslice id off ln skip) hp nx)
                (ifK (Nat.beq es (szOf P el) && Nat.beq off (skip * es))
                    (hp.setK f (.fam ep false) fun hp => hp.setK id (.seg f ep false es n el' c) fun hp =>
                      newObj hp nx (.seg f ep tip es 0 el' .e) fun id hp nx => k (.oslice id 0 0 0) hp nx) (.bad 56)))) (.bad 58)
          | _ => .bad 57
      | .nils => optNat hi tm 0 fun h => optNat lo tm 0 fun l => ifK (Nat.beq h 0 && Nat.beq l 0) (k .nils hp nx) (.bad 59)
      | _ => .bad 60⟩
  | _ => badB 61

/- append -/
def grow (hp : Tr AO) (nx : Pz) (el : TypeId) (sz : Nat) (ls : List (List AV)) (k : AV → Tr AO → Pz → Rs) : Rs :=
  natF ls.length fun n => layK ls 0 .e fun c =>
    newObj hp nx (.fam 0 true) fun f hp nx => newObj hp nx (.seg f 0 true sz n el c) fun id hp nx => k (.oslice id 0 n 0) hp nx
def growOn (hp : Tr AO) (nx : Pz) (el : TypeId) (sz : Nat) (c0 : Tr (List AV)) (len : Nat) (ls : List (List AV)) (k : AV → Tr AO → Pz → Rs) : Rs :=
  natF (len + ls.length) fun n => layK ls len c0 fun c =>
    newObj hp nx (.fam 0 true) fun f hp nx => newObj hp nx (.seg f 0 true sz n el c) fun id hp nx => k (.oslice id 0 n 0) hp nx
/- the row 'id' is cut to n0 elements; its child bears c' -/
def tailK (hp : Tr AO) (nx id f : Pz) (ep : Nat) (tip : Bool) (es need n0 : Nat) (el : TypeId) (c c' : Tr (List AV)) (k : AV → Tr AO → Pz → Rs) : Rs :=
  natF (Bool.rec (motive := fun _ => Nat) (ep + 1) ep tip) fun ep => natF n0 fun n0 =>
    hp.setK f (.fam ep false) fun hp => hp.setK id (.seg f ep false es n0 el c) fun hp =>
      newObj hp nx (.seg f ep true es need el c') fun id hp nx => k (.oslice id 0 need 0) hp nx
def smallRow (n sz : Nat) : Bool := Nat.ble n 1000000 && Nat.ble sz 10000
def evenK (sz : Nat) (ls : List (List AV)) : Bool := List.rec (motive := fun _ => Bool) true (fun l _ ih => Bool.rec (motive := fun _ => Bool) false ih (Nat.beq l.length sz && flat l)) ls
def appendK (hp : Tr AO) (nx : Pz) (el : TypeId) (sz : Nat) (s : AV) (ls : List (List AV)) (k : AV → Tr AO → Pz → Rs) : Rs :=
  ifK (evenK sz ls) (natF ls.length fun m => match s with
  | .nils => ifK (Nat.beq m 0) (k .nils hp nx) (ifK (smallRow m sz) (grow hp nx el sz ls k) (.bad 70))
  | .slice id off len cap => natF (len + m) fun need =>
      ifK (Nat.ble need cap) (writeElems id sz ls (off + len * sz) hp fun hp => k (.slice id off need cap) hp nx)
        (ifK (smallRow need sz) (rowK hp id fun es n c =>
          ifK (Nat.beq off 0 && (Nat.beq es sz && Nat.ble len n)) (growOn hp nx el sz c len ls k)
            (readElems hp id sz len off fun old => grow hp nx el sz (old ++ ls) k)) (.bad 71))
  | .oslice id off len skip => natF (len + m) fun need => hp.getK id (.bad 72) fun o => match o with
      | .seg f ep tip es n el' c => ifK (smallRow need sz && (Nat.beq es sz && (Nat.beq off (skip * es) && (Nat.ble (skip + len) n && Nat.beq el' el))))
          (liveK hp f ep fun _ => ifK (Nat.ble (skip + need) n) (writeElems id sz ls (off + len * sz) hp fun hp => k (.oslice id off need skip) hp nx)
              (ifK (Nat.beq skip 0) (layK ls len c fun c' => tailK hp nx id f ep (tip && Nat.beq (skip + len) n) es need (skip + len) el' c c' k)
                (readElems hp id sz len off fun old => layK (old ++ ls) 0 .e fun c' => tailK hp nx id f ep (tip && Nat.beq (skip + len) n) es need (skip + len) el' c c' k))) (.bad 74)
      | _ => .bad 75
  | _ => .bad 76) (.bad 77)
end
end Go.Rex
namespace Go.Rex
set_option linter.unusedVariables false
noncomputable section

def lenK (P : Program) (t : TypeId) (hp : Tr AO) (v : AV) (k : Nat → Rs) : Rs :=
  match P.underlying t, v with
  | some .string, .str l _ => k l
  | some (.array n _), _ => k n
  | some (.slice _), .slice _ _ n _ => k n
  | some (.slice _), .oslice _ _ n _ => k n
  | some (.slice _), .nils => k 0
  | some (.map _ _), .nilmap => k 0
  | some (.map _ _), .map id => hp.getK id (.bad 80) fun o => match o with
    | .map es _ => k es.length
    | _ => .bad 81
  | _, _ => .bad 82
structure LenC where run : Tr AO → AV → (Nat → Rs) → Rs
def lenS (P : Program) (t : TypeId) : LenC :=
  match P.underlying t with
  | some .string => ⟨fun _ v k => selStr v (.bad 82) fun l _ => k l⟩
  | some (.slice _) => ⟨fun _ v k => selSl v (.bad 82) (k 0) (fun _ _ n _ => k n) fun _ _ n _ => k n⟩
  | _ => ⟨fun hp v k => lenK P t hp v k⟩
/- the bytes of a string, as elements -/
def strElems (len : Nat) (n : Nat) : List (List AV) → (List (List AV) → Rs) → Rs :=
  Nat.rec (motive := fun _ => Nat → List (List AV) → (List (List AV) → Rs) → Rs) (fun _ acc k => k acc)
    (fun _ ih n acc k => natF (Nat.mod n 256) fun b => natF (Nat.div n 256) fun n => ih n ([.int .u8 (.ofNat b)] :: acc) k) len n
def elemsOf (hp : Tr AO) (sz : Nat) (v : AV) (k : List (List AV) → Rs) : Rs :=
  match v with
  | .nils => k []
  | .slice id off len _ => readElems hp id sz len off k
  | .oslice id off len _ => readElems hp id sz len off k
  | .str l n => ifK (Nat.beq sz 1) (strElems l n [] k) (.bad 83)
  | _ => .bad 84
def bytesStr (ls : List (List AV)) : Nat → (Nat → Rs) → Rs :=
  List.rec (motive := fun _ => Nat → (Nat → Rs) → Rs) (fun n k => k n)
    (fun l _ ih n k => nthK 0 l fun v => match v with | .int .u8 (.ofNat b) => ifK (Nat.blt b 256) (natF (n * 256 + b) fun n => ih n k) (.bad 85) | _ => .bad 85) ls
def convB (P : Program) (src dst : TypeId) (x : EvB) : OB :=
  match P.underlying src, P.underlying dst with
  | some (.int _), some (.int kd) => pureB fun tm k => x.run tm fun v => asInt v fun _ n => wrapC kd n fun n => k (.int kd n)
  | some .string, some .string => pureB fun tm k => x.run tm fun v => match v with | .str l n => k (.str l n) | _ => .bad 90
  | some .string, some (.slice e) => match P.underlying e with
    | some (.int .u8) => ⟨fun _ tm hp nx k => x.run tm fun v => match v with
      | .str l n => strElems l n [] fun ls => ifK (smallRow l 1) (grow hp nx e 1 ls k) (.bad 91)
      | _ => .bad 92⟩
    | _ => badB 95
  | some (.slice _), some (.slice e) => match P.underlying e with
    | some (.int .u8) => ⟨fun _ tm hp nx k => x.run tm fun v => match v with
      | .slice id off len cap => ifK (Nat.beq src dst) (hp.getK id (.bad 230) fun o => match o with
        | .arr _ _ _ _ => k (.slice id off len cap) hp nx
        | _ => .bad 231) (.bad 232)
      | _ => .bad 233⟩
    | _ => badB 234
  | some (.slice e), some .string => match P.underlying e with
    | some (.int .u8) => ⟨fun _ tm hp nx k => x.run tm fun v => match v with
      | .str _ _ => .bad 98
      | v => elemsOf hp 1 v fun ls => natF ls.length fun l => bytesStr ls 0 fun n => k (.str l n) hp nx⟩
    | _ => badB 96
  | _, _ => badB 97

/-! maps -/
def findE (P : Program) (t : TypeId) (k : AV) (es : List ME) : Nat → Rs → (Nat → ME → Rs) → Rs :=
  List.rec (motive := fun _ => Nat → Rs → (Nat → ME → Rs) → Rs) (fun _ z _ => z)
    (fun e _ ih i z kk => eqvF P 9 t k e.key fun b => ifK b (kk i e) (natF (i + 1) fun i => ih i z kk)) es
/- a key that can be looked up without a panic -/
def keyF (P : Program) : Nat → TypeId → AV → Bool
  | 0, _, _ => false
  | d + 1, t, v => match P.underlying t with
    | some .bool | some (.int _) | some .string => true
    | some (.struct fs) => match v with
      | .agg cs => fs.toList.all fun f => match aggT P f.type with
        | true => keyF P d f.type (.agg ((cs.drop f.offset).take (szOf P f.type)))
        | false => match cs[f.offset]? with
          | some v => keyF P d f.type v
          | none => false
      | _ => false
    | _ => false
def keyChk (P : Program) (t : TypeId) (v : AV) (r : Rs) : Rs :=
  match P.underlying t with
  | some .bool | some (.int _) | some .string => r
  | some (.struct _) => ifK (keyF P 4 t v) r (.bad 220)
  | _ => .bad 222
/- two keys of the same bits -/
def bits1 (a b : AV) : Bool :=
  match a, b with
  | .bool a, .bool b => a == b
  | .int j a, .int k b => decide (j = k) && a == b
  | .str l m, .str l' m' => strEq l m l' m'
  | _, _ => false
def bitsL : List AV → List AV → Bool
  | [], [] => true
  | a :: as, b :: bs => bits1 a b && bitsL as bs
  | _, _ => false
def bitsF (a b : AV) : Bool :=
  match a, b with
  | .agg xs, .agg ys => bitsL xs ys
  | a, b => bits1 a b
def setValK (v : AV) (i : Nat) : List ME → (List ME → Rs) → Rs :=
  Nat.rec (motive := fun _ => List ME → (List ME → Rs) → Rs) (fun l k => List.rec (motive := fun _ => Rs) (.bad 100) (fun e t _ => k (⟨e.key, v, e.born⟩ :: t)) l)
    (fun _ ih l k => List.rec (motive := fun _ => Rs) (.bad 100) (fun e t _ => ih t fun t => k (e :: t)) l) i
def snocK (e : ME) (l : List ME) : (List ME → Rs) → Rs :=
  List.rec (motive := fun _ => (List ME → Rs) → Rs) (fun k => k [e]) (fun x _ ih k => ih fun t => k (x :: t)) l
def dropE (i : Nat) : List ME → (List ME → Rs) → Rs :=
  Nat.rec (motive := fun _ => List ME → (List ME → Rs) → Rs) (fun l k => List.rec (motive := fun _ => Rs) (.bad 101) (fun _ t _ => k t) l)
    (fun _ ih l k => List.rec (motive := fun _ => Rs) (.bad 101) (fun e t _ => ih t fun t => k (e :: t)) l) i
def mapK (hp : Tr AO) (v : AV) (k : Pz → List ME → Nat → Rs) : Rs :=
  selMp v (.bad 104) (.bad 104) fun id => hp.getK id (.bad 102) fun o => selMap o fun es c => k id es c
def lookupB (P : Program) (t : TypeId) (m i : EvB) (ok : Bool) : OB :=
  match P.underlying t with
  | some (.map kt et) => match zeroOf P et with
    | some z =>
      let out (v : AV) (b : Bool) (k : AV → Rs) : Rs := Bool.rec (motive := fun _ => Rs) (k v) (k (.tup [v, .bool b])) ok
      ⟨fun _ tm hp nx k => m.run tm fun m => i.run tm fun i => keyChk P kt i (match m with
        | .nilmap => out z false fun v => k v hp nx
        | m => mapK hp m fun _ es _ => findE P kt i es 0 (out z false fun v => k v hp nx) fun _ e => out e.val true fun v => k v hp nx)⟩
    | none => badB 105
  | _ => badB 106
def updateB (P : Program) (t : TypeId) (m i x : EvB) : OB :=
  match P.underlying t with
  | some (.map kt _) => ⟨fun _ tm hp nx k => m.run tm fun m => i.run tm fun i => x.run tm fun x => keyChk P kt i (mapK hp m fun id es c =>
        findE P kt i es 0 (snocK ⟨i, x, c⟩ es fun es => natF (c + 1) fun c => hp.setK id (.map es c) fun hp => k undefA hp nx)
          fun j e => ifK (bitsF e.key i) (setValK x j es fun es => hp.setK id (.map es c) fun hp => k undefA hp nx) (.bad 107))⟩
  | _ => badB 108
def entryB (P : Program) (t : TypeId) (m i : EvB) : OB :=
  match P.underlying t with
  | some (.map kt et) => match zeroOf P et with
    | some z => ⟨fun _ tm hp nx k => m.run tm fun m => i.run tm fun i => keyChk P kt i (mapK hp m fun id es c =>
        findE P kt i es 0 (snocK ⟨i, z, c⟩ es fun es => natF (c + 1) fun c' => hp.setK id (.map es c') fun hp => k (.tup [z, .int .i64 (.ofNat c)]) hp nx)
          fun _ e => ifK (bitsF e.key i) (hp.setK id (.map es c) fun hp => k (.tup [e.val, .int .i64 (.ofNat e.born)]) hp nx) (.bad 107))⟩
    | none => badB 109
  | _ => badB 110
def bornE (b : Nat) (es : List ME) : Nat → (Nat → Rs) → Rs :=
  List.rec (motive := fun _ => Nat → (Nat → Rs) → Rs) (fun _ _ => .bad 111) (fun e _ ih i k => ifK (Nat.beq e.born b) (k i) (natF (i + 1) fun i => ih i k)) es
def entryStoreB (m s x : EvB) : OB :=
  ⟨fun _ tm hp nx k => m.run tm fun m => s.run tm fun s => x.run tm fun x => mapK hp m fun id es c => asNat s fun b =>
    bornE b es 0 fun j => setValK x j es fun es => hp.setK id (.map es c) fun hp => k undefA hp nx⟩
def deleteB (P : Program) (t : TypeId) (m i : EvB) : OB :=
  match P.underlying t with
  | some (.map kt _) => ⟨fun _ tm hp nx k => m.run tm fun m => i.run tm fun i => keyChk P kt i (match m with
        | .nilmap => k undefA hp nx
        | m => mapK hp m fun id es c => findE P kt i es 0 (hp.setK id (.map es c) fun hp => k undefA hp nx) fun j _ => dropE j es fun es => hp.setK id (.map es c) fun hp => k undefA hp nx)⟩
  | _ => badB 113

/-! a range over a map: whichever entry comes next -/
def andK (a b : Rs) : Rs := Rs.rec (motive := fun _ => Rs) b (fun n => .bad n) a
def inK (b : Nat) (l : List Nat) : Bool := List.rec (motive := fun _ => Bool) false (fun x _ ih => Bool.rec (motive := fun _ => Bool) ih true (Nat.beq x b)) l
def eachLeft (seen : List Nat) (es : List ME) (z : Rs) (k : ME → Rs) : Bool → Rs :=
  List.rec (motive := fun _ => Bool → Rs) (fun some => Bool.rec (motive := fun _ => Rs) z .ok some)
    (fun e _ ih some => Bool.rec (motive := fun _ => Rs) (andK (k e) (ih true)) (ih some) (inK e.born seen)) es
def oldK (since : Nat) (es : List ME) : Bool := List.rec (motive := fun _ => Bool) true (fun e _ ih => Bool.rec (motive := fun _ => Bool) false ih (Nat.blt e.born since)) es
def rangeB (P : Program) (t : TypeId) (x : EvB) : OB :=
  match P.underlying t with
  | some (.map _ _) => ⟨fun _ tm hp nx k => x.run tm fun v => selMp v (.bad 261) (.bad 262) fun m => hp.getK m (.bad 263) fun o => selMap o fun es c => newObj hp nx (.iter m c [] c) fun id hp nx => k (.ptr id 0) hp nx⟩
  | _ => badB 264
def nextB (it : EvB) : OB :=
  ⟨fun _ tm hp nx k => it.run tm fun v => asPtr v fun id off => ifK (Nat.beq off 0) (hp.getK id (.bad 265) fun o => selIter o fun m since seen at' => hp.getK m (.bad 266) fun o => selMap o fun es c =>
    ifK (oldK since es && Nat.ble since at') (eachLeft seen es (k (.tup [.bool false]) hp nx) (fun e => hp.setK id (.iter m since (e.born :: seen) c) fun hp => k (.tup [.bool true, e.key, e.val]) hp nx) false) (.bad 267)) (.bad 268)⟩
def bornF (b : Nat) (es : List ME) : (ME → Rs) → Rs :=
  List.rec (motive := fun _ => (ME → Rs) → Rs) (fun _ => .bad 269) (fun e _ ih k => ifK (Nat.beq e.born b) (k e) (ih k)) es
def entryAtB (it : EvB) : OB :=
  ⟨fun _ tm hp nx k => it.run tm fun v => asPtr v fun id off => ifK (Nat.beq off 0) (hp.getK id (.bad 265) fun o => selIter o fun m since seen at' => hp.getK m (.bad 266) fun o => selMap o fun es c =>
    ifK (Nat.beq c at') (List.rec (motive := fun _ => Rs) (.bad 270) (fun b _ _ => bornF b es fun e => k (.tup [e.key, e.val]) hp nx) seen) (.bad 271)) (.bad 268)⟩
def minK (mx : Bool) (v y : AV) (k : AV → Rs) : Rs :=
  asInt v fun ka a => asInt y fun kb b => ifK (decide (ka = kb)) (ifK (Bool.rec (motive := fun _ => Bool) (decide (b < a)) (decide (b > a)) mx) (k (.int ka b)) (k (.int ka a))) (.bad 114)
def builtinB (P : Program) (b : Builtin) (ats : List TypeId) (args : List Operand) : OB :=
  match b, ats, args with
  | .len, t :: _, [x] => ⟨fun _ tm hp nx k => (evB x).run tm fun v => (lenS P t).run hp v fun n => k (.int .i64 (.ofNat n)) hp nx⟩
  | .append, [ts, tx], [s, x] => match P.underlying ts, P.underlying tx with
    | some (.slice _), some (.int _) => badB 117
    | some (.slice e), some _ => match zeroOf P e with
      | some z => match Nat.ble (P.bytesOf e) 1000000 && (Nat.beq z.cells.length (szOf P e) && Nat.blt 0 (szOf P e)) with
        | true => ⟨fun _ tm hp nx k => (evB s).run tm fun s => (evB x).run tm fun x => elemsOf hp (szOf P e) x fun ls => appendK hp nx e (szOf P e) s ls k⟩
        | false => badB 204
      | none => badB 205
    | _, _ => badB 118
  | .min, _, [x, y] => pureB fun tm k => (evB x).run tm fun a => (evB y).run tm fun b => minK false a b k
  | .max, _, [x, y] => pureB fun tm k => (evB x).run tm fun a => (evB y).run tm fun b => minK true a b k
  | .delete, t :: _, [m, i] => deleteB P t (evB m) (evB i)
  | _, _, _ => badB 121

def catL (a : List AV) (b : List AV) : List AV := List.rec (motive := fun _ => List AV) b (fun x _ ih => x :: ih) a
/-! a loop over a function: its rounds -/
def pzNum (p : Pz) : Nat := Pz.rec (motive := fun _ => Nat) 1 (fun _ ih => Nat.mul 2 ih) (fun _ ih => Nat.succ (Nat.mul 2 ih)) p
def noRF : Code → Bool
  | .seq a b => noRF a && noRF b
  | .cond _ a b => noRF a && noRF b
  | .block _ b => noRF b
  | .loop b => noRF b
  | .scope b => noRF b
  | .rangeFunc _ _ _ _ => false
  | _ => true
def paramsK (nt : Nat) (ps : List Tmp) : List AV → Tm → (Tm → Rs) → Rs :=
  List.rec (motive := fun _ => List AV → Tm → (Tm → Rs) → Rs) (fun vs tm k => List.rec (motive := fun _ => Rs) (k tm) (fun _ _ _ => .bad 285) vs)
    (fun p _ ih vs tm k => List.rec (motive := fun _ => Rs) (.bad 285) (fun v vs _ => ifK (Nat.blt p nt) ((setS p).run tm v fun tm => ih vs tm k) (.bad 286)) vs) ps
def loopSet (id : Pz) (st : LS) (hp : Tr AO) (k : Tr AO → Rs) : Rs :=
  hp.getK id (.bad 284) fun o => selLoop o fun f nt tm ps x y _ => hp.setK id (.loop f nt tm ps x y st) k
def isReady (st : LS) (r : Rs) : Rs := LS.rec (motive := fun _ => Rs) r (.bad 287) (fun _ => .bad 287) st
def yieldB (call : CallT) (j : Nat) (args : List AV) (hp : Tr AO) (nx : Pz) (k : AV → Tr AO → Pz → Rs) : Rs :=
  hp.getK (natPz (Nat.pred j)) (.bad 284) fun o => selLoop o fun f nt tm ps x y st => ifK (noRF x && noRF y) (paramsK nt ps.toList args tm fun tm =>
    call.code f nt x tm hp nx fun e tm hp nx => Ex.rec (motive := fun _ => Rs)
      (hp.getK (natPz (Nat.pred j)) (.bad 284) fun o => selLoop o fun _ _ _ _ _ _ st => isReady st (loopSet (natPz (Nat.pred j)) .busy hp fun hp =>
        call.code f nt y tm hp nx fun e _ hp nx => Ex.rec (motive := fun _ => Rs)
          (loopSet (natPz (Nat.pred j)) .ready hp fun hp => k (.bool true) hp nx)
          (fun i => loopSet (natPz (Nat.pred j)) (.done (.ext i)) hp fun hp => k (.bool false) hp nx)
          (loopSet (natPz (Nat.pred j)) (.done .ret) hp fun hp => k (.bool false) hp nx) e))
      (fun _ => .bad 288) (.bad 288) e) (.bad 289)
def callB (P : Program) (c : Call) : OB :=
  match c.callee with
  | .builtin b => builtinB P b c.argTypes.toList c.args.toList
  | .value f => ⟨fun call tm hp nx k => (evB f).run tm fun fv => evsB c.args.toList tm fun vs => selFun fv (.bad 122) fun f first captured => match f with
      | .func g => call.run g (catL first (catL vs captured)) hp nx k
      | .yield j => List.rec (motive := fun _ => Rs) (List.rec (motive := fun _ => Rs) (yieldB call j vs hp nx k) (fun _ _ _ => .bad 122) captured) (fun _ _ _ => .bad 122) first
      | _ => .bad 122⟩
  | .invoke _ _ => badB 123

def unK (op : UnOp) (v : AV) (k : AV → Rs) : Rs :=
  match op, v with
  | .not, .bool b => boolF (!b) fun b => k (.bool b)
  | .neg, .int kd n => wrapF kd (Int.sub 0 n) fun n => k (.int kd n)
  | op, v => match conc v with
    | some c => scal (Op.unary op c) k
    | none => .bad 138

def opB (P : Program) (o : Oper) : OB :=
  match o.op with
  | .move x | .assign x => pureB (evB x).run
  | .pick c a b => pureB fun tm k => (evB c).run tm fun c => asBool c fun c => Bool.rec (motive := fun _ => Rs) ((evB b).run tm k) ((evB a).run tm k) c
  | .alloc e => match zeroOf P e with
    | some z => ⟨fun _ tm hp nx k => natF z.cells.length fun es => newArr hp nx es 1 e (one z.cells) fun id hp nx => k (.ptr id 0) hp nx⟩
    | none => badB 130
  | .box e x => ⟨fun _ tm hp nx k => (evB x).run tm fun v => natF v.cells.length fun es => newArr hp nx es 1 e (one v.cells) fun id hp nx => k (.ptr id 0) hp nx⟩
  | .build t ps => match zeroOf P t, P.underlying t with
    | some z, some (.struct fs) => match fs.toList.mapM (fun f => (P.info? f.type).map fun i => (f.offset, i.size)) with
      | some places => pureB fun tm k => fillK (fun i => places[i]?) (ps.toList) tm z.cells fun cs => k (.agg cs)
      | none => badB 202
    | some z, some (.array _ e) => match P.info? e with
      | some _ => pureB fun tm k => fillK (fun i => some (i * szOf P e, szOf P e)) (ps.toList) tm z.cells fun cs => k (.agg cs)
      | none => badB 203
    | _, _ => badB 131
  | .buildSlice t len ps => match P.underlying t with
    | some (.slice e) => match zeroOf P e with
      | some z => match Nat.ble len 10000 && (Nat.ble (szOf P e) 1000 && (Nat.beq z.cells.length (szOf P e) && Nat.blt 0 (szOf P e))) with
        | true => ⟨fun _ tm hp nx k => fillK (fun i => some (i * szOf P e, szOf P e)) (ps.toList) tm (repl len z.cells) fun cs => chunkK (szOf P e) len cs 0 .e fun c =>
            newArr hp nx (szOf P e) len e c fun id hp nx => k (.slice id 0 len len) hp nx⟩
        | false => badB 132
      | none => badB 133
    | _ => badB 134
  | .load t a => match knownT P t, aggT P t with
    | true, true => ⟨fun _ tm hp nx k => (evB a).run tm fun v => asPtr v fun id off => readCells hp id off (szOf P t) fun cs => k (.agg cs) hp nx⟩
    | true, false => ⟨fun _ tm hp nx k => (evB a).run tm fun v => asPtr v fun id off => readCell hp id off fun v => k v hp nx⟩
    | false, _ => badB 198
  | .store t a x => match P.info? t with
    | some _ => ⟨fun _ tm hp nx k => (evB a).run tm fun p => (evB x).run tm fun v => asPtr p fun id off =>
      ifK (Nat.beq v.cells.length (szOf P t)) (writeCells hp id off v.cells fun hp => k undefA hp nx) (.bad 135)⟩
    | none => badB 135
  | .nilCheck x => pureB fun tm k => (evB x).run tm fun v => selPF v (.bad 136) (fun p o => k (.ptr p o)) fun f a b => match f with
      | .func f => k (.func (.func f) a b)
      | _ => .bad 136
  | .binOp op t x y _ => match eqOkT P op t with
    | true => pureB fun tm k => (evB x).run tm fun a => (evB y).run tm fun b => (binS P op t).run a b k
    | false => badB 137
  | .unOp op _ x => pureB fun tm k => (evB x).run tm fun v => unK op v k
  | .convert src dst x => convB P src dst (evB x)
  | .makeFunc fn first captured => match okFn fn with
    | true => pureB fun tm k => evsB first.toList tm fun a => evsB captured.toList tm fun b => k (.func fn a b)
    | false => badB 282
  | .makeMap t none => ⟨fun _ tm hp nx k => newObj hp nx (.map [] 0) fun id hp nx => k (.map id) hp nx⟩
  | .makeMap t (some r) => badB 139
  | .makeSlice t l c => match P.underlying t with
    | some (.slice e) => match zeroOf P e with
      | some z => match Nat.beq z.cells.length (szOf P e) && (Nat.ble (szOf P e) 1000 && (Nat.blt 0 (szOf P e) && Nat.ble (P.bytesOf e) 1000000)) with
        | true => ⟨fun _ tm hp nx k => (evB l).run tm fun l => (evB c).run tm fun c => asNat l fun l => asNat c fun c => ifK (Nat.ble l c && Nat.ble c 10000)
            (fullK c z.cells 0 .e fun cs => newArr hp nx (szOf P e) c e cs fun id hp nx => k (.slice id 0 l c) hp nx) (.bad 140)⟩
        | false => badB 141
      | none => badB 142
    | _ => badB 143
  | .slice t x lo hi mx => sliceK P t (evB x) (lo.map evB) (hi.map evB) (mx.map evB)
  | .fieldAddr t x f => match fieldOff P t f with
    | some (off, ft) => match Nat.beq (szOf P ft) 0 with
      | false => pureB fun tm k => (evB x).run tm fun v => asPtr v fun id o => natF (o + off) fun o => k (.ptr id o)
      | true => badB 144
    | none => badB 145
  | .field t x f => match fieldOff P t f with
    | some (off, ft) => match knownT P ft, aggT P ft with
      | false, _ => badB 199
      | true, true => pureB fun tm k => (evB x).run tm fun v => selAgg v (.bad 146) fun cs => dropK off cs fun cs => takeK (szOf P ft) cs fun cs => k (.agg cs)
      | true, false => pureB fun tm k => (evB x).run tm fun v => selAgg v (.bad 147) fun cs => nthK off cs k
    | none => badB 148
  | .indexAddr t x i => match P.underlying t with
    | some (.slice e) => match P.info? e with
      | some _ => pureB fun tm k => (evB x).run tm fun v => (evB i).run tm fun i => asNat i fun i => selSl v (.bad 151) (.bad 151)
        (fun id off len _ => ifK (Nat.blt i len) (natF (off + i * szOf P e) fun o => k (.ptr id o)) (.bad 149))
        (fun id off len _ => ifK (Nat.blt i len) (natF (off + i * szOf P e) fun o => k (.ptr id o)) (.bad 150))
      | none => badB 153
    | some (.array n e) => match P.info? e with
      | some _ => pureB fun tm k => (evB x).run tm fun v => (evB i).run tm fun i => asNat i fun i => asPtr v fun id off =>
        ifK (Nat.blt i n) (natF (off + i * szOf P e) fun o => k (.ptr id o)) (.bad 152)
      | none => badB 153
    | _ => badB 153
  | .index t x i => match P.underlying t with
    | some .string => pureB fun tm k => (evB x).run tm fun v => (evB i).run tm fun i => asNat i fun i => selStr v (.bad 155) fun l n => ifK (Nat.blt i l) (natF (Nat.mod (Nat.shiftRight n (Nat.mul 8 (Nat.sub l (Nat.succ i)))) 256) fun b => k (.int .u8 (.ofNat b))) (.bad 154)
    | _ => badB 160
  | .lookup t m i ok => lookupB P t (evB m) (evB i) ok
  | .mapUpdate t m i x | .insert t m i x => updateB P t (evB m) (evB i) (evB x)
  | .mapEntry t m i => entryB P t (evB m) (evB i)
  | .entryStore _ m s x => entryStoreB (evB m) (evB s) (evB x)
  | .makeInterface t x => match P.underlying t with
    | some (.interface _) => badB 161
    | some _ => pureB fun tm k => (evB x).run tm fun v => k (.iface t v)
    | none => badB 162
  | .extract x i => pureB fun tm k => (evB x).run tm fun v => selTup v (.bad 163) fun vs => nthK i vs k
  | .call c => callB P c
  | .range t x => rangeB P t (evB x)
  | .next it false => nextB (evB it)
  | .entry it => entryAtB (evB it)
  | _ => badB 164

/-! a region in the order of its text -/
structure SB where run : CallT → Tm → Tr AO → Pz → (Tm → Tr AO → Pz → Rs) → Rs
def putB (nt : Nat) (d : Option Tmp) (b : OB) : SB :=
  match d with
  | none => ⟨fun call tm hp nx k => b.run call tm hp nx fun _ hp nx => k tm hp nx⟩
  | some t => match Nat.blt t nt with
    | true => ⟨fun call tm hp nx k => b.run call tm hp nx fun v hp nx => (setS t).run tm v fun tm => k tm hp nx⟩
    | false => ⟨fun _ _ _ _ _ => .bad 170⟩
def boolEq (a b : Bool) : Bool := Bool.rec (motive := fun _ => Bool) (Bool.rec (motive := fun _ => Bool) true false b) (Bool.rec (motive := fun _ => Bool) false true b) a
def yielded? (ops : Array Oper) (nt : Nat) (j : Nat) : Option Tmp :=
  match (ops[j]?).bind (·.dst) with
  | some d => if Nat.blt d nt then some d else none
  | none => none
def stepB (P : Program) (nt : Nat) (ops : Array Oper) (o : Oper) : SB :=
  match o.guard with
  | none => putB nt o.dst (opB P o)
  | some (j, want) => match yielded? ops nt j with
    | none => ⟨fun _ _ _ _ _ => .bad 171⟩
    | some d => ⟨fun call tm hp nx k => (getS d).run tm fun v => selBz v ((putB nt o.dst (pureB fun _ k => k undefA)).run call tm hp nx k) fun b =>
        ifK (boolEq b want) ((putB nt o.dst (opB P o)).run call tm hp nx k) ((putB nt o.dst (pureB fun _ k => k undefA)).run call tm hp nx k)⟩
def regionB (P : Program) (nt : Nat) (ops : Array Oper) (l : List Oper) : SB :=
  List.rec (motive := fun _ => SB) ⟨fun _ tm hp nx k => k tm hp nx⟩ (fun o _ ih => ⟨fun call tm hp nx k => (stepB P nt ops o).run call tm hp nx fun tm hp nx => ih.run call tm hp nx k⟩) l

/-- Operations that give a value and turn nothing. -/
def lightK (P : Program) (o : Oper) : Bool :=
  match o.op with
  | .move _ | .assign _ | .pick .. | .build .. | .load .. | .nilCheck _ | .binOp .. | .unOp .. | .makeFunc .. | .fieldAddr .. | .field .. | .indexAddr .. | .index .. | .lookup .. | .makeInterface .. | .extract .. => true
  | .convert src dst _ => match P.underlying src, P.underlying dst with
    | some (.int _), some (.int _) => true
    | some .string, some .string => true
    | some (.slice _), some .string => true
    | _, _ => false
  | .slice t _ _ _ none => match P.underlying t with | some .string => true | _ => false
  | .call c => match c.callee with
    | .builtin .len | .builtin .min | .builtin .max => true
    | _ => false
  | _ => false
/-- Those that read no memory. -/
def pureK (P : Program) (o : Oper) : Bool :=
  match o.op with
  | .move _ | .assign _ | .pick .. | .build .. | .nilCheck _ | .binOp .. | .unOp .. | .makeFunc .. | .fieldAddr .. | .field .. | .indexAddr .. | .index .. | .makeInterface .. | .extract .. => true
  | .convert src dst _ => match P.underlying src, P.underlying dst with
    | some (.int _), some (.int _) => true
    | some .string, some .string => true
    | _, _ => false
  | _ => false
/-- Those that make a block of their own, and do no other thing. -/
def newK (P : Program) (o : Oper) : Bool :=
  match o.op with
  | .alloc _ | .box .. | .buildSlice .. | .makeMap .. => true
  | _ => false

/-! a region that draws its order: run by a plan -/
structure Ph where
  es : List Nat
  rs : List Nat
  sp : List Nat
  fs : List Nat
  h : Option Nat
  h2 : Option (Nat × List Nat × List Nat)
def pzEq (p : Pz) : Pz → Bool :=
  Pz.rec (motive := fun _ => Pz → Bool) (fun q => Pz.rec (motive := fun _ => Bool) true (fun _ _ => false) (fun _ _ => false) q)
    (fun _ ih q => Pz.rec (motive := fun _ => Bool) false (fun q _ => ih q) (fun _ _ => false) q)
    (fun _ ih q => Pz.rec (motive := fun _ => Bool) false (fun _ _ => false) (fun q _ => ih q) q) p
def eq1 (a b : AV) : Bool :=
  match a, b with
  | .bool a, .bool b => a == b
  | .int j a, .int k b => decide (j = k) && a == b
  | .str l m, .str l' m' => Nat.beq l l' && Nat.beq m m'
  | .float j a, .float k b => decide (j = k) && Nat.beq a b
  | .ptr p o, .ptr q o' => pzEq p q && Nat.beq o o'
  | .nilp, .nilp => true
  | .slice p o l c, .slice q o' l' c' => pzEq p q && (Nat.beq o o' && (Nat.beq l l' && Nat.beq c c'))
  | .oslice p o l c, .oslice q o' l' c' => pzEq p q && (Nat.beq o o' && (Nat.beq l l' && Nat.beq c c'))
  | .nils, .nils => true
  | .map p, .map q => pzEq p q
  | .nilmap, .nilmap => true
  | .nilfunc, .nilfunc => true
  | .nilIface, .nilIface => true
  | _, _ => false
def eqL (f : AV → AV → Bool) (a : List AV) : List AV → Bool :=
  List.rec (motive := fun _ => List AV → Bool) (fun b => List.rec (motive := fun _ => Bool) true (fun _ _ _ => false) b)
    (fun x _ ih b => List.rec (motive := fun _ => Bool) false (fun y t _ => Bool.rec (motive := fun _ => Bool) false (ih t) (f x y)) b) a
def eq2 (a b : AV) : Bool :=
  match a, b with
  | .agg x, .agg y => eqL eq1 x y
  | a, b => eq1 a b
def eqA (a b : AV) : Bool :=
  match a, b with
  | .tup x, .tup y => eqL eq2 x y
  | a, b => eq2 a b
def opAt (ops : Array Oper) (i : Nat) : Oper := ops.getD i default
def sBad (n : Nat) : SB := ⟨fun _ _ _ _ _ => .bad n⟩
/- the operation again: does it give what it gave? -/
def againB (P : Program) (nt : Nat) (ops : Array Oper) (o : Oper) : SB :=
  match o.dst with
  | none => ⟨fun call tm hp nx K => (stepB P nt ops o).run call tm hp nx fun _ _ _ => K tm hp nx⟩
  | some d => ⟨fun call tm hp nx K => (stepB P nt ops o).run call tm hp nx fun tm' _ _ => (getS d).run tm' fun v => (getS d).run tm fun u => ifK (eqA v u) (K tm hp nx) (.bad 213)⟩
def againAll (P : Program) (nt : Nat) (ops : Array Oper) (l : List Oper) : SB :=
  List.rec (motive := fun _ => SB) ⟨fun _ tm hp nx k => k tm hp nx⟩ (fun o _ ih => ⟨fun call tm hp nx k => (againB P nt ops o).run call tm hp nx fun tm hp nx => ih.run call tm hp nx k⟩) l
/- the same values, objects, heaps? -/
mutual
def eqV : AV → AV → Bool
  | .bool a, .bool b => a == b
  | .int j a, .int k b => decide (j = k) && a == b
  | .str l m, .str l' m' => Nat.beq l l' && Nat.beq m m'
  | .float j a, .float k b => decide (j = k) && Nat.beq a b
  | .ptr p o, .ptr q o' => pzEq p q && Nat.beq o o'
  | .nilp, .nilp => true
  | .slice p o l c, .slice q o' l' c' => pzEq p q && (Nat.beq o o' && (Nat.beq l l' && Nat.beq c c'))
  | .oslice p o l c, .oslice q o' l' c' => pzEq p q && (Nat.beq o o' && (Nat.beq l l' && Nat.beq c c'))
  | .nils, .nils => true
  | .map p, .map q => pzEq p q
  | .nilmap, .nilmap => true
  | .func f a b, .func g c d => decide (f = g) && (eqVL a c && eqVL b d)
  | .nilfunc, .nilfunc => true
  | .iface t v, .iface u x => Nat.beq t u && eqV v x
  | .nilIface, .nilIface => true
  | .agg xs, .agg ys => eqVL xs ys
  | .tup xs, .tup ys => eqVL xs ys
  | _, _ => false
def eqVL : List AV → List AV → Bool
  | [], [] => true
  | x :: xs, y :: ys => eqV x y && eqVL xs ys
  | _, _ => false
end
def eqT : Tr (List AV) → Tr (List AV) → Bool
  | .e, .e => true
  | .n l none r, .n l' none r' => eqT l l' && eqT r r'
  | .n l (some v) r, .n l' (some v') r' => eqVL v v' && (eqT l l' && eqT r r')
  | _, _ => false
def eqE : List ME → List ME → Bool
  | [], [] => true
  | x :: xs, y :: ys => eqV x.key y.key && (eqV x.val y.val && (Nat.beq x.born y.born && eqE xs ys))
  | _, _ => false
def eqO : AO → AO → Bool
  | .arr es n el c, .arr es' n' el' c' => Nat.beq es es' && (Nat.beq n n' && (Nat.beq el el' && eqT c c'))
  | .seg f ep tp es n el c, .seg f' ep' tp' es' n' el' c' => pzEq f f' && (Nat.beq ep ep' && (boolEq tp tp' && (Nat.beq es es' && (Nat.beq n n' && (Nat.beq el el' && eqT c c')))))
  | .fam ep s, .fam ep' s' => Nat.beq ep ep' && boolEq s s'
  | .map es c, .map es' c' => Nat.beq c c' && eqE es es'
  | .dmark, .dmark => true
  | .gone, .gone => true
  | .iter m s l c, .iter m' s' l' c' => pzEq m m' && (Nat.beq s s' && (decide (l = l') && Nat.beq c c'))
  | _, _ => false
/-- All of the first heap stands in the second. -/
def subH : Tr AO → Tr AO → Bool
  | .e, _ => true
  | .n l none r, .n l' _ r' => subH l l' && subH r r'
  | .n l (some v) r, .n l' (some v') r' => eqO v v' && (subH l l' && subH r r')
  | .n _ _ _, _ => false
/- the same temporaries? -/
def eqOct {α : Type} (f : α → α → Bool) (a b : Oct α) : Bool :=
  f a.a0 b.a0 && (f a.a1 b.a1 && (f a.a2 b.a2 && (f a.a3 b.a3 && (f a.a4 b.a4 && (f a.a5 b.a5 && (f a.a6 b.a6 && f a.a7 b.a7))))))
def eqTr {α : Type} (f : α → α → Bool) : Tr α → Tr α → Bool
  | .e, .e => true
  | .n l none r, .n l' none r' => eqTr f l l' && eqTr f r r'
  | .n l (some v) r, .n l' (some v') r' => f v v' && (eqTr f l l' && eqTr f r r')
  | _, _ => false
def eqPzL : List Pz → List Pz → Bool
  | [], [] => true
  | x :: xs, y :: ys => pzEq x y && eqPzL xs ys
  | _, _ => false
def eqTm (a b : Tm) : Bool := eqOct (eqOct eqV) a.lo b.lo && (eqTr eqV a.hi b.hi && eqPzL a.ml b.ml)
/- two writes that may stand in either order: they end alike -/
def phN (P : Program) (nt : Nat) (ops : Array Oper) (es rs sp fs : List Nat) (rest : SB) (h : Option Nat) : SB :=
  ⟨fun call tm hp nx K =>
    (regionB P nt ops (es.map (opAt ops))).run call tm hp nx fun tm hp nx =>
    (againAll P nt ops (rs.map (opAt ops))).run call tm hp nx fun tm hp nx =>
    (regionB P nt ops (sp.map (opAt ops))).run call tm hp nx fun _ _ _ =>
    (regionB P nt ops (fs.map (opAt ops))).run call tm hp nx fun tm hp nx =>
    Option.rec (motive := fun _ => Rs) (K tm hp nx) (fun h => (stepB P nt ops (opAt ops h)).run call tm hp nx fun tm hp nx => rest.run call tm hp nx K) h⟩
/- a way to the end: one write more -/
def lastB (P : Program) (nt : Nat) (ops : Array Oper) (h : Nat) (rs : List Nat) : SB :=
  phN P nt ops [] rs [] [] (phN P nt ops [] [] [] [] (sBad 210) none) (some h)
def forkKB (K : Tm → Tr AO → Pz → Rs) (tmA : Tm) (hpA : Tr AO) (nxA : Pz) (tmB : Tm) (hpB : Tr AO) (nxB : Pz) : Rs :=
  ifK (eqTm tmA tmB) (ifK (pzEq nxA nxB) (ifK (subH hpA hpB) (K tmA hpA nxA) (.bad 252)) (.bad 251)) (.bad 250)
def forkKA (P : Program) (nt : Nat) (ops : Array Oper) (hA hB : Nat) (rsB : List Nat) (call : CallT) (tm : Tm) (hp : Tr AO) (nx : Pz) (K : Tm → Tr AO → Pz → Rs) (tmA : Tm) (hpA : Tr AO) (nxA : Pz) : Rs :=
  (stepB P nt ops (opAt ops hB)).run call tm hp nx fun tm hp nx => (lastB P nt ops hA rsB).run call tm hp nx (forkKB K tmA hpA nxA)
def forkB (P : Program) (nt : Nat) (ops : Array Oper) (hA hB : Nat) (rsA rsB : List Nat) (call : CallT) (tm : Tm) (hp : Tr AO) (nx : Pz) (K : Tm → Tr AO → Pz → Rs) : Rs :=
  (stepB P nt ops (opAt ops hA)).run call tm hp nx fun tm' hp' nx' => (lastB P nt ops hB rsA).run call tm' hp' nx' (forkKA P nt ops hA hB rsB call tm hp nx K)
def phB (P : Program) (nt : Nat) (ops : Array Oper) (ph : Ph) (rest : SB) : SB :=
  match ph.h2 with
  | none => phN P nt ops ph.es ph.rs ph.sp ph.fs rest ph.h
  | some (hB, rsA, rsB) => match ph.h with
    | some hA => ⟨fun call tm hp nx K => (regionB P nt ops (ph.es.map (opAt ops))).run call tm hp nx fun tm hp nx =>
        (againAll P nt ops (ph.rs.map (opAt ops))).run call tm hp nx fun tm hp nx => forkB P nt ops hA hB rsA rsB call tm hp nx K⟩
    | none => sBad 253
def drawB (P : Program) (nt : Nat) (ops : Array Oper) (plan : List Ph) : SB :=
  List.rec (motive := fun _ => SB) (sBad 210) (fun ph _ ih => phB P nt ops ph ih) plan
/- is the plan one of this region? -/
def lk (ops : Array Oper) (i j : Nat) : Bool := match (opAt ops j).dst with | some d => ((opAt ops i).looksAt ops).contains d | none => false
def bit (b : Array Nat) (j i : Nat) : Bool := (b.getD j 0).testBit i
def seqE (ops : Array Oper) (E F CF : List Nat) : List Nat → List Nat → Bool
  | [], _ => true
  | i :: l, CE => E.contains i && !CE.contains i && (F.all fun f => !(lk ops i f) || CF.contains f) && (E.all fun e => !(lk ops i e) || CE.contains e) && seqE ops E F CF l (i :: CE)
def seqF (ops : Array Oper) (E F CE : List Nat) : List Nat → List Nat → Bool
  | [], _ => true
  | f :: l, CF => F.contains f && !CF.contains f && (F.all fun g => !(lk ops f g) || CF.contains g) && (E.all fun e => !(lk ops f e) || CE.contains e) && seqF ops E F CE l (f :: CF)
def storeO (o : Oper) : Bool := (match o.op with | .store .. => true | _ => false) && (o.dst.isNone && o.guard.isNone)
def lastPh (h : Nat) (rs : List Nat) : List Ph := [⟨[], rs, [], [], some h, none⟩, ⟨[], [], [], [], none, none⟩]
/- the plan 'lastPh', looked at -/
def tailOk (ops : Array Oper) (b : Array Nat) (E F H : List Nat) (h : Nat) (rs : List Nat) (CE CF CH : List Nat) : Bool :=
  (rs.all fun i => CE.contains i && (F.all fun f => !(lk ops i f) || CF.contains f)) &&
  (E.all fun i => CE.contains i) && (F.all fun f => CF.contains f) && (H.all fun i => (h :: CH).contains i) && (H.contains h && !CH.contains h) &&
  (E.all fun i => rs.contains i || bit b i h || (CH.any fun h => bit b h i)) && (E.all fun i => (h :: CH).any fun h => bit b h i)
def phsOk (ops : Array Oper) (b : Array Nat) (E F H : List Nat) : List Ph → List Nat → List Nat → List Nat → Bool
  | [], _, _, _ => false
  | ph :: rest, CE, CF, CH =>
    seqE ops E F CF ph.es CE &&
    (ph.rs.all fun i => CE.contains i && (F.all fun f => !(lk ops i f) || CF.contains f)) &&
    (E.all fun i => ph.es.contains i || ph.rs.contains i || (H.any fun h => !CH.contains h && bit b i h) || (CH.any fun h => bit b h i)) &&
    (F.all fun f => CF.contains f || ph.sp.contains f || (H.any fun h => !CH.contains h && bit b f h)) &&
    seqF ops E F (ph.es.reverse ++ CE) ph.sp CF &&
    seqF ops E F (ph.es.reverse ++ CE) ph.fs CF &&
    match ph.h, ph.h2 with
    | some h, none => H.contains h && !CH.contains h && (H.all fun h' => CH.contains h' || h' == h || bit b h' h) && (F.all fun f => !(lk ops h f) || (ph.fs.reverse ++ CF).contains f) &&
        (F.all fun f => (ph.fs.reverse ++ CF).contains f || !(lk ops f h) || bit b f h) && (ph.fs.all fun f => bit b h f) && phsOk ops b E F H rest (ph.es.reverse ++ CE) (ph.fs.reverse ++ CF) (h :: CH)
    | some h, some (h2, rsA, rsB) => (ph.sp.isEmpty && ph.fs.isEmpty && rest.isEmpty) && (H.contains h && !CH.contains h) && (H.contains h2 && !CH.contains h2) && (!(h == h2)) && (H.all fun h' => CH.contains h' || h' == h || h' == h2) && (F.all fun f => CF.contains f) &&
        storeO (opAt ops h) && storeO (opAt ops h2) && tailOk ops b E F H h2 rsA (ph.es.reverse ++ CE) CF (h :: CH) && tailOk ops b E F H h rsB (ph.es.reverse ++ CE) CF (h2 :: CH)
    | none, _ => (E.all fun i => (ph.es.reverse ++ CE).contains i) && (F.all fun i => (ph.fs.reverse ++ CF).contains i) && (H.all fun i => CH.contains i)
def notSel (o : Oper) : Bool := match o.op with | .select .. => false | _ => true
def kindF (P : Program) (o : Oper) : Bool := pureK P o || (newK P o && o.guard.isNone && o.dst.isSome)
def hsOf (ph : Ph) : List Nat := ph.h.toList ++ (ph.h2.map (·.1)).toList
def planOk (P : Program) (ops : Array Oper) (plan : List Ph) : Bool :=
  let b := Region.before ops
  let rg := List.range ops.size
  let E := plan.flatMap (·.es)
  let F := plan.flatMap (·.fs)
  let H := plan.flatMap hsOf
  (rg.all fun i => (E.contains i && !F.contains i && !H.contains i) || (!E.contains i && F.contains i && !H.contains i) || (!E.contains i && !F.contains i && H.contains i)) &&
  (E.all fun i => decide (i < ops.size)) && (F.all fun i => decide (i < ops.size)) && (H.all fun i => decide (i < ops.size)) &&
  (rg.all fun i => (opAt ops i).after.toList.all fun e => !(Region.binds .any e) || decide (e.on < i)) &&
  (E.all fun i => lightK P (opAt ops i)) && (F.all fun i => kindF P (opAt ops i)) && (rg.all fun i => notSel (opAt ops i)) &&
  (rg.all fun i => (E ++ F).all fun j => (!(lk ops i j) || bit b i j) && (i == j || (opAt ops j).dst.isNone || (opAt ops i).dst != (opAt ops j).dst)) &&
  phsOk ops b E F H plan [] [] []
def planGood (P : Program) (ops : Array Oper) (plan : List Ph) : Bool := plan.isEmpty || planOk P ops plan
/-! code -/
structure CB where run : Nat → CallT → Tm → Tr AO → Pz → (Ex → Tm → Tr AO → Pz → Rs) → Rs
def bodied (P : Program) (g : Nat) : Bool := match P.funcs[g]? with | some fn => !fn.body.isNone && !(fn.name == "runtime.NumGoroutine") | none => false
def rangeFuncB (P : Program) (fid nt : Nat) (g : Operand) (ps : Array Tmp) (x y : Code) (call : CallT) (tm : Tm) (hp : Tr AO) (nx : Pz) (K : Ex → Tm → Tr AO → Pz → Rs) : Rs :=
  (evB g).run tm fun fv => selFun fv (.bad 281) fun f first captured => match f, first with
    | .func gf, [] => ifK (bodied P gf) (newObj hp nx .dmark fun idD hp nx => newObj hp nx (.loop fid nt ⟨tm.lo, tm.hi, []⟩ ps x y .ready) fun idL hp nx =>
        call.run gf (.func (.yield (pzNum idL)) [] [] :: captured) hp nx fun _ hp nx =>
          hp.getK idL (.bad 284) fun o => selLoop o fun _ _ _ _ _ _ st => hp.setK idL .gone fun hp =>
            LS.rec (motive := fun _ => Rs) (K .nrm ⟨tm.lo, tm.hi, idD :: tm.ml⟩ hp nx) (.bad 287) (fun e => Ex.rec (motive := fun _ => Rs) (.bad 287) (fun i => K (.ext i) ⟨tm.lo, tm.hi, idD :: tm.ml⟩ hp nx) (K .ret ⟨tm.lo, tm.hi, idD :: tm.ml⟩ hp nx) e) st) (.bad 283)
    | _, _ => .bad 281
def codeB (P : Program) (fid nt : Nat) (pl : Nat → List Ph) (c : Code) : CB :=
  Code.rec (motive := fun _ => CB)
    ⟨fun _ _ tm hp nx K => K .nrm tm hp nx⟩
    (fun id ops draw => match draw with
      | false => ⟨fun _ call tm hp nx K => (regionB P nt ops ops.toList).run call tm hp nx fun tm hp nx => K .nrm tm hp nx⟩
      | true => ⟨fun _ call tm hp nx K => (drawB P nt ops (pl id)).run call tm hp nx fun tm hp nx => K .nrm tm hp nx⟩)
    (fun _ _ a b => ⟨fun fu call tm hp nx K => a.run fu call tm hp nx fun e tm hp nx => Ex.rec (motive := fun _ => Rs) (b.run fu call tm hp nx K) (fun id => K (.ext id) tm hp nx) (K .ret tm hp nx) e⟩)
    (fun c _ _ a b => ⟨fun fu call tm hp nx K => (evB c).run tm fun v => asBool v fun v => Bool.rec (motive := fun _ => Rs) (b.run fu call tm hp nx K) (a.run fu call tm hp nx K) v⟩)
    (fun id _ b => ⟨fun fu call tm hp nx K => b.run fu call tm hp nx fun e tm hp nx => Ex.rec (motive := fun _ => Rs) (K .nrm tm hp nx) (fun j => ifK (Nat.beq j id) (K .nrm tm hp nx) (K (.ext j) tm hp nx)) (K .ret tm hp nx) e⟩)
    (fun _ b => ⟨fun fu call tm hp nx K => (Nat.rec (motive := fun _ => Tm → Tr AO → Pz → Rs) (fun _ _ _ => .bad 180)
      (fun _ ih tm hp nx => b.run fu call tm hp nx fun e tm hp nx => Ex.rec (motive := fun _ => Rs) (ih tm hp nx) (fun j => K (.ext j) tm hp nx) (K .ret tm hp nx) e) fu) tm hp nx⟩)
    (fun g ps x y _ _ => ⟨fun _ call tm hp nx K => rangeFuncB P fid nt g ps x y call tm hp nx K⟩)
    (fun id => ⟨fun _ _ tm hp nx K => K (.ext id) tm hp nx⟩)
    (fun _ b => b)
    (fun _ => ⟨fun _ _ tm hp nx K => K .nrm tm hp nx⟩)
    (fun _ => ⟨fun _ _ _ _ _ _ => .bad 182⟩)
    ⟨fun _ _ tm hp nx K => K .ret tm hp nx⟩
    (fun _ => ⟨fun _ _ _ _ _ _ => .bad 183⟩)
    c

/- the drawn regions have their plans -/
def plansOk (P : Program) (pl : Nat → List Ph) : Code → Bool
  | .region id ops true => planGood P ops (pl id)
  | .seq a b => plansOk P pl a && plansOk P pl b
  | .cond _ a b => plansOk P pl a && plansOk P pl b
  | .block _ b => plansOk P pl b
  | .loop b => plansOk P pl b
  | .scope b => plansOk P pl b
  | .rangeFunc _ _ x y => noRF x && noRF y
  | _ => true
/-! calls -/
structure FB where run : Nat → CallT → List AV → Tr AO → Pz → (AV → Tr AO → Pz → Rs) → Rs
def laidArgs (vs : List AV) : Nat → Tm → (Tm → Rs) → Rs :=
  List.rec (motive := fun _ => Nat → Tm → (Tm → Rs) → Rs) (fun _ t k => k t) (fun v _ ih i t k => (setS i).run t v fun t => natF (Nat.succ i) fun i => ih i t k) vs
def resOne (P : Program) (r : ResultVar) (tm : Tm) (hp : Tr AO) (k : AV → Rs) : Rs :=
  match r with
  | .tmp t => (getS t).run tm k
  | .cell a t => (getS a).run tm fun v => asPtr v fun id off =>
      match knownT P t, aggT P t with
      | false, _ => .bad 200
      | true, true => readCells hp id off (szOf P t) fun cs => k (.agg cs)
      | true, false => readCell hp id off k
def resAll (P : Program) (rs : List ResultVar) : Tm → Tr AO → (List AV → Rs) → Rs :=
  List.rec (motive := fun _ => Tm → Tr AO → (List AV → Rs) → Rs) (fun _ _ k => k []) (fun r _ ih tm hp k => resOne P r tm hp fun v => ih tm hp fun vs => k (v :: vs)) rs
/- the marks of loops over functions are come to -/
def endK (l : List Pz) : Tr AO → (Tr AO → Rs) → Rs :=
  List.rec (motive := fun _ => Tr AO → (Tr AO → Rs) → Rs) (fun hp k => k hp) (fun id _ ih hp k => hp.getK id (.bad 292) fun o => isMark o (hp.setK id .gone fun hp => ih hp k)) l
def resK (vs : List AV) (k : AV → Rs) : Rs :=
  match vs with
  | [v] => k v
  | vs => k (.tup vs)
def fnB (P : Program) (Pl : Nat → Nat → List Ph) (f : Nat) : FB :=
  match P.funcs[f]? with
  | some fn => match fn.body with
    | some c => match fn.name == "runtime.NumGoroutine" with
      | false => ⟨fun fu call args hp nx k => ifK (Nat.ble args.length fn.ntmps) (laidArgs args 0 .e fun tm => (codeB P f fn.ntmps (Pl f) c).run fu call tm hp nx fun e tm hp nx =>
          Ex.rec (motive := fun _ => Rs) (endK tm.ml hp fun hp => resAll P fn.results.toList tm hp fun vs => resK vs fun v => k v hp nx) (fun _ => .bad 191) (endK tm.ml hp fun hp => resAll P fn.results.toList tm hp fun vs => resK vs fun v => k v hp nx) e) (.bad 192)⟩
      | true => ⟨fun _ _ _ _ _ _ => .bad 193⟩
    | none => match fn.name == "math.Float64frombits" && (fn.origin == "math.Float64frombits" || fn.origin == "") with
      | true => ⟨fun _ _ args hp nx k => (match args with
        | [.int .u64 (.ofNat n)] => k (.float .f64 n) hp nx
        | _ => .bad 197)⟩
      | false => ⟨fun _ _ _ _ _ _ => .bad 194⟩
  | none => ⟨fun _ _ _ _ _ _ => .bad 195⟩
def codeN (P : Program) (Pl : Nat → Nat → List Ph) (fu : Nat) (ih : CallT) (f nt : Nat) (c : Code) (tm : Tm) (hp : Tr AO) (nx : Pz) (K : Ex → Tm → Tr AO → Pz → Rs) : Rs :=
  ifK (plansOk P (Pl f) c) ((codeB P f nt (Pl f) c).run fu ih tm hp nx K) (.bad 293)
def callN (P : Program) (Pl : Nat → Nat → List Ph) (fu d : Nat) : CallT :=
  Nat.rec (motive := fun _ => CallT) ⟨fun _ _ _ _ _ => .bad 196, fun _ _ _ _ _ _ _ => .bad 196⟩ (fun _ ih => ⟨fun f args hp nx k => (fnB P Pl f).run fu ih args hp nx k, codeN P Pl fu ih⟩) d
end
end Go.Rex
