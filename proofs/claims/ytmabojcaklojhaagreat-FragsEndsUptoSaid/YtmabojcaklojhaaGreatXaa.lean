/- Part Xaa of the proof of FragsEnds: no condition. -/
import Derived.Calls
import Derived.Below
import Derived.KernelRfl
import Derived.Orders
import Derived.Laws.Sem
import Derived.IntWalk
import Derived.Laws.Strings
import Derived.Laws.StructEq
import Derived.RangeFuncLeaves
set_option linter.unusedSimpArgs false
set_option linter.unusedVariables false
namespace Go.aQ
inductive Rs where | ok | bad (n:Nat)
inductive Pz where | h | o (p:Pz) | i (p:Pz)
 deriving DecidableEq
inductive Tr (α:Type) where | e | n (l:Tr α) (v:Option α) (r:Tr α)
inductive AV where
 | bool (b:Bool)
 | int (k:IntKind) (n:Int)
 | str (len n:Nat)
 | float (k:FloatKind) (bits:Nat)
 | ptr (id:Pz) (off:Nat)
 | dq
 | slice (id:Pz) (off len cap:Nat)
 | aS (id:Pz) (off len skip:Nat)
 | aB
 | map (id:Pz)
 | aV
 | func (fn:Fn) (first captured:List AV)
 | cg
 | iface (t:TypeId) (v:AV)
 | nilIface
 | agg (cs:List AV)
 | cu (vs:List AV)
 | di (b o len cap:Nat)
 | bW (b o:Nat)
 | dG (b:Nat)
structure ME where
 key:AV
 val:AV
 born:Nat
structure fS (α:Type) where
 a0:α
 a1:α
 a2:α
 a3:α
 a4:α
 a5:α
 a6:α
 a7:α
structure Tm where
 lo:fS (fS AV)
 hi:Tr AV
 ml:List Pz
inductive Ex where | fK | ext (id:Nat) | ret
inductive LS where | ready | busy | done (e:Ex)
inductive AO where
 | arr (es n:Nat) (el:TypeId) (cells:Tr (List AV))
 | ca (cU:Pz) (ep:Nat) (ec:Bool) (es n:Nat) (el:TypeId) (cells:Tr (List AV))
 | cU (ep:Nat) (gR:Bool)
 | map (es:List ME) (clock:Nat)
 | iter (m:Pz) (since:Nat) (seen:List Nat) (clock:Nat)
 | loop (f nt:Nat) (tm:Tm) (ps:Array Tmp) (assign body:Code) (st:LS)
 | fi
 | gone
noncomputable section
def Tr.fC {α:Type} (p:Pz):Tr α->Rs->(α->Rs)->Rs :=
 Pz.rec (motive:=fun _=>Tr α->Rs->(α->Rs)->Rs)
  (fun t z k=>Tr.rec (motive:=fun _=>Rs) z (fun _ v _ _ _=>Option.rec (motive:=fun _=>Rs) z k v) t)
  (fun _ ih t z k=>Tr.rec (motive:=fun _=>Rs) z (fun l _ _ _ _=>ih l z k) t)
  (fun _ ih t z k=>Tr.rec (motive:=fun _=>Rs) z (fun _ _ r _ _=>ih r z k) t) p
def Tr.cH {α:Type} (p:Pz):Tr α->α->(Tr α->Rs)->Rs :=
 Pz.rec (motive:=fun _=>Tr α->α->(Tr α->Rs)->Rs)
  (fun t v k=>Tr.rec (motive:=fun _=>Rs) (k (.n .e (some v) .e)) (fun l _ r _ _=>k (.n l (some v) r)) t)
  (fun _ ih t v k=>Tr.rec (motive:=fun _=>Rs) (ih .e v fun l=>k (.n l none .e)) (fun l x r _ _=>ih l v fun l=>k (.n l x r)) t)
  (fun _ ih t v k=>Tr.rec (motive:=fun _=>Rs) (ih .e v fun r=>k (.n .e none r)) (fun l x r _ _=>ih r v fun r=>k (.n l x r)) t) p
def Pz.L8 (p:Pz):(Pz->Rs)->Rs :=
 Pz.rec (motive:=fun _=>(Pz->Rs)->Rs) (fun k=>k (.o .h)) (fun q _ k=>k (.i q)) (fun _ ih k=>ih fun q=>k (.o q)) p
def pJ (f:Nat):Nat->Pz :=
 Nat.rec (motive:=fun _=>Nat->Pz) (fun _=>.h)
  (fun _ ih m=>Bool.rec (motive:=fun _=>Pz) (Bool.rec (motive:=fun _=>Pz) (.o (ih (Nat.div m 2))) (.i (ih (Nat.div m 2))) (Nat.beq (Nat.mod m 2) 1)) .h (Nat.ble m 1)) f
def aX (n:Nat):Pz:=pJ (n+1) (n+1)
def Xu (β:Type) (p:Pz):(Pz->β)->β :=
 Pz.rec (motive:=fun _=>(Pz->β)->β) (fun k=>k .h) (fun _ ih k=>ih fun q=>k (.o q)) (fun _ ih k=>ih fun q=>k (.i q)) p
def zL (β:Type) (n:Nat) (k:Pz->β):β:=Xu β (aX n) k
structure G1 (α:Type) where run:fS α->(α->Rs)->Rs
structure S1 (α:Type) where run:fS α->(α->(α->Rs)->Rs)->(fS α->Rs)->Rs
structure S2 (α:Type) where run:fS α->α->(fS α->Rs)->Rs
def g1 (α:Type) (d:Nat):G1 α :=
 match d with
 | 0=>⟨fun o=>fS.rec (motive:=fun _=>(α->Rs)->Rs) (fun a0 _ _ _ _ _ _ _ k=>k a0) o⟩
 | 1=>⟨fun o=>fS.rec (motive:=fun _=>(α->Rs)->Rs) (fun _ a1 _ _ _ _ _ _ k=>k a1) o⟩
 | 2=>⟨fun o=>fS.rec (motive:=fun _=>(α->Rs)->Rs) (fun _ _ a2 _ _ _ _ _ k=>k a2) o⟩
 | 3=>⟨fun o=>fS.rec (motive:=fun _=>(α->Rs)->Rs) (fun _ _ _ a3 _ _ _ _ k=>k a3) o⟩
 | 4=>⟨fun o=>fS.rec (motive:=fun _=>(α->Rs)->Rs) (fun _ _ _ _ a4 _ _ _ k=>k a4) o⟩
 | 5=>⟨fun o=>fS.rec (motive:=fun _=>(α->Rs)->Rs) (fun _ _ _ _ _ a5 _ _ k=>k a5) o⟩
 | 6=>⟨fun o=>fS.rec (motive:=fun _=>(α->Rs)->Rs) (fun _ _ _ _ _ _ a6 _ k=>k a6) o⟩
 | _=>⟨fun o=>fS.rec (motive:=fun _=>(α->Rs)->Rs) (fun _ _ _ _ _ _ _ a7 k=>k a7) o⟩
def s1 (α:Type) (d:Nat):S1 α :=
 match d with
 | 0=>⟨fun o=>fS.rec (motive:=fun _=>(α->(α->Rs)->Rs)->(fS α->Rs)->Rs) (fun a0 a1 a2 a3 a4 a5 a6 a7 f k=>f a0 fun x=>k ⟨x,a1,a2,a3,a4,a5,a6,a7⟩) o⟩
 | 1=>⟨fun o=>fS.rec (motive:=fun _=>(α->(α->Rs)->Rs)->(fS α->Rs)->Rs) (fun a0 a1 a2 a3 a4 a5 a6 a7 f k=>f a1 fun x=>k ⟨a0,x,a2,a3,a4,a5,a6,a7⟩) o⟩
 | 2=>⟨fun o=>fS.rec (motive:=fun _=>(α->(α->Rs)->Rs)->(fS α->Rs)->Rs) (fun a0 a1 a2 a3 a4 a5 a6 a7 f k=>f a2 fun x=>k ⟨a0,a1,x,a3,a4,a5,a6,a7⟩) o⟩
 | 3=>⟨fun o=>fS.rec (motive:=fun _=>(α->(α->Rs)->Rs)->(fS α->Rs)->Rs) (fun a0 a1 a2 a3 a4 a5 a6 a7 f k=>f a3 fun x=>k ⟨a0,a1,a2,x,a4,a5,a6,a7⟩) o⟩
 | 4=>⟨fun o=>fS.rec (motive:=fun _=>(α->(α->Rs)->Rs)->(fS α->Rs)->Rs) (fun a0 a1 a2 a3 a4 a5 a6 a7 f k=>f a4 fun x=>k ⟨a0,a1,a2,a3,x,a5,a6,a7⟩) o⟩
 | 5=>⟨fun o=>fS.rec (motive:=fun _=>(α->(α->Rs)->Rs)->(fS α->Rs)->Rs) (fun a0 a1 a2 a3 a4 a5 a6 a7 f k=>f a5 fun x=>k ⟨a0,a1,a2,a3,a4,x,a6,a7⟩) o⟩
 | 6=>⟨fun o=>fS.rec (motive:=fun _=>(α->(α->Rs)->Rs)->(fS α->Rs)->Rs) (fun a0 a1 a2 a3 a4 a5 a6 a7 f k=>f a6 fun x=>k ⟨a0,a1,a2,a3,a4,a5,x,a7⟩) o⟩
 | _=>⟨fun o=>fS.rec (motive:=fun _=>(α->(α->Rs)->Rs)->(fS α->Rs)->Rs) (fun a0 a1 a2 a3 a4 a5 a6 a7 f k=>f a7 fun x=>k ⟨a0,a1,a2,a3,a4,a5,a6,x⟩) o⟩
def s2 (α:Type) (d:Nat):S2 α :=
 match d with
 | 0=>⟨fun o=>fS.rec (motive:=fun _=>α->(fS α->Rs)->Rs) (fun _ a1 a2 a3 a4 a5 a6 a7 x k=>k ⟨x,a1,a2,a3,a4,a5,a6,a7⟩) o⟩
 | 1=>⟨fun o=>fS.rec (motive:=fun _=>α->(fS α->Rs)->Rs) (fun a0 _ a2 a3 a4 a5 a6 a7 x k=>k ⟨a0,x,a2,a3,a4,a5,a6,a7⟩) o⟩
 | 2=>⟨fun o=>fS.rec (motive:=fun _=>α->(fS α->Rs)->Rs) (fun a0 a1 _ a3 a4 a5 a6 a7 x k=>k ⟨a0,a1,x,a3,a4,a5,a6,a7⟩) o⟩
 | 3=>⟨fun o=>fS.rec (motive:=fun _=>α->(fS α->Rs)->Rs) (fun a0 a1 a2 _ a4 a5 a6 a7 x k=>k ⟨a0,a1,a2,x,a4,a5,a6,a7⟩) o⟩
 | 4=>⟨fun o=>fS.rec (motive:=fun _=>α->(fS α->Rs)->Rs) (fun a0 a1 a2 a3 _ a5 a6 a7 x k=>k ⟨a0,a1,a2,a3,x,a5,a6,a7⟩) o⟩
 | 5=>⟨fun o=>fS.rec (motive:=fun _=>α->(fS α->Rs)->Rs) (fun a0 a1 a2 a3 a4 _ a6 a7 x k=>k ⟨a0,a1,a2,a3,a4,x,a6,a7⟩) o⟩
 | 6=>⟨fun o=>fS.rec (motive:=fun _=>α->(fS α->Rs)->Rs) (fun a0 a1 a2 a3 a4 a5 _ a7 x k=>k ⟨a0,a1,a2,a3,a4,a5,x,a7⟩) o⟩
 | _=>⟨fun o=>fS.rec (motive:=fun _=>α->(fS α->Rs)->Rs) (fun a0 a1 a2 a3 a4 a5 a6 _ x k=>k ⟨a0,a1,a2,a3,a4,a5,a6,x⟩) o⟩
structure Q8 where run:Tm->(AV->Rs)->Rs
structure Q9 where run:Tm->AV->(Tm->Rs)->Rs
def aD:AV:=.cu []
def om (t:Nat):Q8 :=
 match Nat.ble t 63 with
 | true=>⟨fun tm k=>Tm.rec (motive:=fun _=>(AV->Rs)->Rs) (fun lo _ _ k=>(g1 (fS AV) (Nat.div t 8)).run lo fun o=>(g1 AV (Nat.mod t 8)).run o k) tm k⟩
 | false=>zL Q8 t fun p=>⟨fun tm k=>Tm.rec (motive:=fun _=>(AV->Rs)->Rs) (fun _ hi _ k=>hi.fC p (k aD) k) tm k⟩
def tP (t:Nat):Q9 :=
 match Nat.ble t 63 with
 | true=>⟨fun tm v k=>Tm.rec (motive:=fun _=>AV->(Tm->Rs)->Rs) (fun lo hi ml v k=>(s1 (fS AV) (Nat.div t 8)).run lo (fun o k=>(s2 AV (Nat.mod t 8)).run o v k) fun lo=>k ⟨lo,hi,ml⟩) tm v k⟩
 | false=>zL Q9 t fun p=>⟨fun tm v k=>Tm.rec (motive:=fun _=>AV->(Tm->Rs)->Rs) (fun lo hi ml v k=>hi.cH p v fun hi=>k ⟨lo,hi,ml⟩) tm v k⟩
def zM {α:Type} (a:α):fS α:=⟨a,a,a,a,a,a,a,a⟩
def Tm.e:Tm:=⟨⟨⟨.cu [],.cu [],.cu [],.cu [],.cu [],.cu [],.cu [],.cu []⟩,zM aD,zM aD,zM aD,zM aD,zM aD,zM aD,zM aD⟩,.e,[]⟩
def bD (b:Bool) (x y:Rs):Rs:=Bool.rec (motive:=fun _=>Rs) y x b
def bd (n:Nat) (k:Nat->Rs):Rs:=Nat.rec (motive:=fun _=>Rs) (k 0) (fun m _=>k (Nat.succ m)) n
def lF (z:Int) (k:Int->Rs):Rs:=Int.rec (motive:=fun _=>Rs) (fun m=>bd m fun m=>k (.ofNat m)) (fun m=>bd m fun m=>k (.negSucc m)) z
def bY (b:Bool) (k:Bool->Rs):Rs:=Bool.rec (motive:=fun _=>Rs) (k false) (k true) b
def AV.cells (v:AV):List AV :=
 AV.rec (motive_1:=fun _=>List AV) (motive_2:=fun _=>Unit)
  (fun b=>[.bool b])
  (fun k n=>[.int k n])
  (fun l n=>[.str l n])
  (fun k n=>[.float k n])
  (fun p o=>[.ptr p o])
  ([.dq])
  (fun p o l c=>[.slice p o l c])
  (fun p o l c=>[.aS p o l c])
  ([.aB])
  (fun p=>[.map p])
  ([.aV])
  (fun f a b _ _=>[.func f a b])
  ([.cg])
  (fun t v _=>[.iface t v])
  ([.nilIface])
  (fun cs _=>cs)
  (fun vs _=>[.cu vs])
  (fun b o l c=>[.di b o l c])
  (fun b o=>[.bW b o])
  (fun b=>[.dG b])
  () (fun _ _ _ _=>()) v
def asInt (v:AV):(IntKind->Int->Rs)->Rs :=
 AV.rec (motive_1:=fun _=>(IntKind->Int->Rs)->Rs) (motive_2:=fun _=>Unit)
  (fun _ _=>.bad 1)
  (fun k n kk=>kk k n)
  (fun _ _ _=>.bad 1)
  (fun _ _ _=>.bad 1)
  (fun _ _ _=>.bad 1)
  (fun _=>.bad 1)
  (fun _ _ _ _ _=>.bad 1)
  (fun _ _ _ _ _=>.bad 1)
  (fun _=>.bad 1)
  (fun _ _=>.bad 1)
  (fun _=>.bad 1)
  (fun _ _ _ _ _ _=>.bad 1)
  (fun _=>.bad 1)
  (fun _ _ _ _=>.bad 1)
  (fun _=>.bad 1)
  (fun _ _ _=>.bad 1)
  (fun _ _ _=>.bad 1)
  (fun _ _ _ _ _=>.bad 1)
  (fun _ _ _=>.bad 1)
  (fun _ _=>.bad 1)
  () (fun _ _ _ _=>()) v
def asBool (v:AV):(Bool->Rs)->Rs :=
 AV.rec (motive_1:=fun _=>(Bool->Rs)->Rs) (motive_2:=fun _=>Unit)
  (fun b kk=>kk b)
  (fun _ _ _=>.bad 2)
  (fun _ _ _=>.bad 2)
  (fun _ _ _=>.bad 2)
  (fun _ _ _=>.bad 2)
  (fun _=>.bad 2)
  (fun _ _ _ _ _=>.bad 2)
  (fun _ _ _ _ _=>.bad 2)
  (fun _=>.bad 2)
  (fun _ _=>.bad 2)
  (fun _=>.bad 2)
  (fun _ _ _ _ _ _=>.bad 2)
  (fun _=>.bad 2)
  (fun _ _ _ _=>.bad 2)
  (fun _=>.bad 2)
  (fun _ _ _=>.bad 2)
  (fun _ _ _=>.bad 2)
  (fun _ _ _ _ _=>.bad 2)
  (fun _ _ _=>.bad 2)
  (fun _ _=>.bad 2)
  () (fun _ _ _ _=>()) v
def jr (v:AV):(Pz->Nat->Rs)->Rs :=
 AV.rec (motive_1:=fun _=>(Pz->Nat->Rs)->Rs) (motive_2:=fun _=>Unit)
  (fun _ _=>.bad 3)
  (fun _ _ _=>.bad 3)
  (fun _ _ _=>.bad 3)
  (fun _ _ _=>.bad 3)
  (fun p o kk=>kk p o)
  (fun _=>.bad 3)
  (fun _ _ _ _ _=>.bad 3)
  (fun _ _ _ _ _=>.bad 3)
  (fun _=>.bad 3)
  (fun _ _=>.bad 3)
  (fun _=>.bad 3)
  (fun _ _ _ _ _ _=>.bad 3)
  (fun _=>.bad 3)
  (fun _ _ _ _=>.bad 3)
  (fun _=>.bad 3)
  (fun _ _ _=>.bad 3)
  (fun _ _ _=>.bad 3)
  (fun _ _ _ _ _=>.bad 3)
  (fun _ _ _=>.bad 3)
  (fun _ _=>.bad 3)
  () (fun _ _ _ _=>()) v
def jE (v:AV):(Rs)->(Nat->Nat->Rs)->Rs :=
 AV.rec (motive_1:=fun _=>(Rs)->(Nat->Nat->Rs)->Rs) (motive_2:=fun _=>Unit)
  (fun _ z _=>z)
  (fun _ _ z _=>z)
  (fun l n _ kk=>kk l n)
  (fun _ _ z _=>z)
  (fun _ _ z _=>z)
  (fun z _=>z)
  (fun _ _ _ _ z _=>z)
  (fun _ _ _ _ z _=>z)
  (fun z _=>z)
  (fun _ z _=>z)
  (fun z _=>z)
  (fun _ _ _ _ _ z _=>z)
  (fun z _=>z)
  (fun _ _ _ z _=>z)
  (fun z _=>z)
  (fun _ _ z _=>z)
  (fun _ _ z _=>z)
  (fun _ _ _ _ z _=>z)
  (fun _ _ z _=>z)
  (fun _ z _=>z)
  () (fun _ _ _ _=>()) v
def EN (v:AV):(Rs)->(List AV->Rs)->Rs :=
 AV.rec (motive_1:=fun _=>(Rs)->(List AV->Rs)->Rs) (motive_2:=fun _=>Unit)
  (fun _ z _=>z)
  (fun _ _ z _=>z)
  (fun _ _ z _=>z)
  (fun _ _ z _=>z)
  (fun _ _ z _=>z)
  (fun z _=>z)
  (fun _ _ _ _ z _=>z)
  (fun _ _ _ _ z _=>z)
  (fun z _=>z)
  (fun _ z _=>z)
  (fun z _=>z)
  (fun _ _ _ _ _ z _=>z)
  (fun z _=>z)
  (fun _ _ _ z _=>z)
  (fun z _=>z)
  (fun cs _ _ kk=>kk cs)
  (fun _ _ z _=>z)
  (fun _ _ _ _ z _=>z)
  (fun _ _ z _=>z)
  (fun _ z _=>z)
  () (fun _ _ _ _=>()) v
def EO (v:AV):(Rs)->(List AV->Rs)->Rs :=
 AV.rec (motive_1:=fun _=>(Rs)->(List AV->Rs)->Rs) (motive_2:=fun _=>Unit)
  (fun _ z _=>z)
  (fun _ _ z _=>z)
  (fun _ _ z _=>z)
  (fun _ _ z _=>z)
  (fun _ _ z _=>z)
  (fun z _=>z)
  (fun _ _ _ _ z _=>z)
  (fun _ _ _ _ z _=>z)
  (fun z _=>z)
  (fun _ z _=>z)
  (fun z _=>z)
  (fun _ _ _ _ _ z _=>z)
  (fun z _=>z)
  (fun _ _ _ z _=>z)
  (fun z _=>z)
  (fun _ _ z _=>z)
  (fun vs _ _ kk=>kk vs)
  (fun _ _ _ _ z _=>z)
  (fun _ _ z _=>z)
  (fun _ z _=>z)
  () (fun _ _ _ _=>()) v
def EP (v:AV):(Rs)->(Rs)->(Pz->Nat->Nat->Nat->Rs)->(Pz->Nat->Nat->Nat->Rs)->Rs :=
 AV.rec (motive_1:=fun _=>(Rs)->(Rs)->(Pz->Nat->Nat->Nat->Rs)->(Pz->Nat->Nat->Nat->Rs)->Rs) (motive_2:=fun _=>Unit)
  (fun _ z _ _ _=>z)
  (fun _ _ z _ _ _=>z)
  (fun _ _ z _ _ _=>z)
  (fun _ _ z _ _ _=>z)
  (fun _ _ z _ _ _=>z)
  (fun z _ _ _=>z)
  (fun p o l c _ _ ks _=>ks p o l c)
  (fun p o l c _ _ _ ko=>ko p o l c)
  (fun _ zn _ _=>zn)
  (fun _ z _ _ _=>z)
  (fun z _ _ _=>z)
  (fun _ _ _ _ _ z _ _ _=>z)
  (fun z _ _ _=>z)
  (fun _ _ _ z _ _ _=>z)
  (fun z _ _ _=>z)
  (fun _ _ z _ _ _=>z)
  (fun _ _ z _ _ _=>z)
  (fun _ _ _ _ z _ _ _=>z)
  (fun _ _ z _ _ _=>z)
  (fun _ z _ _ _=>z)
  () (fun _ _ _ _=>()) v
def pK (v:AV):(Rs)->(IntKind->Int->Rs)->(Nat->Nat->Rs)->Rs :=
 AV.rec (motive_1:=fun _=>(Rs)->(IntKind->Int->Rs)->(Nat->Nat->Rs)->Rs) (motive_2:=fun _=>Unit)
  (fun _ z _ _=>z)
  (fun k n _ ki _=>ki k n)
  (fun l n _ _ ks=>ks l n)
  (fun _ _ z _ _=>z)
  (fun _ _ z _ _=>z)
  (fun z _ _=>z)
  (fun _ _ _ _ z _ _=>z)
  (fun _ _ _ _ z _ _=>z)
  (fun z _ _=>z)
  (fun _ z _ _=>z)
  (fun z _ _=>z)
  (fun _ _ _ _ _ z _ _=>z)
  (fun z _ _=>z)
  (fun _ _ _ z _ _=>z)
  (fun z _ _=>z)
  (fun _ _ z _ _=>z)
  (fun _ _ z _ _=>z)
  (fun _ _ _ _ z _ _=>z)
  (fun _ _ z _ _=>z)
  (fun _ z _ _=>z)
  () (fun _ _ _ _=>()) v
def zN (v:AV):(Rs)->(Fn->List AV->List AV->Rs)->Rs :=
 AV.rec (motive_1:=fun _=>(Rs)->(Fn->List AV->List AV->Rs)->Rs) (motive_2:=fun _=>Unit)
  (fun _ z _=>z)
  (fun _ _ z _=>z)
  (fun _ _ z _=>z)
  (fun _ _ z _=>z)
  (fun _ _ z _=>z)
  (fun z _=>z)
  (fun _ _ _ _ z _=>z)
  (fun _ _ _ _ z _=>z)
  (fun z _=>z)
  (fun _ z _=>z)
  (fun z _=>z)
  (fun f a b _ _ _ kk=>kk f a b)
  (fun z _=>z)
  (fun _ _ _ z _=>z)
  (fun z _=>z)
  (fun _ _ z _=>z)
  (fun _ _ z _=>z)
  (fun _ _ _ _ z _=>z)
  (fun _ _ z _=>z)
  (fun _ z _=>z)
  () (fun _ _ _ _=>()) v
def L9 (v:AV):(Rs)->(Pz->Nat->Rs)->(Fn->List AV->List AV->Rs)->Rs :=
 AV.rec (motive_1:=fun _=>(Rs)->(Pz->Nat->Rs)->(Fn->List AV->List AV->Rs)->Rs) (motive_2:=fun _=>Unit)
  (fun _ z _ _=>z)
  (fun _ _ z _ _=>z)
  (fun _ _ z _ _=>z)
  (fun _ _ z _ _=>z)
  (fun p o _ kp _=>kp p o)
  (fun z _ _=>z)
  (fun _ _ _ _ z _ _=>z)
  (fun _ _ _ _ z _ _=>z)
  (fun z _ _=>z)
  (fun _ z _ _=>z)
  (fun z _ _=>z)
  (fun f a b _ _ _ _ kf=>kf f a b)
  (fun z _ _=>z)
  (fun _ _ _ z _ _=>z)
  (fun z _ _=>z)
  (fun _ _ z _ _=>z)
  (fun _ _ z _ _=>z)
  (fun _ _ _ _ z _ _=>z)
  (fun _ _ z _ _=>z)
  (fun _ z _ _=>z)
  () (fun _ _ _ _=>()) v
def ER (v:AV):(Rs)->(Bool->Rs)->Rs :=
 AV.rec (motive_1:=fun _=>(Rs)->(Bool->Rs)->Rs) (motive_2:=fun _=>Unit)
  (fun b _ kb=>kb b)
  (fun _ _ z _=>z)
  (fun _ _ z _=>z)
  (fun _ _ z _=>z)
  (fun _ _ z _=>z)
  (fun z _=>z)
  (fun _ _ _ _ z _=>z)
  (fun _ _ _ _ z _=>z)
  (fun z _=>z)
  (fun _ z _=>z)
  (fun z _=>z)
  (fun _ _ _ _ _ z _=>z)
  (fun z _=>z)
  (fun _ _ _ z _=>z)
  (fun z _=>z)
  (fun _ _ z _=>z)
  (fun _ _ z _=>z)
  (fun _ _ _ _ z _=>z)
  (fun _ _ z _=>z)
  (fun _ z _=>z)
  () (fun _ _ _ _=>()) v
def Ma (v:AV):(Rs)->(Rs)->(Pz->Rs)->Rs :=
 AV.rec (motive_1:=fun _=>(Rs)->(Rs)->(Pz->Rs)->Rs) (motive_2:=fun _=>Unit)
  (fun _ z _ _=>z)
  (fun _ _ z _ _=>z)
  (fun _ _ z _ _=>z)
  (fun _ _ z _ _=>z)
  (fun _ _ z _ _=>z)
  (fun z _ _=>z)
  (fun _ _ _ _ z _ _=>z)
  (fun _ _ _ _ z _ _=>z)
  (fun z _ _=>z)
  (fun p _ _ km=>km p)
  (fun _ zn _=>zn)
  (fun _ _ _ _ _ z _ _=>z)
  (fun z _ _=>z)
  (fun _ _ _ z _ _=>z)
  (fun z _ _=>z)
  (fun _ _ z _ _=>z)
  (fun _ _ z _ _=>z)
  (fun _ _ _ _ z _ _=>z)
  (fun _ _ z _ _=>z)
  (fun _ z _ _=>z)
  () (fun _ _ _ _=>()) v
def asNat (v:AV) (k:Nat->Rs):Rs:=asInt v fun _ n=>Int.rec (motive:=fun _=>Rs) k (fun _=>.bad 4) n
def tQ {α:Type} (r:Nat):List α->(α->Rs)->Rs :=
 Nat.rec (motive:=fun _=>List α->(α->Rs)->Rs) (fun l k=>List.rec (motive:=fun _=>Rs) (.bad 5) (fun v _ _=>k v) l)
  (fun _ ih l k=>List.rec (motive:=fun _=>Rs) (.bad 5) (fun _ t _=>ih t k) l) r
def Mb (vs:List AV):List AV->(List AV->Rs)->Rs :=
 List.rec (motive:=fun _=>List AV->(List AV->Rs)->Rs) (fun l k=>k l)
  (fun v _ ih l k=>List.rec (motive:=fun _=>Rs) (.bad 6) (fun _ t _=>ih t fun t=>k (v::t)) l) vs
def oq (r:Nat) (vs:List AV):List AV->(List AV->Rs)->Rs :=
 Nat.rec (motive:=fun _=>List AV->(List AV->Rs)->Rs) (fun l k=>Mb vs l k)
  (fun _ ih l k=>List.rec (motive:=fun _=>Rs) (.bad 6) (fun x t _=>ih t fun t=>k (x::t)) l) r
def qz (n:Nat):List AV->(List AV->Rs)->Rs :=
 Nat.rec (motive:=fun _=>List AV->(List AV->Rs)->Rs) (fun _ k=>k [])
  (fun _ ih l k=>List.rec (motive:=fun _=>Rs) (.bad 7) (fun x t _=>ih t fun t=>k (x::t)) l) n
def ot (n:Nat):List AV->(List AV->Rs)->Rs :=
 Nat.rec (motive:=fun _=>List AV->(List AV->Rs)->Rs) (fun l k=>k l)
  (fun _ ih l k=>List.rec (motive:=fun _=>Rs) (.bad 7) (fun _ t _=>ih t k) l) n
def vH (l:List UInt8):Nat:=l.foldl (fun n b=>n*256+b.toNat) 0
def ES:Fn->Bool
 | .yield _=>false
 | _=>true
def ic:Nat->Value->Option AV
 | 0,_=>none
 | _+1,.bool b=>some (.bool b)
 | _+1,.int k n=>some (.int k n)
 | _+1,.float k n=>some (.float k n)
 | _+1,.string s=>some (.str s.data.toList.length (vH s.data.toList))
 | _+1,.pointer none=>some .dq
 | _+1,.slice none 0 0=>some .aB
 | _+1,.map none=>some .aV
 | _+1,.nilFunc=>some .cg
 | _+1,.nilIface=>some .nilIface
 | d+1,.func fn first captured =>
   match ES fn,first.toList.mapM (ic d),captured.toList.mapM (ic d) with
   | true,some a,some b=>some (.func fn a b)
   | _,_,_=>none
 | d+1,.agg cs=>(cs.toList.mapM (ic d)).map .agg
 | d+1,.tuple cs=>(cs.toList.mapM (ic d)).map .cu
 | _,_=>none
def NW (o:AO):(Nat->Bool->Rs)->Rs :=
 AO.rec (motive:=fun _=>(Nat->Bool->Rs)->Rs) (fun _ _ _ _ _=>.bad 12) (fun _ _ _ _ _ _ _ _=>.bad 12) (fun e s kk=>kk e s) (fun _ _ _=>.bad 12) (fun _ _ _ _ _=>.bad 12) (fun _ _ _ _ _ _ _ _=>.bad 12) (fun _=>.bad 12) (fun _=>.bad 12) o
def ET (o:AO):(Nat->Nat->TypeId->Tr (List AV)->Rs)->(Pz->Nat->Bool->Nat->Nat->TypeId->Tr (List AV)->Rs)->Rs :=
 AO.rec (motive:=fun _=>(Nat->Nat->TypeId->Tr (List AV)->Rs)->(Pz->Nat->Bool->Nat->Nat->TypeId->Tr (List AV)->Rs)->Rs)
  (fun es n el c ka _=>ka es n el c) (fun f ep ec es n el c _ ks=>ks f ep ec es n el c) (fun _ _ _ _=>.bad 14) (fun _ _ _ _=>.bad 14) (fun _ _ _ _ _ _=>.bad 14) (fun _ _ _ _ _ _ _ _ _=>.bad 14) (fun _ _=>.bad 14) (fun _ _=>.bad 14) o
def nI (o:AO):(List ME->Nat->Rs)->Rs :=
 AO.rec (motive:=fun _=>(List ME->Nat->Rs)->Rs) (fun _ _ _ _ _=>.bad 103) (fun _ _ _ _ _ _ _ _=>.bad 103) (fun _ _ _=>.bad 103) (fun es c kk=>kk es c) (fun _ _ _ _ _=>.bad 103) (fun _ _ _ _ _ _ _ _=>.bad 103) (fun _=>.bad 103) (fun _=>.bad 103) o
def vI (o:AO):(Pz->Nat->List Nat->Nat->Rs)->Rs :=
 AO.rec (motive:=fun _=>(Pz->Nat->List Nat->Nat->Rs)->Rs) (fun _ _ _ _ _=>.bad 260) (fun _ _ _ _ _ _ _ _=>.bad 260) (fun _ _ _=>.bad 260) (fun _ _ _=>.bad 260) (fun m s l c kk=>kk m s l c) (fun _ _ _ _ _ _ _ _=>.bad 260) (fun _=>.bad 260) (fun _=>.bad 260) o
def kj (o:AO):(Nat->Nat->Tm->Array Tmp->Code->Code->LS->Rs)->Rs :=
 AO.rec (motive:=fun _=>(Nat->Nat->Tm->Array Tmp->Code->Code->LS->Rs)->Rs) (fun _ _ _ _ _=>.bad 290) (fun _ _ _ _ _ _ _ _=>.bad 290) (fun _ _ _=>.bad 290) (fun _ _ _=>.bad 290) (fun _ _ _ _ _=>.bad 290) (fun f nt tm ps a b st kk=>kk f nt tm ps a b st) (fun _=>.bad 290) (fun _=>.bad 290) o
def zO (o:AO) (r:Rs):Rs :=
 AO.rec (motive:=fun _=>Rs) (fun _ _ _ _=>.bad 291) (fun _ _ _ _ _ _ _=>.bad 291) (fun _ _=>.bad 291) (fun _ _=>.bad 291) (fun _ _ _ _=>.bad 291) (fun _ _ _ _ _ _ _=>.bad 291) r (.bad 291) o
def uj (hp:Tr AO) (f:Pz) (ep:Nat) (k:Bool->Rs):Rs :=
 hp.fC f (.bad 10) fun o=>NW o fun e gR=>bD (Nat.beq e ep) (k gR) (.bad 11)
def JH (hp:Tr AO) (id:Pz) (k:Nat->Nat->Tr (List AV)->Rs):Rs :=
 hp.fC id (.bad 13) fun o=>ET o (fun es n _ c=>k es n c) fun f ep _ es n _ c=>uj hp f ep fun _=>k es n c
def uk (es n:Nat) (c:Tr (List AV)) (off:Nat) (k:Nat->Nat->List AV->Rs):Rs :=
 bd (Nat.div off es) fun q=>bd (Nat.mod off es) fun r=>bD (Nat.blt q n) (c.fC (aX q) (.bad 15) fun l=>k q r l) (.bad 16)
def ou (hp:Tr AO) (id:Pz) (off:Nat) (k:AV->Rs):Rs :=
 JH hp id fun es n c=>uk es n c off fun _ r l=>tQ r l k
def jN (hp:Tr AO) (id:Pz) (off sz:Nat) (k:List AV->Rs):Rs :=
 JH hp id fun es n c=>uk es n c off fun _ r l =>
  bD (Nat.beq sz es&&Nat.beq r 0) (k l) (ot r l fun l=>qz sz l k)
def qV (v:AV):Bool :=
 AV.rec (motive_1:=fun _=>Bool) (motive_2:=fun _=>Unit)
  (fun _=>true)
  (fun _ _=>true)
  (fun _ _=>true)
  (fun _ _=>true)
  (fun _ _=>true)
  (true)
  (fun _ _ _ _=>true)
  (fun _ _ _ _=>true)
  (true)
  (fun _=>true)
  (true)
  (fun _ _ _ _ _=>true)
  (true)
  (fun _ _ _=>true)
  (true)
  (fun _ _=>false)
  (fun _ _=>false)
  (fun _ _ _ _=>true)
  (fun _ _=>true)
  (fun _=>true)
  () (fun _ _ _ _=>()) v
def flat (vs:List AV):Bool:=List.rec (motive:=fun _=>Bool) true (fun v _ ih=>Bool.rec (motive:=fun _=>Bool) false ih (qV v)) vs
def iV (hp:Tr AO) (id:Pz) (off:Nat) (vs:List AV) (k:Tr AO->Rs):Rs :=
 bD (flat vs) (hp.fC id (.bad 17) fun o=>ET o (fun es n el c=>uk es n c off fun q r l=>oq r vs l fun l=>c.cH (aX q) l fun c=>hp.cH id (.arr es n el c) k)
    (fun f ep ec es n el c=>uj hp f ep fun gR =>
     uk es n c off fun q r l=>oq r vs l fun l=>c.cH (aX q) l fun c =>
      bD gR (hp.cH id (.ca f ep ec es n el c) k)
       (bd (ep+1) fun ep=>hp.cH f (.cU ep true) fun hp=>hp.cH id (.ca f ep ec es n el c) k))) (.bad 19)
def newObj (hp:Tr AO) (nx:Pz) (o:AO) (k:Pz->Tr AO->Pz->Rs):Rs :=
 hp.cH nx o fun hp=>nx.L8 fun nx'=>k nx hp nx'
def kq (hp:Tr AO) (nx:Pz) (es n:Nat) (el:TypeId) (c:Tr (List AV)) (k:Pz->Tr AO->Pz->Rs):Rs :=
 newObj hp nx (.arr es n el c) k
def one (l:List AV):Tr (List AV):=.n .e (some l) .e
def Dq (ls:List (List AV)):Nat->Tr (List AV)->(Tr (List AV)->Rs)->Rs :=
 List.rec (motive:=fun _=>Nat->Tr (List AV)->(Tr (List AV)->Rs)->Rs) (fun _ c k=>k c)
  (fun l _ ih q c k=>c.cH (aX q) l fun c=>bd (q+1) fun q=>ih q c k) ls
def iO (hp:Tr AO) (id:Pz) (sz:Nat) (n:Nat):Nat->(List (List AV)->Rs)->Rs :=
 Nat.rec (motive:=fun _=>Nat->(List (List AV)->Rs)->Rs) (fun _ k=>k [])
  (fun _ ih off k=>jN hp id off sz fun l=>bd (off+sz) fun off=>ih off fun r=>k (l::r)) n
def kr (id:Pz) (sz:Nat) (ls:List (List AV)):Nat->Tr AO->(Tr AO->Rs)->Rs :=
 List.rec (motive:=fun _=>Nat->Tr AO->(Tr AO->Rs)->Rs) (fun _ hp k=>k hp)
  (fun l _ ih off hp k=>bD (Nat.beq l.length sz) (iV hp id off l fun hp=>bd (off+sz) fun off=>ih off hp k) (.bad 9)) ls
def ae (P:Program) (t:TypeId):Nat:=((P.info? t).map (·.size)).getD 0
def zeroOf (P:Program) (t:TypeId):Option AV:=match P.info? t with | some i=>i.zero.bind (ic 8) | none=>none
def dJ (P:Program) (t:TypeId):Bool:=match P.underlying t with | some (.struct _) | some (.array _ _)=>true | _=>false
def cr (P:Program) (t:TypeId):Bool:=(P.underlying t).isSome
structure Dt where run:Tm->(AV->Rs)->Rs
def ck (x:Operand):Dt :=
 match x with
 | .tmp t=>⟨(om t).run⟩
 | .const v=>match ic 8 v with
   | some a=>⟨fun _ k=>k a⟩
   | none=>⟨fun _ _=>.bad 20⟩
 | .global _=>⟨fun _ _=>.bad 21⟩
 | .func f=>⟨fun _ k=>k (.func (.func f) [] [])⟩
def xx (xs:List Operand):Tm->(List AV->Rs)->Rs :=
 List.rec (motive:=fun _=>Tm->(List AV->Rs)->Rs) (fun _ k=>k []) (fun x _ ih tm k=>(ck x).run tm fun v=>ih tm fun vs=>k (v::vs)) xs
structure bx where
 run:Nat->List AV->Tr AO->Pz->(AV->Tr AO->Pz->Rs)->Rs
 code:Nat->Nat->Code->Tm->Tr AO->Pz->(Ex->Tm->Tr AO->Pz->Rs)->Rs
structure OB where run:bx->Tm->Tr AO->Pz->(AV->Tr AO->Pz->Rs)->Rs
def cV (n:Nat):OB:=⟨fun _ _ _ _ _=>.bad n⟩
def dj (f:Tm->(AV->Rs)->Rs):OB:=⟨fun _ tm hp nx k=>f tm fun v=>k v hp nx⟩
def EU (v:AV):Option Value :=
 match v with
 | .bool b=>some (.bool b)
 | .int k n=>some (.int k n)
 | .float k n=>some (.float k n)
 | _=>none
def EV (s:Sem Value) (k:AV->Rs):Rs :=
 match s with
 | .pure (.int kd n)=>lF n fun n=>k (.int kd n)
 | .pure (.bool b)=>bY b fun b=>k (.bool b)
 | .pure (.float f b)=>bd b fun b=>k (.float f b)
 | _=>.bad 30
def um (kd:IntKind) (z:Int) (k:Int->Rs):Rs :=
 match kd with
 | .i64=>Int.rec (motive:=fun _=>Rs) (fun m=>bD (Nat.ble m 9223372036854775807) (bd m fun m=>k (.ofNat m)) (lF (IntKind.i64.wrap z) k))
   (fun m=>bD (Nat.ble m 9223372036854775807) (bd m fun m=>k (.negSucc m)) (lF (IntKind.i64.wrap z) k)) z
 | kd=>lF (kd.wrap z) k
def EW (op:BinOp) (t:TypeId) (kd:IntKind) (a:Int) (kd':IntKind) (b:Int) (k:AV->Rs):Rs :=
 match op with
 | .add=>bD (decide (kd=kd')) (um kd (Int.add a b) fun z=>k (.int kd z)) (.bad 31)
 | .sub=>bD (decide (kd=kd')) (um kd (Int.sub a b) fun z=>k (.int kd z)) (.bad 31)
 | .eql=>bD (decide (kd=kd')) (bY (a==b) fun b=>k (.bool b)) (.bad 31)
 | .neq=>bD (decide (kd=kd')) (bY (a != b) fun b=>k (.bool b)) (.bad 31)
 | .lss=>bD (decide (kd=kd')) (bY (decide (a<b)) fun b=>k (.bool b)) (.bad 31)
 | .leq=>bD (decide (kd=kd')) (bY (decide (a<=b)) fun b=>k (.bool b)) (.bad 31)
 | .gtr=>bD (decide (kd=kd')) (bY (decide (a > b)) fun b=>k (.bool b)) (.bad 31)
 | .geq=>bD (decide (kd=kd')) (bY (decide (a ≥ b)) fun b=>k (.bool b)) (.bad 31)
 | op=>EV (binOp op t (.int kd a) (.int kd' b)) k
def lG (n:Nat):Nat:=Nat.shiftLeft 1 (8*n)
def iI (len n:Nat):Nat:=Nat.mod n (lG len)
def aO (l m l' m':Nat):Bool:=Nat.beq l l'&&Nat.beq (iI l m) (iI l' m')
def xy (op:BinOp) (l m l' m':Nat) (k:AV->Rs):Rs :=
 match op with
 | .add=>bd (l+l') fun n=>bD (Nat.ble n 4294967296) (bd (m*lG l'+iI l' m') fun x=>k (.str n x)) (.bad 32)
 | .eql=>bY (aO l m l' m') fun b=>k (.bool b)
 | .neq=>bY (!aO l m l' m') fun b=>k (.bool b)
 | _=>.bad 33
def ku (P:Program):Nat->TypeId->AV->AV->(Bool->Rs)->Rs
 | 0,_,_,_,_=>.bad 34
 | d+1,t,x,y,k =>
   match P.underlying t,x,y with
   | some .bool,.bool a,.bool b=>bY (a==b) k
   | some (.int _),.int ka a,.int kb b=>bD (decide (ka=kb)) (bY (a==b) k) (.bad 35)
   | some .string,.str l m,.str l' m'=>bY (aO l m l' m') k
   | some (.pointer _),.dq,.dq=>k true
   | some (.pointer _),.dq,.ptr _ _=>k false
   | some (.pointer _),.ptr _ _,.dq=>k false
   | some (.slice _),.aB,.aB=>k true
   | some (.slice _),.aB,.slice _ _ _ _=>k false
   | some (.slice _),.aB,.aS _ _ _ _=>k false
   | some (.slice _),.slice _ _ _ _,.aB=>k false
   | some (.slice _),.aS _ _ _ _,.aB=>k false
   | some (.map _ _),.aV,.aV=>k true
   | some (.map _ _),.aV,.map _=>k false
   | some (.map _ _),.map _,.aV=>k false
   | some (.func _ _ _),.cg,.cg=>k true
   | some (.func _ _ _),.cg,.func _ _ _=>k false
   | some (.func _ _ _),.func _ _ _,.cg=>k false
   | some (.struct fields),.agg xs,.agg ys =>
     bD (P.stoodInHeld t) (.bad 36)
      (List.rec (motive:=fun _=>(Bool->Rs)->Rs) (fun k=>k true)
       (fun f _ ih k=>bD (f.name == "_") (ih k)
        (ot f.offset xs fun a=>ot f.offset ys fun b=>bd (ae P f.type) fun sz=>qz sz a fun a=>qz sz b fun b =>
         bD (dJ P f.type) (ku P d f.type (.agg a) (.agg b) fun e=>bD e (ih k) (k false))
          (tQ 0 a fun a=>tQ 0 b fun b=>ku P d f.type a b fun e=>bD e (ih k) (k false)))) fields.toList k)
   | _,_,_=>.bad 37
def xz (P:Program) (op:BinOp) (t:TypeId) (x y:AV) (k:AV->Rs):Rs :=
 match x,y with
 | .int kd a,.int kd' b=>EW op t kd a kd' b k
 | .str l m,.str l' m'=>xy op l m l' m' k
 | .float _ _,_=>.bad 38
 | x,y=>match op with
   | .eql=>ku P 9 t x y fun b=>k (.bool b)
   | .neq=>ku P 9 t x y fun b=>bY (!b) fun b=>k (.bool b)
   | _=>.bad 39
def isEq (op:BinOp):Bool:=match op with | .eql | .neq=>true | _=>false
def ow (P:Program) (op:BinOp) (t:TypeId):Bool:=!isEq op||!P.eqGuardType P.depth t
def dO (a:IntKind):IntKind->Bool :=
 IntKind.rec (motive:=fun _=>IntKind->Bool)
  (fun b=>IntKind.rec (motive:=fun _=>Bool) true false false false false false false false b)
  (fun b=>IntKind.rec (motive:=fun _=>Bool) false true false false false false false false b)
  (fun b=>IntKind.rec (motive:=fun _=>Bool) false false true false false false false false b)
  (fun b=>IntKind.rec (motive:=fun _=>Bool) false false false true false false false false b)
  (fun b=>IntKind.rec (motive:=fun _=>Bool) false false false false true false false false b)
  (fun b=>IntKind.rec (motive:=fun _=>Bool) false false false false false true false false b)
  (fun b=>IntKind.rec (motive:=fun _=>Bool) false false false false false false true false b)
  (fun b=>IntKind.rec (motive:=fun _=>Bool) false false false false false false false true b) a
def uo (mx:Nat) (kd:IntKind) (z:Int) (k:Int->Rs):Rs :=
 Int.rec (motive:=fun _=>Rs) (fun m=>bD (Nat.ble m mx) (bd m fun m=>k (.ofNat m)) (lF (kd.wrap (.ofNat m)) k))
  (fun m=>bD (Nat.ble m mx) (bd m fun m=>k (.negSucc m)) (lF (kd.wrap (.negSucc m)) k)) z
def uq (mx:Nat) (kd:IntKind) (z:Int) (k:Int->Rs):Rs :=
 Int.rec (motive:=fun _=>Rs) (fun m=>bD (Nat.ble m mx) (bd m fun m=>k (.ofNat m)) (lF (kd.wrap (.ofNat m)) k))
  (fun m=>lF (kd.wrap (.negSucc m)) k) z
def rD (kd:IntKind):Int->(Int->Rs)->Rs :=
 IntKind.rec (motive:=fun _=>Int->(Int->Rs)->Rs) (uo 127 .i8) (uo 32767 .i16) (uo 2147483647 .i32) (uo 9223372036854775807 .i64) (uq 255 .u8) (uq 65535 .u16) (uq 4294967295 .u32) (uq 18446744073709551615 .u64) kd
def NX (a:Int):Int->(Int->Rs)->Rs :=
 Int.rec (motive:=fun _=>Int->(Int->Rs)->Rs)
  (fun m b k=>Int.rec (motive:=fun _=>Rs) (fun n=>bd (Nat.add m n) fun s=>k (.ofNat s)) (fun n=>lF (Int.add (.ofNat m) (.negSucc n)) k) b)
  (fun m b k=>lF (Int.add (.negSucc m) b) k) a
def NY (a:Int):Int->(Int->Rs)->Rs :=
 Int.rec (motive:=fun _=>Int->(Int->Rs)->Rs)
  (fun m b k=>Int.rec (motive:=fun _=>Rs) (fun n=>bD (Nat.ble n m) (bd (Nat.sub m n) fun s=>k (.ofNat s)) (lF (Int.sub (.ofNat m) (.ofNat n)) k)) (fun n=>lF (Int.sub (.ofNat m) (.negSucc n)) k) b)
  (fun m b k=>lF (Int.sub (.negSucc m) b) k) a
def Ra (a:Int):Int->(Bool->Rs)->Rs :=
 Int.rec (motive:=fun _=>Int->(Bool->Rs)->Rs)
  (fun m b k=>Int.rec (motive:=fun _=>Rs) (fun n=>bY (Nat.ble (Nat.succ m) n) k) (fun n=>bY (decide (Int.ofNat m < .negSucc n)) k) b)
  (fun m b k=>bY (decide (Int.negSucc m<b)) k) a
def JI (a:Int):Int->(Bool->Rs)->Rs :=
 Int.rec (motive:=fun _=>Int->(Bool->Rs)->Rs)
  (fun m b k=>Int.rec (motive:=fun _=>Rs) (fun n=>bY (Nat.ble m n) k) (fun n=>bY (decide (Int.ofNat m<=.negSucc n)) k) b)
  (fun m b k=>bY (decide (Int.negSucc m<=b)) k) a
def Rb (a:Int):Int->(Bool->Rs)->Rs :=
 Int.rec (motive:=fun _=>Int->(Bool->Rs)->Rs)
  (fun m b k=>Int.rec (motive:=fun _=>Rs) (fun n=>bY (Nat.beq m n) k) (fun n=>k false) b)
  (fun m b k=>Int.rec (motive:=fun _=>Rs) (fun n=>k false) (fun n=>bY (Nat.beq m n) k) b) a
def lH (l m l' m':Nat) (k:Bool->Rs):Rs:=bD (Nat.beq l l') (bY (Nat.beq (iI l m) (iI l' m')) k) (k false)
structure UQ where run:AV->AV->(AV->Rs)->Rs
def Du (k:AV->Rs) (b:Bool):Rs:=Bool.rec (motive:=fun _=>Rs) (k (.bool true)) (k (.bool false)) b
def NZ (P:Program) (op:BinOp) (t:TypeId):UQ :=
 match op with
 | .add=>⟨fun x y k=>pK x (.bad 39) (fun kd a=>asInt y fun kd' b=>bD (dO kd kd') (NX a b fun z=>rD kd z fun z=>k (.int kd z)) (.bad 31)) fun l m=>jE y (.bad 39) fun l' m'=>xy .add l m l' m' k⟩
 | .sub=>⟨fun x y k=>asInt x fun kd a=>asInt y fun kd' b=>bD (dO kd kd') (NY a b fun z=>rD kd z fun z=>k (.int kd z)) (.bad 31)⟩
 | .lss=>⟨fun x y k=>asInt x fun kd a=>asInt y fun kd' b=>bD (dO kd kd') (Ra a b fun b=>k (.bool b)) (.bad 31)⟩
 | .gtr=>⟨fun x y k=>asInt x fun kd a=>asInt y fun kd' b=>bD (dO kd kd') (Ra b a fun b=>k (.bool b)) (.bad 31)⟩
 | .leq=>⟨fun x y k=>asInt x fun kd a=>asInt y fun kd' b=>bD (dO kd kd') (JI a b fun b=>k (.bool b)) (.bad 31)⟩
 | .geq=>⟨fun x y k=>asInt x fun kd a=>asInt y fun kd' b=>bD (dO kd kd') (JI b a fun b=>k (.bool b)) (.bad 31)⟩
 | .eql=>⟨fun x y k=>pK x (xz P .eql t x y k) (fun kd a=>asInt y fun kd' b=>bD (dO kd kd') (Rb a b fun b=>k (.bool b)) (.bad 31)) fun l m=>jE y (.bad 39) fun l' m'=>lH l m l' m' fun b=>k (.bool b)⟩
 | .neq=>⟨fun x y k=>pK x (xz P .neq t x y k) (fun kd a=>asInt y fun kd' b=>bD (dO kd kd') (Rb a b (Du k)) (.bad 31)) fun l m=>jE y (.bad 39) fun l' m'=>lH l m l' m' (Du k)⟩
 | op=>⟨fun x y k=>xz P op t x y k⟩
def er (P:Program) (t:TypeId) (f:Nat):Option (Nat × TypeId) :=
 match P.underlying t with
 | some (.struct fs)=>(fs[f]?).map fun f=>(f.offset,f.type)
 | _=>none
def qA (place:Nat->Option (Nat × Nat)) (ps:List (Nat × Operand)):Tm->List AV->(List AV->Rs)->Rs :=
 List.rec (motive:=fun _=>Tm->List AV->(List AV->Rs)->Rs) (fun _ cs k=>k cs)
  (fun p _ ih tm cs k=>match place p.1 with
   | none=>.bad 40
   | some (off,size)=>(ck p.2).run tm fun v=>bD (Nat.beq v.cells.length size) (oq off v.cells cs fun cs=>ih tm cs k) (.bad 41)) ps
def gv (n:Nat) (l:List AV):List AV:=Nat.rec (motive:=fun _=>List AV) [] (fun _ ih=>l++ih) n
def vJ (sz:Nat) (n:Nat):List AV->Nat->Tr (List AV)->(Tr (List AV)->Rs)->Rs :=
 Nat.rec (motive:=fun _=>List AV->Nat->Tr (List AV)->(Tr (List AV)->Rs)->Rs) (fun _ _ c k=>k c)
  (fun _ ih cs q c k=>qz sz cs fun l=>ot sz cs fun r=>c.cH (aX q) l fun c=>bd (q+1) fun q=>ih r q c k) n
def Bp (n:Nat) (l:List AV):Nat->Tr (List AV)->(Tr (List AV)->Rs)->Rs :=
 Nat.rec (motive:=fun _=>Nat->Tr (List AV)->(Tr (List AV)->Rs)->Rs) (fun _ c k=>k c)
  (fun _ ih q c k=>c.cH (aX q) l fun c=>bd (q+1) fun q=>ih q c k) n
def eK (x:Option Dt) (tm:Tm) (d:Nat) (k:Nat->Rs):Rs :=
 match x with
 | none=>k d
 | some e=>e.run tm fun v=>asNat v k
def zP (P:Program) (t:TypeId) (x:Dt) (lo hi mx:Option Dt):OB :=
 match P.underlying t with
 | some .string=>match mx with
   | none=>⟨fun _ tm hp nx k=>x.run tm fun v=>jE v (.bad 51) fun len n=>eK hi tm len fun h=>eK lo tm 0 fun l=>bD (Nat.ble l h&&Nat.ble h len) (bd (Nat.sub h l) fun ln=>bd (Nat.div n (lG (Nat.sub len h))) fun m=>k (.str ln m) hp nx) (.bad 50)⟩
   | some _=>cV 52
 | some (.slice el)=>match P.info? el,mx with
   | none,_=>cV 62
   | some _,some _=>cV 49
   | some _,none=>⟨fun _ tm hp nx k=>x.run tm fun v=>match v with
     | .slice id off len cap=>eK hi tm len fun h=>eK lo tm 0 fun l =>
       bD (Nat.ble l h&&Nat.ble h cap)
        (bd (Nat.sub h l) fun ln=>bd (Nat.sub cap l) fun c=>bD (Nat.beq cap l) (k (.slice id off ln c) hp nx) (bd (off+l*ae P el) fun off=>k (.slice id off ln c) hp nx)) (.bad 53)
     | .aS id off len skip=>eK hi tm len fun h=>eK lo tm 0 fun l =>
       hp.fC id (.bad 55) fun o=>match o with
       | .ca f ep ec es n el' c=>uj hp f ep fun _=>bD (Nat.ble l h&&Nat.ble (skip+h) n)
         (bD (Nat.beq l 0&&Nat.blt 0 h) (k (.aS id off h skip) hp nx)
          (bD (Nat.blt (skip+l) n) (bd (Nat.sub h l) fun ln=>bd (off+l*ae P el) fun off=>bd (skip+l) fun skip=>k (.aS id off ln skip) hp nx)
           (bD (Nat.beq es (ae P el)&&Nat.beq off (skip*es))
             (hp.cH f (.cU ep false) fun hp=>hp.cH id (.ca f ep false es n el' c) fun hp =>
              newObj hp nx (.ca f ep ec es 0 el' .e) fun id hp nx=>k (.aS id 0 0 0) hp nx) (.bad 56)))) (.bad 58)
       | _=>.bad 57
     | .aB=>eK hi tm 0 fun h=>eK lo tm 0 fun l=>bD (Nat.beq h 0&&Nat.beq l 0) (k .aB hp nx) (.bad 59)
     | _=>.bad 60⟩
 | _=>cV 61
def grow (hp:Tr AO) (nx:Pz) (el:TypeId) (sz:Nat) (ls:List (List AV)) (k:AV->Tr AO->Pz->Rs):Rs :=
 bd ls.length fun n=>Dq ls 0 .e fun c =>
  newObj hp nx (.cU 0 true) fun f hp nx=>newObj hp nx (.ca f 0 true sz n el c) fun id hp nx=>k (.aS id 0 n 0) hp nx
def EX (hp:Tr AO) (nx:Pz) (el:TypeId) (sz:Nat) (c0:Tr (List AV)) (len:Nat) (ls:List (List AV)) (k:AV->Tr AO->Pz->Rs):Rs :=
 bd (len+ls.length) fun n=>Dq ls len c0 fun c =>
  newObj hp nx (.cU 0 true) fun f hp nx=>newObj hp nx (.ca f 0 true sz n el c) fun id hp nx=>k (.aS id 0 n 0) hp nx
def xA (hp:Tr AO) (nx id f:Pz) (ep:Nat) (ec:Bool) (es need n0:Nat) (el:TypeId) (c c':Tr (List AV)) (k:AV->Tr AO->Pz->Rs):Rs :=
 bd (Bool.rec (motive:=fun _=>Nat) (ep+1) ep ec) fun ep=>bd n0 fun n0 =>
  hp.cH f (.cU ep false) fun hp=>hp.cH id (.ca f ep false es n0 el c) fun hp =>
   newObj hp nx (.ca f ep true es need el c') fun id hp nx=>k (.aS id 0 need 0) hp nx
def gx (n sz:Nat):Bool:=Nat.ble n 1000000&&Nat.ble sz 10000
def xB (sz:Nat) (ls:List (List AV)):Bool:=List.rec (motive:=fun _=>Bool) true (fun l _ ih=>Bool.rec (motive:=fun _=>Bool) false ih (Nat.beq l.length sz&&flat l)) ls
def rb (hp:Tr AO) (nx:Pz) (el:TypeId) (sz:Nat) (s:AV) (ls:List (List AV)) (k:AV->Tr AO->Pz->Rs):Rs :=
 bD (xB sz ls) (bd ls.length fun m=>match s with
 | .aB=>bD (Nat.beq m 0) (k .aB hp nx) (bD (gx m sz) (grow hp nx el sz ls k) (.bad 70))
 | .slice id off len cap=>bd (len+m) fun need =>
   bD (Nat.ble need cap) (kr id sz ls (off+len*sz) hp fun hp=>k (.slice id off need cap) hp nx)
    (bD (gx need sz) (JH hp id fun es n c =>
     bD (Nat.beq off 0&&(Nat.beq es sz&&Nat.ble len n)) (EX hp nx el sz c len ls k)
      (iO hp id sz len off fun old=>grow hp nx el sz (old++ls) k)) (.bad 71))
 | .aS id off len skip=>bd (len+m) fun need=>hp.fC id (.bad 72) fun o=>match o with
   | .ca f ep ec es n el' c=>bD (gx need sz&&(Nat.beq es sz&&(Nat.beq off (skip*es)&&(Nat.ble (skip+len) n&&Nat.beq el' el))))
     (uj hp f ep fun _=>bD (Nat.ble (skip+need) n) (kr id sz ls (off+len*sz) hp fun hp=>k (.aS id off need skip) hp nx)
       (bD (Nat.beq skip 0) (Dq ls len c fun c'=>xA hp nx id f ep (ec&&Nat.beq (skip+len) n) es need (skip+len) el' c c' k)
        (iO hp id sz len off fun old=>Dq (old++ls) 0 .e fun c'=>xA hp nx id f ep (ec&&Nat.beq (skip+len) n) es need (skip+len) el' c c' k))) (.bad 74)
   | _=>.bad 75
 | _=>.bad 76) (.bad 77)
end
end Go.aQ
namespace Go.aQ
noncomputable section
def JJ (P:Program) (t:TypeId) (hp:Tr AO) (v:AV) (k:Nat->Rs):Rs :=
 match P.underlying t,v with
 | some .string,.str l _=>k l
 | some (.array n _),_=>k n
 | some (.slice _),.slice _ _ n _=>k n
 | some (.slice _),.aS _ _ n _=>k n
 | some (.slice _),.aB=>k 0
 | some (.map _ _),.aV=>k 0
 | some (.map _ _),.map id=>hp.fC id (.bad 80) fun o=>match o with
   | .map es _=>k es.length
   | _=>.bad 81
 | _,_=>.bad 82
structure UR where run:Tr AO->AV->(Nat->Rs)->Rs
def JK (P:Program) (t:TypeId):UR :=
 match P.underlying t with
 | some .string=>⟨fun _ v k=>jE v (.bad 82) fun l _=>k l⟩
 | some (.slice _)=>⟨fun _ v k=>EP v (.bad 82) (k 0) (fun _ _ n _=>k n) fun _ _ n _=>k n⟩
 | _=>⟨fun hp v k=>JJ P t hp v k⟩
def jO (len:Nat) (n:Nat):List (List AV)->(List (List AV)->Rs)->Rs :=
 Nat.rec (motive:=fun _=>Nat->List (List AV)->(List (List AV)->Rs)->Rs) (fun _ acc k=>k acc)
  (fun _ ih n acc k=>bd (Nat.mod n 256) fun b=>bd (Nat.div n 256) fun n=>ih n ([.int .u8 (.ofNat b)]::acc) k) len n
def kx (hp:Tr AO) (sz:Nat) (v:AV) (k:List (List AV)->Rs):Rs :=
 match v with
 | .aB=>k []
 | .slice id off len _=>iO hp id sz len off k
 | .aS id off len _=>iO hp id sz len off k
 | .str l n=>bD (Nat.beq sz 1) (jO l n [] k) (.bad 83)
 | _=>.bad 84
def lI (ls:List (List AV)):Nat->(Nat->Rs)->Rs :=
 List.rec (motive:=fun _=>Nat->(Nat->Rs)->Rs) (fun n k=>k n)
  (fun l _ ih n k=>tQ 0 l fun v=>match v with | .int .u8 (.ofNat b)=>bD (Nat.blt b 256) (bd (n*256+b) fun n=>ih n k) (.bad 85) | _=>.bad 85) ls
def Bq (P:Program) (src dst:TypeId) (x:Dt):OB :=
 match P.underlying src,P.underlying dst with
 | some (.int _),some (.int kd)=>dj fun tm k=>x.run tm fun v=>asInt v fun _ n=>rD kd n fun n=>k (.int kd n)
 | some .string,some .string=>dj fun tm k=>x.run tm fun v=>match v with | .str l n=>k (.str l n) | _=>.bad 90
 | some .string,some (.slice e)=>match P.underlying e with
   | some (.int .u8)=>⟨fun _ tm hp nx k=>x.run tm fun v=>match v with
     | .str l n=>jO l n [] fun ls=>bD (gx l 1) (grow hp nx e 1 ls k) (.bad 91)
     | _=>.bad 92⟩
   | _=>cV 95
 | some (.slice _),some (.slice e)=>match P.underlying e with
   | some (.int .u8)=>⟨fun _ tm hp nx k=>x.run tm fun v=>match v with
     | .slice id off len cap=>bD (Nat.beq src dst) (hp.fC id (.bad 230) fun o=>match o with
       | .arr _ _ _ _=>k (.slice id off len cap) hp nx
       | _=>.bad 231) (.bad 232)
     | _=>.bad 233⟩
   | _=>cV 234
 | some (.slice e),some .string=>match P.underlying e with
   | some (.int .u8)=>⟨fun _ tm hp nx k=>x.run tm fun v=>match v with
     | .str _ _=>.bad 98
     | v=>kx hp 1 v fun ls=>bd ls.length fun l=>lI ls 0 fun n=>k (.str l n) hp nx⟩
   | _=>cV 96
 | _,_=>cV 97
def lb (P:Program) (t:TypeId) (k:AV) (es:List ME):Nat->Rs->(Nat->ME->Rs)->Rs :=
 List.rec (motive:=fun _=>Nat->Rs->(Nat->ME->Rs)->Rs) (fun _ z _=>z)
  (fun e _ ih i z kk=>ku P 9 t k e.key fun b=>bD b (kk i e) (bd (i+1) fun i=>ih i z kk)) es
def EY (P:Program):Nat->TypeId->AV->Bool
 | 0,_,_=>false
 | d+1,t,v=>match P.underlying t with
   | some .bool | some (.int _) | some .string=>true
   | some (.struct fs)=>match v with
     | .agg cs=>fs.toList.all fun f=>match dJ P f.type with
       | true=>EY P d f.type (.agg ((cs.drop f.offset).take (ae P f.type)))
       | false=>match cs[f.offset]? with
         | some v=>EY P d f.type v
         | none=>false
     | _=>false
   | _=>false
def jF (P:Program) (t:TypeId) (v:AV) (r:Rs):Rs :=
 match P.underlying t with
 | some .bool | some (.int _) | some .string=>r
 | some (.struct _)=>bD (EY P 4 t v) r (.bad 220)
 | _=>.bad 222
def rF (a b:AV):Bool :=
 match a,b with
 | .bool a,.bool b=>a==b
 | .int j a,.int k b=>decide (j=k)&&a==b
 | .str l m,.str l' m'=>aO l m l' m'
 | _,_=>false
def ur:List AV->List AV->Bool
 | [],[]=>true
 | a::as,b::bs=>rF a b&&ur as bs
 | _,_=>false
def nq (a b:AV):Bool :=
 match a,b with
 | .agg xs,.agg ys=>ur xs ys
 | a,b=>rF a b
def oz (v:AV) (i:Nat):List ME->(List ME->Rs)->Rs :=
 Nat.rec (motive:=fun _=>List ME->(List ME->Rs)->Rs) (fun l k=>List.rec (motive:=fun _=>Rs) (.bad 100) (fun e t _=>k (⟨e.key,v,e.born⟩::t)) l)
  (fun _ ih l k=>List.rec (motive:=fun _=>Rs) (.bad 100) (fun e t _=>ih t fun t=>k (e::t)) l) i
def uv (e:ME) (l:List ME):(List ME->Rs)->Rs :=
 List.rec (motive:=fun _=>(List ME->Rs)->Rs) (fun k=>k [e]) (fun x _ ih k=>ih fun t=>k (x::t)) l
def Br (i:Nat):List ME->(List ME->Rs)->Rs :=
 Nat.rec (motive:=fun _=>List ME->(List ME->Rs)->Rs) (fun l k=>List.rec (motive:=fun _=>Rs) (.bad 101) (fun _ t _=>k t) l)
  (fun _ ih l k=>List.rec (motive:=fun _=>Rs) (.bad 101) (fun e t _=>ih t fun t=>k (e::t)) l) i
def oA (hp:Tr AO) (v:AV) (k:Pz->List ME->Nat->Rs):Rs :=
 Ma v (.bad 104) (.bad 104) fun id=>hp.fC id (.bad 102) fun o=>nI o fun es c=>k id es c
def Bs (P:Program) (t:TypeId) (m i:Dt) (ok:Bool):OB :=
 match P.underlying t with
 | some (.map kt et)=>match zeroOf P et with
   | some z =>
     let out (v:AV) (b:Bool) (k:AV->Rs):Rs:=Bool.rec (motive:=fun _=>Rs) (k v) (k (.cu [v,.bool b])) ok
     ⟨fun _ tm hp nx k=>m.run tm fun m=>i.run tm fun i=>jF P kt i (match m with
      | .aV=>out z false fun v=>k v hp nx
      | m=>oA hp m fun _ es _=>lb P kt i es 0 (out z false fun v=>k v hp nx) fun _ e=>out e.val true fun v=>k v hp nx)⟩
   | none=>cV 105
 | _=>cV 106
def vK (P:Program) (t:TypeId) (m i x:Dt):OB :=
 match P.underlying t with
 | some (.map kt _)=>⟨fun _ tm hp nx k=>m.run tm fun m=>i.run tm fun i=>x.run tm fun x=>jF P kt i (oA hp m fun id es c =>
       lb P kt i es 0 (uv ⟨i,x,c⟩ es fun es=>bd (c+1) fun c=>hp.cH id (.map es c) fun hp=>k aD hp nx)
        fun j e=>bD (nq e.key i) (oz x j es fun es=>hp.cH id (.map es c) fun hp=>k aD hp nx) (.bad 107))⟩
 | _=>cV 108
def EZ (P:Program) (t:TypeId) (m i:Dt):OB :=
 match P.underlying t with
 | some (.map kt et)=>match zeroOf P et with
   | some z=>⟨fun _ tm hp nx k=>m.run tm fun m=>i.run tm fun i=>jF P kt i (oA hp m fun id es c =>
     lb P kt i es 0 (uv ⟨i,z,c⟩ es fun es=>bd (c+1) fun c'=>hp.cH id (.map es c') fun hp=>k (.cu [z,.int .i64 (.ofNat c)]) hp nx)
      fun _ e=>bD (nq e.key i) (hp.cH id (.map es c) fun hp=>k (.cu [e.val,.int .i64 (.ofNat e.born)]) hp nx) (.bad 107))⟩
   | none=>cV 109
 | _=>cV 110
def Bt (b:Nat) (es:List ME):Nat->(Nat->Rs)->Rs :=
 List.rec (motive:=fun _=>Nat->(Nat->Rs)->Rs) (fun _ _=>.bad 111) (fun e _ ih i k=>bD (Nat.beq e.born b) (k i) (bd (i+1) fun i=>ih i k)) es
def xC (m s x:Dt):OB :=
 ⟨fun _ tm hp nx k=>m.run tm fun m=>s.run tm fun s=>x.run tm fun x=>oA hp m fun id es c=>asNat s fun b =>
  Bt b es 0 fun j=>oz x j es fun es=>hp.cH id (.map es c) fun hp=>k aD hp nx⟩
def Bu (P:Program) (t:TypeId) (m i:Dt):OB :=
 match P.underlying t with
 | some (.map kt _)=>⟨fun _ tm hp nx k=>m.run tm fun m=>i.run tm fun i=>jF P kt i (match m with
       | .aV=>k aD hp nx
       | m=>oA hp m fun id es c=>lb P kt i es 0 (hp.cH id (.map es c) fun hp=>k aD hp nx) fun j _=>Br j es fun es=>hp.cH id (.map es c) fun hp=>k aD hp nx)⟩
 | _=>cV 113
def N0 (a b:Rs):Rs:=Rs.rec (motive:=fun _=>Rs) b (fun n=>.bad n) a
def Rc (b:Nat) (l:List Nat):Bool:=List.rec (motive:=fun _=>Bool) false (fun x _ ih=>Bool.rec (motive:=fun _=>Bool) ih true (Nat.beq x b)) l
def oB (seen:List Nat) (es:List ME) (z:Rs) (k:ME->Rs):Bool->Rs :=
 List.rec (motive:=fun _=>Bool->Rs) (fun some=>Bool.rec (motive:=fun _=>Rs) z .ok some)
  (fun e _ ih some=>Bool.rec (motive:=fun _=>Rs) (N0 (k e) (ih true)) (ih some) (Rc e.born seen)) es
def N1 (since:Nat) (es:List ME):Bool:=List.rec (motive:=fun _=>Bool) true (fun e _ ih=>Bool.rec (motive:=fun _=>Bool) false ih (Nat.blt e.born since)) es
def zQ (P:Program) (t:TypeId) (x:Dt):OB :=
 match P.underlying t with
 | some (.map _ _)=>⟨fun _ tm hp nx k=>x.run tm fun v=>Ma v (.bad 261) (.bad 262) fun m=>hp.fC m (.bad 263) fun o=>nI o fun es c=>newObj hp nx (.iter m c [] c) fun id hp nx=>k (.ptr id 0) hp nx⟩
 | _=>cV 264
def Mc (it:Dt):OB :=
 ⟨fun _ tm hp nx k=>it.run tm fun v=>jr v fun id off=>bD (Nat.beq off 0) (hp.fC id (.bad 265) fun o=>vI o fun m since seen at'=>hp.fC m (.bad 266) fun o=>nI o fun es c =>
  bD (N1 since es&&Nat.ble since at') (oB seen es (k (.cu [.bool false]) hp nx) (fun e=>hp.cH id (.iter m since (e.born::seen) c) fun hp=>k (.cu [.bool true,e.key,e.val]) hp nx) false) (.bad 267)) (.bad 268)⟩
def E0 (b:Nat) (es:List ME):(ME->Rs)->Rs :=
 List.rec (motive:=fun _=>(ME->Rs)->Rs) (fun _=>.bad 269) (fun e _ ih k=>bD (Nat.beq e.born b) (k e) (ih k)) es
def xD (it:Dt):OB :=
 ⟨fun _ tm hp nx k=>it.run tm fun v=>jr v fun id off=>bD (Nat.beq off 0) (hp.fC id (.bad 265) fun o=>vI o fun m since seen at'=>hp.fC m (.bad 266) fun o=>nI o fun es c =>
  bD (Nat.beq c at') (List.rec (motive:=fun _=>Rs) (.bad 270) (fun b _ _=>E0 b es fun e=>k (.cu [e.key,e.val]) hp nx) seen) (.bad 271)) (.bad 268)⟩
def JL (mx:Bool) (v y:AV) (k:AV->Rs):Rs :=
 asInt v fun ka a=>asInt y fun kb b=>bD (decide (ka=kb)) (bD (Bool.rec (motive:=fun _=>Bool) (decide (b<a)) (decide (b > a)) mx) (k (.int ka b)) (k (.int ka a))) (.bad 114)
def xE (P:Program) (b:Builtin) (ats:List TypeId) (args:List Operand):OB :=
 match b,ats,args with
 | .len,t::_,[x]=>⟨fun _ tm hp nx k=>(ck x).run tm fun v=>(JK P t).run hp v fun n=>k (.int .i64 (.ofNat n)) hp nx⟩
 | .append,[ts,tx],[s,x]=>match P.underlying ts,P.underlying tx with
   | some (.slice _),some (.int _)=>cV 117
   | some (.slice e),some _=>match zeroOf P e with
     | some z=>match Nat.ble (P.bytesOf e) 1000000&&(Nat.beq z.cells.length (ae P e)&&Nat.blt 0 (ae P e)) with
       | true=>⟨fun _ tm hp nx k=>(ck s).run tm fun s=>(ck x).run tm fun x=>kx hp (ae P e) x fun ls=>rb hp nx e (ae P e) s ls k⟩
       | false=>cV 204
     | none=>cV 205
   | _,_=>cV 118
 | .min,_,[x,y]=>dj fun tm k=>(ck x).run tm fun a=>(ck y).run tm fun b=>JL false a b k
 | .max,_,[x,y]=>dj fun tm k=>(ck x).run tm fun a=>(ck y).run tm fun b=>JL true a b k
 | .delete,t::_,[m,i]=>Bu P t (ck m) (ck i)
 | _,_,_=>cV 121
def qW (a:List AV) (b:List AV):List AV:=List.rec (motive:=fun _=>List AV) b (fun x _ ih=>x::ih) a
def ld (p:Pz):Nat:=Pz.rec (motive:=fun _=>Nat) 1 (fun _ ih=>Nat.mul 2 ih) (fun _ ih=>Nat.succ (Nat.mul 2 ih)) p
def ky:Code->Bool
 | .seq a b=>ky a&&ky b
 | .cond _ a b=>ky a&&ky b
 | .block _ b=>ky b
 | .loop b=>ky b
 | .scope b=>ky b
 | .rangeFunc _ _ _ _=>false
 | _=>true
def vL (nt:Nat) (ps:List Tmp):List AV->Tm->(Tm->Rs)->Rs :=
 List.rec (motive:=fun _=>List AV->Tm->(Tm->Rs)->Rs) (fun vs tm k=>List.rec (motive:=fun _=>Rs) (k tm) (fun _ _ _=>.bad 285) vs)
  (fun p _ ih vs tm k=>List.rec (motive:=fun _=>Rs) (.bad 285) (fun v vs _=>bD (Nat.blt p nt) ((tP p).run tm v fun tm=>ih vs tm k) (.bad 286)) vs) ps
def gZ (id:Pz) (st:LS) (hp:Tr AO) (k:Tr AO->Rs):Rs :=
 hp.fC id (.bad 284) fun o=>kj o fun f nt tm ps x y _=>hp.cH id (.loop f nt tm ps x y st) k
def isReady (st:LS) (r:Rs):Rs:=LS.rec (motive:=fun _=>Rs) r (.bad 287) (fun _=>.bad 287) st
def vM (call:bx) (j:Nat) (args:List AV) (hp:Tr AO) (nx:Pz) (k:AV->Tr AO->Pz->Rs):Rs :=
 hp.fC (aX (Nat.pred j)) (.bad 284) fun o=>kj o fun f nt tm ps x y st=>bD (ky x&&ky y) (vL nt ps.toList args tm fun tm =>
  call.code f nt x tm hp nx fun e tm hp nx=>Ex.rec (motive:=fun _=>Rs)
   (hp.fC (aX (Nat.pred j)) (.bad 284) fun o=>kj o fun _ _ _ _ _ _ st=>isReady st (gZ (aX (Nat.pred j)) .busy hp fun hp =>
    call.code f nt y tm hp nx fun e _ hp nx=>Ex.rec (motive:=fun _=>Rs)
     (gZ (aX (Nat.pred j)) .ready hp fun hp=>k (.bool true) hp nx)
     (fun i=>gZ (aX (Nat.pred j)) (.done (.ext i)) hp fun hp=>k (.bool false) hp nx)
     (gZ (aX (Nat.pred j)) (.done .ret) hp fun hp=>k (.bool false) hp nx) e))
   (fun _=>.bad 288) (.bad 288) e) (.bad 289)
def E3 (P:Program) (c:Call):OB :=
 match c.callee with
 | .builtin b=>xE P b c.argTypes.toList c.args.toList
 | .value f=>⟨fun call tm hp nx k=>(ck f).run tm fun fv=>xx c.args.toList tm fun vs=>zN fv (.bad 122) fun f first captured=>match f with
   | .func g=>call.run g (qW first (qW vs captured)) hp nx k
   | .yield j=>List.rec (motive:=fun _=>Rs) (List.rec (motive:=fun _=>Rs) (vM call j vs hp nx k) (fun _ _ _=>.bad 122) captured) (fun _ _ _=>.bad 122) first
   | _=>.bad 122⟩
 | .invoke _ _=>cV 123
def Xv (op:UnOp) (v:AV) (k:AV->Rs):Rs :=
 match op,v with
 | .not,.bool b=>bY (!b) fun b=>k (.bool b)
 | .neg,.int kd n=>um kd (Int.sub 0 n) fun n=>k (.int kd n)
 | op,v=>match EU v with
   | some c=>EV (Op.unary op c) k
   | none=>.bad 138
def xF (P:Program) (o:Oper):OB :=
 match o.op with
 | .move x | .assign x=>dj (ck x).run
 | .pick c a b=>dj fun tm k=>(ck c).run tm fun c=>asBool c fun c=>Bool.rec (motive:=fun _=>Rs) ((ck b).run tm k) ((ck a).run tm k) c
 | .alloc e=>match zeroOf P e with
   | some z=>⟨fun _ tm hp nx k=>bd z.cells.length fun es=>kq hp nx es 1 e (one z.cells) fun id hp nx=>k (.ptr id 0) hp nx⟩
   | none=>cV 130
 | .box e x=>⟨fun _ tm hp nx k=>(ck x).run tm fun v=>bd v.cells.length fun es=>kq hp nx es 1 e (one v.cells) fun id hp nx=>k (.ptr id 0) hp nx⟩
 | .build t ps=>match zeroOf P t,P.underlying t with
   | some z,some (.struct fs)=>match fs.toList.mapM (fun f=>(P.info? f.type).map fun i=>(f.offset,i.size)) with
     | some places=>dj fun tm k=>qA (fun i=>places[i]?) (ps.toList) tm z.cells fun cs=>k (.agg cs)
     | none=>cV 202
   | some z,some (.array _ e)=>match P.info? e with
     | some _=>dj fun tm k=>qA (fun i=>some (i*ae P e,ae P e)) (ps.toList) tm z.cells fun cs=>k (.agg cs)
     | none=>cV 203
   | _,_=>cV 131
 | .buildSlice t len ps=>match P.underlying t with
   | some (.slice e)=>match zeroOf P e with
     | some z=>match Nat.ble len 10000&&(Nat.ble (ae P e) 1000&&(Nat.beq z.cells.length (ae P e)&&Nat.blt 0 (ae P e))) with
       | true=>⟨fun _ tm hp nx k=>qA (fun i=>some (i*ae P e,ae P e)) (ps.toList) tm (gv len z.cells) fun cs=>vJ (ae P e) len cs 0 .e fun c =>
         kq hp nx (ae P e) len e c fun id hp nx=>k (.slice id 0 len len) hp nx⟩
       | false=>cV 132
     | none=>cV 133
   | _=>cV 134
 | .load t a=>match cr P t,dJ P t with
   | true,true=>⟨fun _ tm hp nx k=>(ck a).run tm fun v=>jr v fun id off=>jN hp id off (ae P t) fun cs=>k (.agg cs) hp nx⟩
   | true,false=>⟨fun _ tm hp nx k=>(ck a).run tm fun v=>jr v fun id off=>ou hp id off fun v=>k v hp nx⟩
   | false,_=>cV 198
 | .store t a x=>match P.info? t with
   | some _=>⟨fun _ tm hp nx k=>(ck a).run tm fun p=>(ck x).run tm fun v=>jr p fun id off =>
     bD (Nat.beq v.cells.length (ae P t)) (iV hp id off v.cells fun hp=>k aD hp nx) (.bad 135)⟩
   | none=>cV 135
 | .nilCheck x=>dj fun tm k=>(ck x).run tm fun v=>L9 v (.bad 136) (fun p o=>k (.ptr p o)) fun f a b=>match f with
   | .func f=>k (.func (.func f) a b)
   | _=>.bad 136
 | .binOp op t x y _=>match ow P op t with
   | true=>dj fun tm k=>(ck x).run tm fun a=>(ck y).run tm fun b=>(NZ P op t).run a b k
   | false=>cV 137
 | .unOp op _ x=>dj fun tm k=>(ck x).run tm fun v=>Xv op v k
 | .convert src dst x=>Bq P src dst (ck x)
 | .makeFunc fn first captured=>match ES fn with
   | true=>dj fun tm k=>xx first.toList tm fun a=>xx captured.toList tm fun b=>k (.func fn a b)
   | false=>cV 282
 | .makeMap t none=>⟨fun _ tm hp nx k=>newObj hp nx (.map [] 0) fun id hp nx=>k (.map id) hp nx⟩
 | .makeMap t (some r)=>cV 139
 | .makeSlice t l c=>match P.underlying t with
   | some (.slice e)=>match zeroOf P e with
     | some z=>match Nat.beq z.cells.length (ae P e)&&(Nat.ble (ae P e) 1000&&(Nat.blt 0 (ae P e)&&Nat.ble (P.bytesOf e) 1000000)) with
       | true=>⟨fun _ tm hp nx k=>(ck l).run tm fun l=>(ck c).run tm fun c=>asNat l fun l=>asNat c fun c=>bD (Nat.ble l c&&Nat.ble c 10000)
         (Bp c z.cells 0 .e fun cs=>kq hp nx (ae P e) c e cs fun id hp nx=>k (.slice id 0 l c) hp nx) (.bad 140)⟩
       | false=>cV 141
     | none=>cV 142
   | _=>cV 143
 | .slice t x lo hi mx=>zP P t (ck x) (lo.map ck) (hi.map ck) (mx.map ck)
 | .fieldAddr t x f=>match er P t f with
   | some (off,ft)=>match Nat.beq (ae P ft) 0 with
     | false=>dj fun tm k=>(ck x).run tm fun v=>jr v fun id o=>bd (o+off) fun o=>k (.ptr id o)
     | true=>cV 144
   | none=>cV 145
 | .field t x f=>match er P t f with
   | some (off,ft)=>match cr P ft,dJ P ft with
     | false,_=>cV 199
     | true,true=>dj fun tm k=>(ck x).run tm fun v=>EN v (.bad 146) fun cs=>ot off cs fun cs=>qz (ae P ft) cs fun cs=>k (.agg cs)
     | true,false=>dj fun tm k=>(ck x).run tm fun v=>EN v (.bad 147) fun cs=>tQ off cs k
   | none=>cV 148
 | .indexAddr t x i=>match P.underlying t with
   | some (.slice e)=>match P.info? e with
     | some _=>dj fun tm k=>(ck x).run tm fun v=>(ck i).run tm fun i=>asNat i fun i=>EP v (.bad 151) (.bad 151)
       (fun id off len _=>bD (Nat.blt i len) (bd (off+i*ae P e) fun o=>k (.ptr id o)) (.bad 149))
       (fun id off len _=>bD (Nat.blt i len) (bd (off+i*ae P e) fun o=>k (.ptr id o)) (.bad 150))
     | none=>cV 153
   | some (.array n e)=>match P.info? e with
     | some _=>dj fun tm k=>(ck x).run tm fun v=>(ck i).run tm fun i=>asNat i fun i=>jr v fun id off =>
       bD (Nat.blt i n) (bd (off+i*ae P e) fun o=>k (.ptr id o)) (.bad 152)
     | none=>cV 153
   | _=>cV 153
 | .index t x i=>match P.underlying t with
   | some .string=>dj fun tm k=>(ck x).run tm fun v=>(ck i).run tm fun i=>asNat i fun i=>jE v (.bad 155) fun l n=>bD (Nat.blt i l) (bd (Nat.mod (Nat.shiftRight n (Nat.mul 8 (Nat.sub l (Nat.succ i)))) 256) fun b=>k (.int .u8 (.ofNat b))) (.bad 154)
   | _=>cV 160
 | .lookup t m i ok=>Bs P t (ck m) (ck i) ok
 | .mapUpdate t m i x | .insert t m i x=>vK P t (ck m) (ck i) (ck x)
 | .mapEntry t m i=>EZ P t (ck m) (ck i)
 | .entryStore _ m s x=>xC (ck m) (ck s) (ck x)
 | .makeInterface t x=>match P.underlying t with
   | some (.interface _)=>cV 161
   | some _=>dj fun tm k=>(ck x).run tm fun v=>k (.iface t v)
   | none=>cV 162
 | .extract x i=>dj fun tm k=>(ck x).run tm fun v=>EO v (.bad 163) fun vs=>tQ i vs k
 | .call c=>E3 P c
 | .range t x=>zQ P t (ck x)
 | .next it false=>Mc (ck it)
 | .entry it=>xD (ck it)
 | _=>cV 164
structure SB where run:bx->Tm->Tr AO->Pz->(Tm->Tr AO->Pz->Rs)->Rs
def kz (nt:Nat) (d:Option Tmp) (b:OB):SB :=
 match d with
 | none=>⟨fun call tm hp nx k=>b.run call tm hp nx fun _ hp nx=>k tm hp nx⟩
 | some t=>match Nat.blt t nt with
   | true=>⟨fun call tm hp nx k=>b.run call tm hp nx fun v hp nx=>(tP t).run tm v fun tm=>k tm hp nx⟩
   | false=>⟨fun _ _ _ _ _=>.bad 170⟩
def nJ (a b:Bool):Bool:=Bool.rec (motive:=fun _=>Bool) (Bool.rec (motive:=fun _=>Bool) true false b) (Bool.rec (motive:=fun _=>Bool) false true b) a
def lJ (ops:Array Oper) (nt:Nat) (j:Nat):Option Tmp :=
 match (ops[j]?).bind (·.dst) with
 | some d=>if Nat.blt d nt then some d else none
 | none=>none
def dY (P:Program) (nt:Nat) (ops:Array Oper) (o:Oper):SB :=
 match o.guard with
 | none=>kz nt o.dst (xF P o)
 | some (j,want)=>match lJ ops nt j with
   | none=>⟨fun _ _ _ _ _=>.bad 171⟩
   | some d=>⟨fun call tm hp nx k=>(om d).run tm fun v=>ER v ((kz nt o.dst (dj fun _ k=>k aD)).run call tm hp nx k) fun b =>
     bD (nJ b want) ((kz nt o.dst (xF P o)).run call tm hp nx k) ((kz nt o.dst (dj fun _ k=>k aD)).run call tm hp nx k)⟩
def cI (P:Program) (nt:Nat) (ops:Array Oper) (l:List Oper):SB :=
 List.rec (motive:=fun _=>SB) ⟨fun _ tm hp nx k=>k tm hp nx⟩ (fun o _ ih=>⟨fun call tm hp nx k=>(dY P nt ops o).run call tm hp nx fun tm hp nx=>ih.run call tm hp nx k⟩) l
def eM (P:Program) (o:Oper):Bool :=
 match o.op with
 | .move _ | .assign _ | .pick .. | .build .. | .load .. | .nilCheck _ | .binOp .. | .unOp .. | .makeFunc .. | .fieldAddr .. | .field .. | .indexAddr .. | .index .. | .lookup .. | .makeInterface .. | .extract ..=>true
 | .convert src dst _=>match P.underlying src,P.underlying dst with
   | some (.int _),some (.int _)=>true
   | some .string,some .string=>true
   | some (.slice _),some .string=>true
   | _,_=>false
 | .slice t _ _ _ none=>match P.underlying t with | some .string=>true | _=>false
 | .call c=>match c.callee with
   | .builtin .len | .builtin .min | .builtin .max=>true
   | _=>false
 | _=>false
def gy (P:Program) (o:Oper):Bool :=
 match o.op with
 | .move _ | .assign _ | .pick .. | .build .. | .nilCheck _ | .binOp .. | .unOp .. | .makeFunc .. | .fieldAddr .. | .field .. | .indexAddr .. | .index .. | .makeInterface .. | .extract ..=>true
 | .convert src dst _=>match P.underlying src,P.underlying dst with
   | some (.int _),some (.int _)=>true
   | some .string,some .string=>true
   | _,_=>false
 | _=>false
def tR (P:Program) (o:Oper):Bool :=
 match o.op with
 | .alloc _ | .box .. | .buildSlice .. | .makeMap ..=>true
 | _=>false
structure Ph where
 es:List Nat
 rs:List Nat
 sp:List Nat
 fs:List Nat
 h:Option Nat
 h2:Option (Nat × List Nat × List Nat)
def pL (p:Pz):Pz->Bool :=
 Pz.rec (motive:=fun _=>Pz->Bool) (fun q=>Pz.rec (motive:=fun _=>Bool) true (fun _ _=>false) (fun _ _=>false) q)
  (fun _ ih q=>Pz.rec (motive:=fun _=>Bool) false (fun q _=>ih q) (fun _ _=>false) q)
  (fun _ ih q=>Pz.rec (motive:=fun _=>Bool) false (fun _ _=>false) (fun q _=>ih q) q) p
def Ul (a b:AV):Bool :=
 match a,b with
 | .bool a,.bool b=>a==b
 | .int j a,.int k b=>decide (j=k)&&a==b
 | .str l m,.str l' m'=>Nat.beq l l'&&Nat.beq m m'
 | .float j a,.float k b=>decide (j=k)&&Nat.beq a b
 | .ptr p o,.ptr q o'=>pL p q&&Nat.beq o o'
 | .dq,.dq=>true
 | .slice p o l c,.slice q o' l' c'=>pL p q&&(Nat.beq o o'&&(Nat.beq l l'&&Nat.beq c c'))
 | .aS p o l c,.aS q o' l' c'=>pL p q&&(Nat.beq o o'&&(Nat.beq l l'&&Nat.beq c c'))
 | .aB,.aB=>true
 | .map p,.map q=>pL p q
 | .aV,.aV=>true
 | .cg,.cg=>true
 | .nilIface,.nilIface=>true
 | _,_=>false
def Um (f:AV->AV->Bool) (a:List AV):List AV->Bool :=
 List.rec (motive:=fun _=>List AV->Bool) (fun b=>List.rec (motive:=fun _=>Bool) true (fun _ _ _=>false) b)
  (fun x _ ih b=>List.rec (motive:=fun _=>Bool) false (fun y t _=>Bool.rec (motive:=fun _=>Bool) false (ih t) (f x y)) b) a
def N2 (a b:AV):Bool :=
 match a,b with
 | .agg x,.agg y=>Um Ul x y
 | a,b=>Ul a b
def Un (a b:AV):Bool :=
 match a,b with
 | .cu x,.cu y=>Um N2 x y
 | a,b=>N2 a b
def ab (ops:Array Oper) (i:Nat):Oper:=ops.getD i default
def N3 (n:Nat):SB:=⟨fun _ _ _ _ _=>.bad n⟩
def zR (P:Program) (nt:Nat) (ops:Array Oper) (o:Oper):SB :=
 match o.dst with
 | none=>⟨fun call tm hp nx K=>(dY P nt ops o).run call tm hp nx fun _ _ _=>K tm hp nx⟩
 | some d=>⟨fun call tm hp nx K=>(dY P nt ops o).run call tm hp nx fun tm' _ _=>(om d).run tm' fun v=>(om d).run tm fun u=>bD (Un v u) (K tm hp nx) (.bad 213)⟩
def iW (P:Program) (nt:Nat) (ops:Array Oper) (l:List Oper):SB :=
 List.rec (motive:=fun _=>SB) ⟨fun _ tm hp nx k=>k tm hp nx⟩ (fun o _ ih=>⟨fun call tm hp nx k=>(zR P nt ops o).run call tm hp nx fun tm hp nx=>ih.run call tm hp nx k⟩) l
mutual
def qX:AV->AV->Bool
 | .bool a,.bool b=>a==b
 | .int j a,.int k b=>decide (j=k)&&a==b
 | .str l m,.str l' m'=>Nat.beq l l'&&Nat.beq m m'
 | .float j a,.float k b=>decide (j=k)&&Nat.beq a b
 | .ptr p o,.ptr q o'=>pL p q&&Nat.beq o o'
 | .dq,.dq=>true
 | .slice p o l c,.slice q o' l' c'=>pL p q&&(Nat.beq o o'&&(Nat.beq l l'&&Nat.beq c c'))
 | .aS p o l c,.aS q o' l' c'=>pL p q&&(Nat.beq o o'&&(Nat.beq l l'&&Nat.beq c c'))
 | .aB,.aB=>true
 | .map p,.map q=>pL p q
 | .aV,.aV=>true
 | .func f a b,.func g c d=>decide (f=g)&&(rH a c&&rH b d)
 | .cg,.cg=>true
 | .iface t v,.iface u x=>Nat.beq t u&&qX v x
 | .nilIface,.nilIface=>true
 | .agg xs,.agg ys=>rH xs ys
 | .cu xs,.cu ys=>rH xs ys
 | _,_=>false
def rH:List AV->List AV->Bool
 | [],[]=>true
 | x::xs,y::ys=>qX x y&&rH xs ys
 | _,_=>false
end
def Bv:Tr (List AV)->Tr (List AV)->Bool
 | .e,.e=>true
 | .n l none r,.n l' none r'=>Bv l l'&&Bv r r'
 | .n l (some v) r,.n l' (some v') r'=>rH v v'&&(Bv l l'&&Bv r r')
 | _,_=>false
def Dv:List ME->List ME->Bool
 | [],[]=>true
 | x::xs,y::ys=>qX x.key y.key&&(qX x.val y.val&&(Nat.beq x.born y.born&&Dv xs ys))
 | _,_=>false
def US:AO->AO->Bool
 | .arr es n el c,.arr es' n' el' c'=>Nat.beq es es'&&(Nat.beq n n'&&(Nat.beq el el'&&Bv c c'))
 | .ca f ep tp es n el c,.ca f' ep' tp' es' n' el' c'=>pL f f'&&(Nat.beq ep ep'&&(nJ tp tp'&&(Nat.beq es es'&&(Nat.beq n n'&&(Nat.beq el el'&&Bv c c')))))
 | .cU ep s,.cU ep' s'=>Nat.beq ep ep'&&nJ s s'
 | .map es c,.map es' c'=>Nat.beq c c'&&Dv es es'
 | .fi,.fi=>true
 | .gone,.gone=>true
 | .iter m s l c,.iter m' s' l' c'=>pL m m'&&(Nat.beq s s'&&(decide (l=l')&&Nat.beq c c'))
 | _,_=>false
def pM:Tr AO->Tr AO->Bool
 | .e,_=>true
 | .n l none r,.n l' _ r'=>pM l l'&&pM r r'
 | .n l (some v) r,.n l' (some v') r'=>US v v'&&(pM l l'&&pM r r')
 | .n _ _ _,_=>false
def Bw {α:Type} (f:α->α->Bool) (a b:fS α):Bool :=
 f a.a0 b.a0&&(f a.a1 b.a1&&(f a.a2 b.a2&&(f a.a3 b.a3&&(f a.a4 b.a4&&(f a.a5 b.a5&&(f a.a6 b.a6&&f a.a7 b.a7))))))
def pN {α:Type} (f:α->α->Bool):Tr α->Tr α->Bool
 | .e,.e=>true
 | .n l none r,.n l' none r'=>pN f l l'&&pN f r r'
 | .n l (some v) r,.n l' (some v') r'=>f v v'&&(pN f l l'&&pN f r r')
 | _,_=>false
def uw:List Pz->List Pz->Bool
 | [],[]=>true
 | x::xs,y::ys=>pL x y&&uw xs ys
 | _,_=>false
def N4 (a b:Tm):Bool:=Bw (Bw qX) a.lo b.lo&&(pN qX a.hi b.hi&&uw a.ml b.ml)
def UT (P:Program) (nt:Nat) (ops:Array Oper) (es rs sp fs:List Nat) (rest:SB) (h:Option Nat):SB :=
 ⟨fun call tm hp nx K =>
  (cI P nt ops (es.map (ab ops))).run call tm hp nx fun tm hp nx =>
  (iW P nt ops (rs.map (ab ops))).run call tm hp nx fun tm hp nx =>
  (cI P nt ops (sp.map (ab ops))).run call tm hp nx fun _ _ _ =>
  (cI P nt ops (fs.map (ab ops))).run call tm hp nx fun tm hp nx =>
  Option.rec (motive:=fun _=>Rs) (K tm hp nx) (fun h=>(dY P nt ops (ab ops h)).run call tm hp nx fun tm hp nx=>rest.run call tm hp nx K) h⟩
def ux (P:Program) (nt:Nat) (ops:Array Oper) (h:Nat) (rs:List Nat):SB :=
 UT P nt ops [] rs [] [] (UT P nt ops [] [] [] [] (N3 210) none) (some h)
def vN (K:Tm->Tr AO->Pz->Rs) (tmA:Tm) (hpA:Tr AO) (nxA:Pz) (tmB:Tm) (hpB:Tr AO) (nxB:Pz):Rs :=
 bD (N4 tmA tmB) (bD (pL nxA nxB) (bD (pM hpA hpB) (K tmA hpA nxA) (.bad 252)) (.bad 251)) (.bad 250)
def zS (P:Program) (nt:Nat) (ops:Array Oper) (hA hB:Nat) (rsB:List Nat) (call:bx) (tm:Tm) (hp:Tr AO) (nx:Pz) (K:Tm->Tr AO->Pz->Rs) (tmA:Tm) (hpA:Tr AO) (nxA:Pz):Rs :=
 (dY P nt ops (ab ops hB)).run call tm hp nx fun tm hp nx=>(ux P nt ops hA rsB).run call tm hp nx (vN K tmA hpA nxA)
def Md (P:Program) (nt:Nat) (ops:Array Oper) (hA hB:Nat) (rsA rsB:List Nat) (call:bx) (tm:Tm) (hp:Tr AO) (nx:Pz) (K:Tm->Tr AO->Pz->Rs):Rs :=
 (dY P nt ops (ab ops hA)).run call tm hp nx fun tm' hp' nx'=>(ux P nt ops hB rsA).run call tm' hp' nx' (zS P nt ops hA hB rsB call tm hp nx K)
def QP (P:Program) (nt:Nat) (ops:Array Oper) (ph:Ph) (rest:SB):SB :=
 match ph.h2 with
 | none=>UT P nt ops ph.es ph.rs ph.sp ph.fs rest ph.h
 | some (hB,rsA,rsB)=>match ph.h with
   | some hA=>⟨fun call tm hp nx K=>(cI P nt ops (ph.es.map (ab ops))).run call tm hp nx fun tm hp nx =>
     (iW P nt ops (ph.rs.map (ab ops))).run call tm hp nx fun tm hp nx=>Md P nt ops hA hB rsA rsB call tm hp nx K⟩
   | none=>N3 253
def nr (P:Program) (nt:Nat) (ops:Array Oper) (plan:List Ph):SB :=
 List.rec (motive:=fun _=>SB) (N3 210) (fun ph _ ih=>QP P nt ops ph ih) plan
def lk (ops:Array Oper) (i j:Nat):Bool:=match (ab ops j).dst with | some d=>((ab ops i).looksAt ops).contains d | none=>false
def bit (b:Array Nat) (j i:Nat):Bool:=(b.getD j 0).testBit i
def zT (ops:Array Oper) (E F CF:List Nat):List Nat->List Nat->Bool
 | [],_=>true
 | i::l,CE=>E.contains i&&!CE.contains i&&(F.all fun f=>!(lk ops i f)||CF.contains f)&&(E.all fun e=>!(lk ops i e)||CE.contains e)&&zT ops E F CF l (i::CE)
def qY (ops:Array Oper) (E F CE:List Nat):List Nat->List Nat->Bool
 | [],_=>true
 | f::l,CF=>F.contains f&&!CF.contains f&&(F.all fun g=>!(lk ops f g)||CF.contains g)&&(E.all fun e=>!(lk ops f e)||CE.contains e)&&qY ops E F CE l (f::CF)
def rI (o:Oper):Bool:=(match o.op with | .store ..=>true | _=>false)&&(o.dst.isNone&&o.guard.isNone)
def vO (h:Nat) (rs:List Nat):List Ph:=[⟨[],rs,[],[],some h,none⟩,⟨[],[],[],[],none,none⟩]
def vP (ops:Array Oper) (b:Array Nat) (E F H:List Nat) (h:Nat) (rs:List Nat) (CE CF CH:List Nat):Bool :=
 (rs.all fun i=>CE.contains i&&(F.all fun f=>!(lk ops i f)||CF.contains f)) &&
 (E.all fun i=>CE.contains i)&&(F.all fun f=>CF.contains f)&&(H.all fun i=>(h::CH).contains i)&&(H.contains h&&!CH.contains h) &&
 (E.all fun i=>rs.contains i||bit b i h||(CH.any fun h=>bit b h i))&&(E.all fun i=>(h::CH).any fun h=>bit b h i)
def oC (ops:Array Oper) (b:Array Nat) (E F H:List Nat):List Ph->List Nat->List Nat->List Nat->Bool
 | [],_,_,_=>false
 | ph::rest,CE,CF,CH =>
   zT ops E F CF ph.es CE &&
   (ph.rs.all fun i=>CE.contains i&&(F.all fun f=>!(lk ops i f)||CF.contains f)) &&
   (E.all fun i=>ph.es.contains i||ph.rs.contains i||(H.any fun h=>!CH.contains h&&bit b i h)||(CH.any fun h=>bit b h i)) &&
   (F.all fun f=>CF.contains f||ph.sp.contains f||(H.any fun h=>!CH.contains h&&bit b f h)) &&
   qY ops E F (ph.es.reverse++CE) ph.sp CF &&
   qY ops E F (ph.es.reverse++CE) ph.fs CF &&
   match ph.h,ph.h2 with
   | some h,none=>H.contains h&&!CH.contains h&&(H.all fun h'=>CH.contains h'||h'==h||bit b h' h)&&(F.all fun f=>!(lk ops h f)||(ph.fs.reverse++CF).contains f) &&
     (F.all fun f=>(ph.fs.reverse++CF).contains f||!(lk ops f h)||bit b f h)&&(ph.fs.all fun f=>bit b h f)&&oC ops b E F H rest (ph.es.reverse++CE) (ph.fs.reverse++CF) (h::CH)
   | some h,some (h2,rsA,rsB)=>(ph.sp.isEmpty&&ph.fs.isEmpty&&rest.isEmpty)&&(H.contains h&&!CH.contains h)&&(H.contains h2&&!CH.contains h2)&&(!(h==h2))&&(H.all fun h'=>CH.contains h'||h'==h||h'==h2)&&(F.all fun f=>CF.contains f) &&
     rI (ab ops h)&&rI (ab ops h2)&&vP ops b E F H h2 rsA (ph.es.reverse++CE) CF (h::CH)&&vP ops b E F H h rsB (ph.es.reverse++CE) CF (h2::CH)
   | none,_=>(E.all fun i=>(ph.es.reverse++CE).contains i)&&(F.all fun i=>(ph.fs.reverse++CF).contains i)&&(H.all fun i=>CH.contains i)
def iX (o:Oper):Bool:=match o.op with | .select ..=>false | _=>true
def Bx (P:Program) (o:Oper):Bool:=gy P o||(tR P o&&o.guard.isNone&&o.dst.isSome)
def N5 (ph:Ph):List Nat:=ph.h.toList++(ph.h2.map (·.1)).toList
def zU (P:Program) (ops:Array Oper) (plan:List Ph):Bool :=
 let b:=Region.before ops
 let rg:=List.range ops.size
 let E:=plan.flatMap (·.es)
 let F:=plan.flatMap (·.fs)
 let H:=plan.flatMap N5
 (rg.all fun i=>(E.contains i&&!F.contains i&&!H.contains i)||(!E.contains i&&F.contains i&&!H.contains i)||(!E.contains i&&!F.contains i&&H.contains i)) &&
 (E.all fun i=>decide (i<ops.size))&&(F.all fun i=>decide (i<ops.size))&&(H.all fun i=>decide (i<ops.size)) &&
 (rg.all fun i=>(ab ops i).after.toList.all fun e=>!(Region.binds .any e)||decide (e.on<i)) &&
 (E.all fun i=>eM P (ab ops i))&&(F.all fun i=>Bx P (ab ops i))&&(rg.all fun i=>iX (ab ops i)) &&
 (rg.all fun i=>(E++F).all fun j=>(!(lk ops i j)||bit b i j)&&(i==j||(ab ops j).dst.isNone||(ab ops i).dst != (ab ops j).dst)) &&
 oC ops b E F H plan [] [] []
def rJ (P:Program) (ops:Array Oper) (plan:List Ph):Bool:=plan.isEmpty||zU P ops plan
structure CB where run:Nat->bx->Tm->Tr AO->Pz->(Ex->Tm->Tr AO->Pz->Rs)->Rs
def zV (P:Program) (g:Nat):Bool:=match P.funcs[g]? with | some fn=>!fn.body.isNone&&!(fn.name == "runtime.NumGoroutine") | none=>false
def nK (P:Program) (fid nt:Nat) (g:Operand) (ps:Array Tmp) (x y:Code) (call:bx) (tm:Tm) (hp:Tr AO) (nx:Pz) (K:Ex->Tm->Tr AO->Pz->Rs):Rs :=
 (ck g).run tm fun fv=>zN fv (.bad 281) fun f first captured=>match f,first with
  | .func gf,[]=>bD (zV P gf) (newObj hp nx .fi fun idD hp nx=>newObj hp nx (.loop fid nt ⟨tm.lo,tm.hi,[]⟩ ps x y .ready) fun idL hp nx =>
    call.run gf (.func (.yield (ld idL)) [] []::captured) hp nx fun _ hp nx =>
     hp.fC idL (.bad 284) fun o=>kj o fun _ _ _ _ _ _ st=>hp.cH idL .gone fun hp =>
      LS.rec (motive:=fun _=>Rs) (K .fK ⟨tm.lo,tm.hi,idD::tm.ml⟩ hp nx) (.bad 287) (fun e=>Ex.rec (motive:=fun _=>Rs) (.bad 287) (fun i=>K (.ext i) ⟨tm.lo,tm.hi,idD::tm.ml⟩ hp nx) (K .ret ⟨tm.lo,tm.hi,idD::tm.ml⟩ hp nx) e) st) (.bad 283)
  | _,_=>.bad 281
def xG (P:Program) (fid nt:Nat) (pl:Nat->List Ph) (c:Code):CB :=
 Code.rec (motive:=fun _=>CB)
  ⟨fun _ _ tm hp nx K=>K .fK tm hp nx⟩
  (fun id ops draw=>match draw with
   | false=>⟨fun _ call tm hp nx K=>(cI P nt ops ops.toList).run call tm hp nx fun tm hp nx=>K .fK tm hp nx⟩
   | true=>⟨fun _ call tm hp nx K=>(nr P nt ops (pl id)).run call tm hp nx fun tm hp nx=>K .fK tm hp nx⟩)
  (fun _ _ a b=>⟨fun fu call tm hp nx K=>a.run fu call tm hp nx fun e tm hp nx=>Ex.rec (motive:=fun _=>Rs) (b.run fu call tm hp nx K) (fun id=>K (.ext id) tm hp nx) (K .ret tm hp nx) e⟩)
  (fun c _ _ a b=>⟨fun fu call tm hp nx K=>(ck c).run tm fun v=>asBool v fun v=>Bool.rec (motive:=fun _=>Rs) (b.run fu call tm hp nx K) (a.run fu call tm hp nx K) v⟩)
  (fun id _ b=>⟨fun fu call tm hp nx K=>b.run fu call tm hp nx fun e tm hp nx=>Ex.rec (motive:=fun _=>Rs) (K .fK tm hp nx) (fun j=>bD (Nat.beq j id) (K .fK tm hp nx) (K (.ext j) tm hp nx)) (K .ret tm hp nx) e⟩)
  (fun _ b=>⟨fun fu call tm hp nx K=>(Nat.rec (motive:=fun _=>Tm->Tr AO->Pz->Rs) (fun _ _ _=>.bad 180)
   (fun _ ih tm hp nx=>b.run fu call tm hp nx fun e tm hp nx=>Ex.rec (motive:=fun _=>Rs) (ih tm hp nx) (fun j=>K (.ext j) tm hp nx) (K .ret tm hp nx) e) fu) tm hp nx⟩)
  (fun g ps x y _ _=>⟨fun _ call tm hp nx K=>nK P fid nt g ps x y call tm hp nx K⟩)
  (fun id=>⟨fun _ _ tm hp nx K=>K (.ext id) tm hp nx⟩)
  (fun _ b=>b)
  (fun _=>⟨fun _ _ tm hp nx K=>K .fK tm hp nx⟩)
  (fun _=>⟨fun _ _ _ _ _ _=>.bad 182⟩)
  ⟨fun _ _ tm hp nx K=>K .ret tm hp nx⟩
  (fun _=>⟨fun _ _ _ _ _ _=>.bad 183⟩)
  c
def cW (P:Program) (pl:Nat->List Ph):Code->Bool
 | .region id ops true=>rJ P ops (pl id)
 | .seq a b=>cW P pl a&&cW P pl b
 | .cond _ a b=>cW P pl a&&cW P pl b
 | .block _ b=>cW P pl b
 | .loop b=>cW P pl b
 | .scope b=>cW P pl b
 | .rangeFunc _ _ x y=>ky x&&ky y
 | _=>true
structure FB where run:Nat->bx->List AV->Tr AO->Pz->(AV->Tr AO->Pz->Rs)->Rs
def lK (vs:List AV):Nat->Tm->(Tm->Rs)->Rs :=
 List.rec (motive:=fun _=>Nat->Tm->(Tm->Rs)->Rs) (fun _ t k=>k t) (fun v _ ih i t k=>(tP i).run t v fun t=>bd (Nat.succ i) fun i=>ih i t k) vs
def zW (P:Program) (r:ResultVar) (tm:Tm) (hp:Tr AO) (k:AV->Rs):Rs :=
 match r with
 | .tmp t=>(om t).run tm k
 | .cell a t=>(om a).run tm fun v=>jr v fun id off =>
   match cr P t,dJ P t with
   | false,_=>.bad 200
   | true,true=>jN hp id off (ae P t) fun cs=>k (.agg cs)
   | true,false=>ou hp id off k
def pO (P:Program) (rs:List ResultVar):Tm->Tr AO->(List AV->Rs)->Rs :=
 List.rec (motive:=fun _=>Tm->Tr AO->(List AV->Rs)->Rs) (fun _ _ k=>k []) (fun r _ ih tm hp k=>zW P r tm hp fun v=>ih tm hp fun vs=>k (v::vs)) rs
def E4 (l:List Pz):Tr AO->(Tr AO->Rs)->Rs :=
 List.rec (motive:=fun _=>Tr AO->(Tr AO->Rs)->Rs) (fun hp k=>k hp) (fun id _ ih hp k=>hp.fC id (.bad 292) fun o=>zO o (hp.cH id .gone fun hp=>ih hp k)) l
def JM (vs:List AV) (k:AV->Rs):Rs :=
 match vs with
 | [v]=>k v
 | vs=>k (.cu vs)
def Uo (P:Program) (Pl:Nat->Nat->List Ph) (f:Nat):FB :=
 match P.funcs[f]? with
 | some fn=>match fn.body with
   | some c=>match fn.name == "runtime.NumGoroutine" with
     | false=>⟨fun fu call args hp nx k=>bD (Nat.ble args.length fn.ntmps) (lK args 0 .e fun tm=>(xG P f fn.ntmps (Pl f) c).run fu call tm hp nx fun e tm hp nx =>
       Ex.rec (motive:=fun _=>Rs) (E4 tm.ml hp fun hp=>pO P fn.results.toList tm hp fun vs=>JM vs fun v=>k v hp nx) (fun _=>.bad 191) (E4 tm.ml hp fun hp=>pO P fn.results.toList tm hp fun vs=>JM vs fun v=>k v hp nx) e) (.bad 192)⟩
     | true=>⟨fun _ _ _ _ _ _=>.bad 193⟩
   | none=>match fn.name == "math.Float64frombits"&&(fn.origin == "math.Float64frombits"||fn.origin == "") with
     | true=>⟨fun _ _ args hp nx k=>(match args with
       | [.int .u64 (.ofNat n)]=>k (.float .f64 n) hp nx
       | _=>.bad 197)⟩
     | false=>⟨fun _ _ _ _ _ _=>.bad 194⟩
 | none=>⟨fun _ _ _ _ _ _=>.bad 195⟩
def Re (P:Program) (Pl:Nat->Nat->List Ph) (fu:Nat) (ih:bx) (f nt:Nat) (c:Code) (tm:Tm) (hp:Tr AO) (nx:Pz) (K:Ex->Tm->Tr AO->Pz->Rs):Rs :=
 bD (cW P (Pl f) c) ((xG P f nt (Pl f) c).run fu ih tm hp nx K) (.bad 293)
end
end Go.aQ
namespace Go.aQ
open Go.RowKit
def Tr.get {α:Type}:Tr α->Pz->Option α
 | .e,_=>none
 | .n _ v _,.h=>v
 | .n l _ _,.o p=>l.get p
 | .n _ _ r,.i p=>r.get p
def Tr.set {α:Type}:Tr α->Pz->α->Tr α
 | .e,.h,x=>.n .e (some x) .e
 | .e,.o p,x=>.n (Tr.e.set p x) none .e
 | .e,.i p,x=>.n .e none (Tr.e.set p x)
 | .n l _ r,.h,x=>.n l (some x) r
 | .n l v r,.o p,x=>.n (l.set p x) v r
 | .n l v r,.i p,x=>.n l v (r.set p x)
theorem Tr.fD {α:Type} (p:Pz):(Tr.e:Tr α).get p=none:=by cases p<;>rfl
theorem Tr.Bz {α:Type} (p:Pz):∀(t:Tr α) (z:Rs) (k:α->Rs),t.fC p z k=match t.get p with | some v=>k v | none=>z:=by
 induction p with
 | h=>intro t z k; cases t with
   | e=>rfl
   | n l v r=>cases v<;>rfl
 | o p ih=>intro t z k; cases t with
   | e=>rfl
   | n l v r=>exact ih l z k
 | i p ih=>intro t z k; cases t with
   | e=>rfl
   | n l v r=>exact ih r z k
theorem Tr.cj {α:Type} (p:Pz):∀(t:Tr α) (x:α) (k:Tr α->Rs),t.cH p x k=k (t.set p x):=by
 induction p with
 | h=>intro t x k; cases t<;>rfl
 | o p ih=>intro t x k; cases t with
   | e=>exact ih .e x _
   | n l v r=>exact ih l x _
 | i p ih=>intro t x k; cases t with
   | e=>exact ih .e x _
   | n l v r=>exact ih r x _
theorem Tr.re {α:Type} (p:Pz):∀(t:Tr α) (x:α) (q:Pz),(t.set p x).get q=if q=p then some x else t.get q:=by
 induction p with
 | h=>intro t x q; cases t<;>cases q<;>simp [Tr.set,Tr.get,Tr.fD]
 | o p ih=>intro t x q; cases t<;>cases q<;>simp [Tr.set,Tr.get,Tr.fD,ih]
 | i p ih=>intro t x q; cases t<;>cases q<;>simp [Tr.set,Tr.get,Tr.fD,ih]
theorem Tr.bm {α:Type} (p:Pz) (t:Tr α) (x:α):(t.set p x).get p=some x:=by rw [Tr.re,if_pos rfl]
theorem Tr.cN {α:Type} {p q:Pz} (h:q≠p) (t:Tr α) (x:α):(t.set p x).get q=t.get q:=by rw [Tr.re,if_neg h]
theorem cJ {α:Type} {p:Pz} {t:Tr α} {n:Nat} {k:α->Rs} (h:t.fC p (.bad n) k=.ok):∃v,t.get p=some v/\k v=.ok:=by
 rw [Tr.Bz] at h
 cases hg:t.get p with
 | none=>rw [hg] at h; cases h
 | some v=>rw [hg] at h; exact⟨v,rfl,h⟩
def Pz.num:Pz->Nat
 | .h=>1
 | .o p=>2*p.num
 | .i p=>2*p.num+1
theorem Pz.oD (p:Pz):1<=p.num:=by induction p<;>simp [Pz.num]<;>omega
theorem Pz.JN:∀{p q:Pz},p.num=q.num->p=q:=by
 intro p
 induction p with
 | h=>intro q; cases q with
   | h=>intro _; rfl
   | o q=>intro h; have:=q.oD; simp only [Pz.num] at h; omega
   | i q=>intro h; have:=q.oD; simp only [Pz.num] at h; omega
 | o p ih=>intro q; have:=p.oD; cases q with
   | h=>intro h; simp only [Pz.num] at h; omega
   | o q=>intro h; simp only [Pz.num] at h; rw [ih (by omega:p.num=q.num)]
   | i q=>intro h; simp only [Pz.num] at h; omega
 | i p ih=>intro q; have:=p.oD; cases q with
   | h=>intro h; simp only [Pz.num] at h; omega
   | o q=>intro h; simp only [Pz.num] at h; omega
   | i q=>intro h; simp only [Pz.num] at h; rw [ih (by omega:p.num=q.num)]
def Pz.succ:Pz->Pz
 | .h=>.o .h
 | .o p=>.i p
 | .i p=>.o p.succ
theorem Pz.E5 (p:Pz):∀k:Pz->Rs,p.L8 k=k p.succ:=by
 induction p with
 | h=>intro k; rfl
 | o p _=>intro k; rfl
 | i p ih=>intro k; exact ih _
theorem Pz.cb (p:Pz):p.succ.num=p.num+1:=by
 induction p with
 | h=>rfl
 | o p _=>rfl
 | i p ih=>simp only [Pz.succ,Pz.num,ih]; omega
theorem nL:∀(f m:Nat),1<=m->m<=f->(pJ f m).num=m:=by
 intro f
 induction f with
 | zero=>intro m h1 h2; omega
 | succ f ih =>
   intro m h1 h2
   show (Bool.rec (motive:=fun _=>Pz) (Bool.rec (motive:=fun _=>Pz) (.o (pJ f (Nat.div m 2))) (.i (pJ f (Nat.div m 2))) (Nat.beq (Nat.mod m 2) 1)) .h (Nat.ble m 1)).num=m
   cases hb:Nat.ble m 1 with
   | true=>have:=Nat.le_of_ble_eq_true hb; simp only [Pz.num]; omega
   | false =>
     have hm:¬m<=1:=fun h=>by rw [Nat.ble_eq_true_of_le h] at hb; cases hb
     have hd:1<=m/2:=by omega
     have hr:=ih (m/2) hd (by omega)
     cases hc:Nat.beq (Nat.mod m 2) 1 with
     | true=>have h3:m%2=1:=Nat.eq_of_beq_eq_true hc; show 2*(pJ f (m/2)).num+1=m; rw [hr]; omega
     | false =>
       have h3:¬m%2=1:=fun h=>by have:Nat.beq (m%2) 1=true:=by rw [h]; rfl
                                 rw [show Nat.beq (Nat.mod m 2) 1=Nat.beq (m%2) 1 from rfl,this] at hc; cases hc
       show 2*(pJ f (m/2)).num=m
       rw [hr]; omega
theorem Dw {a b:Nat} (h:aX a=aX b):a=b:=by
 have ha:=nL (a+1) (a+1) (by omega) (by omega)
 have hb:=nL (b+1) (b+1) (by omega) (by omega)
 have:(aX a).num=(aX b).num:=by rw [h]
 unfold aX at this
 omega
theorem lL {a b:Nat} (h:a≠b):aX a≠aX b:=fun e=>h (Dw e)
theorem N6 (β:Type) (p:Pz):∀k:Pz->β,Xu β p k=k p:=by
 induction p with
 | h=>intro k; rfl
 | o p ih=>intro k; exact ih _
 | i p ih=>intro k; exact ih _
theorem uy (β:Type) (n:Nat) (k:Pz->β):zL β n k=k (aX n):=N6 _ _ _
noncomputable def o8 {α:Type} (d:Nat) (o:fS α):α:=match d with | 0=>o.a0 | 1=>o.a1 | 2=>o.a2 | 3=>o.a3 | 4=>o.a4 | 5=>o.a5 | 6=>o.a6 | _=>o.a7
noncomputable def p8 {α:Type} (d:Nat) (x:α) (o:fS α):fS α:=match d with
 | 0=>{ o with a0:=x } | 1=>{ o with a1:=x } | 2=>{ o with a2:=x } | 3=>{ o with a3:=x } | 4=>{ o with a4:=x } | 5=>{ o with a5:=x } | 6=>{ o with a6:=x } | _=>{ o with a7:=x }
theorem d8 {d:Nat} (h:d<8):d=0∨d=1∨d=2∨d=3∨d=4∨d=5∨d=6∨d=7:=by omega
theorem Me {α:Type} {d e:Nat} (hd:d<8) (he:e<8) (x:α) (o:fS α):o8 d (p8 e x o)=if d=e then x else o8 d o:=by
 rcases d8 hd with rfl | rfl | rfl | rfl | rfl | rfl | rfl | rfl<;>rcases d8 he with rfl | rfl | rfl | rfl | rfl | rfl | rfl | rfl<;>rfl
theorem Mf {α:Type} (d:Nat) (o:fS α) (k:α->Rs):(g1 α d).run o k=k (o8 d o):=by
 match d with
 | 0=>rfl
 | 1=>rfl
 | 2=>rfl
 | 3=>rfl
 | 4=>rfl
 | 5=>rfl
 | 6=>rfl
 | n+7=>rfl
theorem Rf {α:Type} (d:Nat) (o:fS α) (f:α->(α->Rs)->Rs) (g:α->α) (hf:∀x k,f x k=k (g x)) (k:fS α->Rs):(s1 α d).run o f k=k (p8 d (g (o8 d o)) o):=by
 match d with
 | 0=>exact hf _ _
 | 1=>exact hf _ _
 | 2=>exact hf _ _
 | 3=>exact hf _ _
 | 4=>exact hf _ _
 | 5=>exact hf _ _
 | 6=>exact hf _ _
 | n+7=>exact hf _ _
theorem Rh {α:Type} (d:Nat) (o:fS α) (x:α) (k:fS α->Rs):(s2 α d).run o x k=k (p8 d x o):=by
 match d with
 | 0=>rfl
 | 1=>rfl
 | 2=>rfl
 | 3=>rfl
 | 4=>rfl
 | 5=>rfl
 | 6=>rfl
 | n+7=>rfl
noncomputable def Tm.at (tm:Tm) (t:Nat):AV:=if t<=63 then o8 (t%8) (o8 (t/8) tm.lo) else (tm.hi.get (aX t)).getD aD
noncomputable def Tm.put (tm:Tm) (t:Nat) (v:AV):Tm:=if t<=63 then { tm with lo:=p8 (t/8) (p8 (t%8) v (o8 (t/8) tm.lo)) tm.lo } else { tm with hi:=tm.hi.set (aX t) v }
theorem kC (t:Nat) (tm:Tm) (k:AV->Rs):(om t).run tm k=k (tm.at t):=by
 unfold om Tm.at
 cases h:Nat.ble t 63 with
 | true =>
   rw [if_pos (Nat.le_of_ble_eq_true h)]
   show (g1 (fS AV) (Nat.div t 8)).run tm.lo (fun o=>(g1 AV (Nat.mod t 8)).run o k)=_
   rw [Mf,Mf]; rfl
 | false =>
   rw [if_neg (fun h'=>by rw [Nat.ble_eq_true_of_le h'] at h; cases h)]
   simp only [uy]
   show tm.hi.fC (aX t) (k aD) k=_
   rw [Tr.Bz]
   cases tm.hi.get (aX t)<;>rfl
theorem mz (t:Nat) (tm:Tm) (v:AV) (k:Tm->Rs):(tP t).run tm v k=k (tm.put t v):=by
 unfold tP Tm.put
 cases h:Nat.ble t 63 with
 | true =>
   rw [if_pos (Nat.le_of_ble_eq_true h)]
   show (s1 (fS AV) (Nat.div t 8)).run tm.lo (fun o k=>(s2 AV (Nat.mod t 8)).run o v k) (fun lo=>k ⟨lo,tm.hi,tm.ml⟩)=_
   rw [Rf _ _ _ (fun o=>p8 (Nat.mod t 8) v o) (fun x k=>Rh _ _ _ _)]; rfl
 | false =>
   rw [if_neg (fun h'=>by rw [Nat.ble_eq_true_of_le h'] at h; cases h)]
   simp only [uy]
   show tm.hi.cH (aX t) v (fun hi=>k ⟨tm.lo,hi,tm.ml⟩)=_
   rw [Tr.cj]
theorem Tm.rK (tm:Tm) (t:Nat) (v:AV):(tm.put t v).ml=tm.ml:=by
 unfold Tm.put
 split<;>rfl
theorem Tm.E6 (tm:Tm) (t:Nat) (v:AV) (u:Nat):(tm.put t v).at u=if u=t then v else tm.at u:=by
 unfold Tm.put Tm.at
 by_cases ht:t<=63
 · by_cases hu:u<=63
   · simp only [if_pos ht,if_pos hu]
     rw [Me (by omega) (by omega)]
     by_cases h1:u/8=t/8
     · rw [if_pos h1,Me (by omega) (by omega)]
       by_cases h2:u%8=t%8
       · rw [if_pos h2,if_pos (by omega)]
       · rw [if_neg h2,if_neg (by omega),h1]
     · rw [if_neg h1,if_neg (by omega)]
   · simp only [if_pos ht,if_neg hu]
     rw [if_neg (by omega)]
 · by_cases hu:u<=63
   · simp only [if_neg ht,if_pos hu]
     rw [if_neg (by omega)]
   · simp only [if_neg ht,if_neg hu]
     rw [Tr.re]
     by_cases h:u=t
     · subst h; rw [if_pos rfl,if_pos rfl]; rfl
     · rw [if_neg (lL h),if_neg h]
theorem Tm.fY (tm:Tm) (t:Nat) (v:AV):(tm.put t v).at t=v:=by rw [Tm.E6,if_pos rfl]
theorem Tm.iP {t u:Nat} (h:u≠t) (tm:Tm) (v:AV):(tm.put t v).at u=tm.at u:=by rw [Tm.E6,if_neg h]
theorem Tm.UU (t:Nat):Tm.e.at t=aD:=by
 unfold Tm.at
 by_cases h:t<=63
 · rw [if_pos h]
   have h1:t/8<8:=by omega
   have h2:t%8<8:=by omega
   generalize t/8=a at h1
   generalize t%8=b at h2
   rcases d8 h1 with rfl | rfl | rfl | rfl | rfl | rfl | rfl | rfl<;>rcases d8 h2 with rfl | rfl | rfl | rfl | rfl | rfl | rfl | rfl<;>rfl
 · rw [if_neg h]
   show ((Tr.e:Tr AV).get (aX t)).getD aD=aD
   rw [Tr.fD]; rfl
theorem xH (x y:Rs):bD true x y=x:=rfl
theorem uz (x y:Rs):bD false x y=y:=rfl
theorem aK {b:Bool} {x:Rs} {n:Nat} (h:bD b x (.bad n)=.ok):b=true/\x=.ok:=by
 cases b with
 | true=>exact⟨rfl,h⟩
 | false=>cases h
theorem bE {b:Bool} {x y:Rs} (h:bD b x y=.ok):(b=true/\x=.ok)∨(b=false/\y=.ok):=by
 cases b with
 | true=>exact .inl ⟨rfl,h⟩
 | false=>exact .inr ⟨rfl,h⟩
theorem aI (n:Nat) (k:Nat->Rs):bd n k=k n:=by cases n<;>rfl
theorem ct (z:Int) (k:Int->Rs):lF z k=k z:=by
 cases z with
 | ofNat m=>exact aI m fun m=>k (.ofNat m)
 | negSucc m=>exact aI m fun m=>k (.negSucc m)
theorem aU (b:Bool) (k:Bool->Rs):bY b k=k b:=by cases b<;>rfl
theorem cy {v:AV} {k:IntKind->Int->Rs} (h:asInt v k=.ok):∃kd n,v=.int kd n/\k kd n=.ok:=by
 cases v<;>first | exact⟨_,_,rfl,h⟩ | cases h
theorem uA {v:AV} {k:Bool->Rs} (h:asBool v k=.ok):∃b,v=.bool b/\k b=.ok:=by
 cases v<;>first | exact⟨_,rfl,h⟩ | cases h
theorem gz {v:AV} {k:Pz->Nat->Rs} (h:jr v k=.ok):∃p o,v=.ptr p o/\k p o=.ok:=by
 cases v<;>first | exact⟨_,_,rfl,h⟩ | cases h
theorem iY {v:AV} {k:Nat->Rs} (h:asNat v k=.ok):∃kd n,v=.int kd (.ofNat n)/\k n=.ok:=by
 obtain⟨kd,n,rfl,h⟩:=cy h
 cases n with
 | ofNat n=>exact⟨kd,n,rfl,h⟩
 | negSucc n=>cases h
theorem ai {a b:Nat} (h:Nat.beq a b=true):a=b:=Nat.eq_of_beq_eq_true h
theorem aL {a b:Nat} (h:Nat.ble a b=true):a<=b:=Nat.le_of_ble_eq_true h
theorem au {a b:Nat} (h:Nat.blt a b=true):a<b:=Nat.le_of_ble_eq_true h
theorem zX {a b:Nat} (h:Nat.ble a b=false):b<a:=by
 rcases Nat.lt_or_ge b a with h' | h'
 · exact h'
 · rw [Nat.ble_eq_true_of_le h'] at h; cases h
theorem N7 {a b:Nat} (h:Nat.blt a b=false):b<=a:=by have:=zX (a:=a.succ) (b:=b) h; omega
theorem pP {a b:Nat} (h:Nat.beq a b=false):a≠b:=fun e=>by rw [e,Nat.beq_refl] at h; cases h
theorem mB {α:Type} (r:Nat):∀{l:List α} {k:α->Rs},tQ r l k=.ok->∃v,l[r]?=some v/\k v=.ok:=by
 induction r with
 | zero=>intro l k h; cases l with
   | nil=>cases h
   | cons x t=>exact⟨x,rfl,h⟩
 | succ r ih=>intro l k h; cases l with
   | nil=>cases h
   | cons x t=>obtain⟨v,h1,h2⟩:=ih h; exact⟨v,by simpa using h1,h2⟩
theorem lM (n:Nat):∀{l:List AV} {k:List AV->Rs},qz n l k=.ok->n<=l.length/\k (l.take n)=.ok:=by
 induction n with
 | zero=>intro l k h; exact⟨Nat.zero_le _,by rw [List.take_zero]; exact h⟩
 | succ n ih=>intro l k h; cases l with
   | nil=>cases h
   | cons x t=>obtain⟨h1,h2⟩:=ih h; exact⟨by simpa using h1,by simpa using h2⟩
theorem lN (n:Nat):∀{l:List AV} {k:List AV->Rs},ot n l k=.ok->n<=l.length/\k (l.drop n)=.ok:=by
 induction n with
 | zero=>intro l k h; exact⟨Nat.zero_le _,by rw [List.drop_zero]; exact h⟩
 | succ n ih=>intro l k h; cases l with
   | nil=>cases h
   | cons x t=>obtain⟨h1,h2⟩:=ih h; exact⟨by simpa using h1,by simpa using h2⟩
theorem E7 (vs:List AV):∀{l:List AV} {k:List AV->Rs},Mb vs l k=.ok->vs.length<=l.length/\k (vs++l.drop vs.length)=.ok:=by
 induction vs with
 | nil=>intro l k h; exact⟨Nat.zero_le _,h⟩
 | cons v vs ih=>intro l k h; cases l with
   | nil=>cases h
   | cons x t=>obtain⟨h1,h2⟩:=ih h; exact⟨by simpa using h1,by simpa using h2⟩
def ef (r:Nat) (vs l:List AV):List AV:=l.take r++vs++l.drop (r+vs.length)
theorem nM (r:Nat):∀{vs l:List AV} {k:List AV->Rs},oq r vs l k=.ok->r+vs.length<=l.length/\k (ef r vs l)=.ok:=by
 induction r with
 | zero=>intro vs l k h; obtain⟨h1,h2⟩:=E7 vs h; exact⟨by omega,by simpa [ef] using h2⟩
 | succ r ih=>intro vs l k h; cases l with
   | nil=>cases h
   | cons x t =>
     obtain⟨h1,h2⟩:=ih (vs:=vs) (l:=t) (k:=fun t=>k (x::t)) h
     exact⟨by simp only [List.length_cons]; omega,by simpa [ef,Nat.add_right_comm] using h2⟩
theorem uB (v:AV) (z:Rs) (kk:Nat->Nat->Rs):jE v z kk=(match v with | .str l n=>kk l n | _=>z):=by cases v<;>rfl
theorem Dx (v:AV) (z:Rs) (kk:List AV->Rs):EO v z kk=(match v with | .cu vs=>kk vs | _=>z):=by cases v<;>rfl
theorem fZ {a b:IntKind} (h:dO a b=true):a=b:=by cases a<;>cases b<;>first | rfl | cases h
def bytesOf:Nat->Nat->List UInt8
 | 0,_=>[]
 | l+1,n=>bytesOf l (n/256)++[UInt8.ofNat (n%256)]
theorem aA:∀l n,(bytesOf l n).length=l
 | 0,_=>rfl
 | l+1,n=>by simp [bytesOf,aA l]
structure En where
 aR:Pz->Nat
 sh:Pz->Nat
 jP:Pz->Nat
noncomputable def lh (ι:En):Fn->Fn
 | .yield j=>.yield (ι.aR (aX (j-1)))
 | f=>f
theorem xI {f:Fn} (h:ES f=true) (ι:En):lh ι f=f:=by cases f<;>first | rfl | cases h
def pQ:Nat->Nat × Nat
 | 0=>(0,0)
 | n+1=>match pQ n with
   | (0,b)=>(b+1,0)
   | (a+1,b)=>(a,b+1)
theorem js (s b a:Nat) (h:a+b=s):∃n,pQ n=(a,b):=by
 match b,a with
 | 0,0=>exact⟨0,rfl⟩
 | 0,a+1=>obtain⟨n,hn⟩:=js a a 0 (by omega); exact⟨n+1,by simp [pQ,hn]⟩
 | b+1,a=>obtain⟨n,hn⟩:=js s b (a+1) (by omega); exact⟨n+1,by simp [pQ,hn]⟩
 termination_by (s,b)
def oE (b o len cap:Nat):Addr:=if len=0/\cap=0 then ⟨b,(pQ o).1,match (pQ o).2 with | 0=>none | s+1=>some s⟩ else ⟨b,o,none⟩
theorem lO {b o len cap:Nat} (h:¬(len=0/\cap=0)):oE b o len cap=⟨b,o,none⟩:=if_neg h
theorem gh (b len cap:Nat):oE b 0 len cap=⟨b,0,none⟩:=by unfold oE; split<;>rfl
theorem uC (a:Addr):∃o,oE a.block o 0 0=a:=by
 obtain⟨b,o,s⟩:=a
 cases s with
 | none=>obtain⟨n,hn⟩:=js _ 0 o rfl; exact⟨n,by simp [oE,hn]⟩
 | some s=>obtain⟨n,hn⟩:=js _ (s+1) o rfl; exact⟨n,by simp [oE,hn]⟩
mutual
noncomputable def aj (ι:En):AV->Value
 | .bool b=>.bool b
 | .int k n=>.int k n
 | .str l n=>.string ⟨(bytesOf l n).toArray⟩
 | .float k b=>.float k b
 | .ptr id off=>.pointer (some ⟨ι.aR id,ι.sh id+off,none⟩)
 | .dq=>.pointer none
 | .slice id off len cap=>.slice (some ⟨ι.aR id,ι.sh id+off,none⟩) len cap
 | .aS id off len skip=>.slice (some ⟨ι.aR id,ι.sh id+off,none⟩) len (ι.jP id-skip)
 | .aB=>.slice none 0 0
 | .map id=>.map (some (ι.aR id))
 | .aV=>.map none
 | .func fn first captured=>.func (lh ι fn) (ao ι first).toArray (ao ι captured).toArray
 | .cg=>.nilFunc
 | .iface t v=>.iface t (aj ι v)
 | .nilIface=>.nilIface
 | .agg cs=>.agg (ao ι cs).toArray
 | .cu vs=>.tuple (ao ι vs).toArray
 | .di b o len cap=>.slice (some (oE b o len cap)) len cap
 | .bW b o=>.pointer (some ⟨b,o,none⟩)
 | .dG b=>.map (some b)
noncomputable def ao (ι:En):List AV->List Value
 | []=>[]
 | v::vs=>aj ι v::ao ι vs
end
theorem iJ (ι:En):∀l,ao ι l=l.map (aj ι)
 | []=>by simp [ao]
 | v::vs=>by simp [ao,iJ ι vs]
theorem aq (ι:En) (l:List AV):(ao ι l).length=l.length:=by rw [iJ]; simp
theorem gj (ι:En) (a b:List AV):ao ι (a++b)=ao ι a++ao ι b:=by simp [iJ]
theorem uD (ι:En) (n:Nat) (a:List AV):ao ι (a.take n)=(ao ι a).take n:=by simp [iJ]
theorem uE (ι:En) (n:Nat) (a:List AV):ao ι (a.drop n)=(ao ι a).drop n:=by simp [iJ]
theorem bo (ι:En) (a:List AV) (i:Nat):(ao ι a)[i]?=(a[i]?).map (aj ι):=by simp [iJ]
theorem cK (ι:En):aj ι aD=undef:=by simp [aD,aj,ao,undef]
theorem bL (ι:En) (v:AV):(aj ι v).cells=(ao ι v.cells).toArray:=by
 cases v<;>simp [AV.cells,Value.cells,aj,ao]
theorem lP:∀(l n:Nat),bytesOf l (n%256 ^ l)=bytesOf l n
 | 0,_=>rfl
 | l+1,n=>by
   have h1:n%256 ^ (l+1)/256=n/256%256 ^ l:=by rw [Nat.pow_succ,Nat.mul_comm,Nat.mod_mul_right_div_self]
   have h2:n%256 ^ (l+1)%256=n%256:=by rw [Nat.pow_succ,Nat.mul_comm,Nat.mod_mul_right_mod]
   simp only [bytesOf]
   rw [h1,h2,lP l]
theorem kD (l n b:Nat) (hb:b<256):bytesOf (l+1) (n*256+b)=bytesOf l n++[UInt8.ofNat b]:=by
 simp only [bytesOf]
 rw [show (n*256+b)/256=n by omega,show (n*256+b)%256=b by omega]
theorem oF:∀(l:List UInt8) (k n:Nat),bytesOf (k+l.length) (l.foldl (fun n b=>n*256+b.toNat) n)=bytesOf k n++l
 | [],k,n=>by simp
 | b::l,k,n=>by
   have h:=oF l (k+1) (n*256+b.toNat)
   rw [kD _ _ _ b.toNat_lt] at h
   simp only [List.foldl_cons,List.length_cons]
   rw [show k+(l.length+1)=k+1+l.length by omega,h]
   simp
theorem lQ (l:List UInt8):bytesOf l.length (vH l)=l:=by
 have:=oF l 0 0
 simpa [vH,bytesOf] using this
theorem qB:∀(l m n:Nat),bytesOf l m=bytesOf l n->m%256 ^ l=n%256 ^ l
 | 0,m,n,_=>by simp [Nat.mod_one]
 | l+1,m,n,h=>by
   simp only [bytesOf] at h
   have hl:(bytesOf l (m/256)).length=(bytesOf l (n/256)).length:=by rw [aA,aA]
   obtain⟨h1,h2⟩:=List.append_inj h hl
   have hi:=qB l _ _ h1
   have h3:m%256=n%256:=by
    have h4:(UInt8.ofNat (m%256)).toNat=(UInt8.ofNat (n%256)).toNat:=by rw [List.cons.inj h2 |>.1]
    simp only [UInt8.toNat_ofNat'] at h4
    omega
   have e1:m%256 ^ (l+1)=256*(m/256%256 ^ l)+m%256:=by
    rw [Nat.pow_succ,Nat.mul_comm,Nat.mod_mul]; omega
   have e2:n%256 ^ (l+1)=256*(n/256%256 ^ l)+n%256:=by
    rw [Nat.pow_succ,Nat.mul_comm,Nat.mod_mul]; omega
   rw [e1,e2,hi,h3]
theorem iK (n:Nat):lG n=256 ^ n:=by
 unfold lG
 rw [show Nat.shiftLeft 1 (8*n)=1 <<< (8*n) from rfl,Nat.shiftLeft_eq,Nat.one_mul,Nat.pow_mul]
theorem dz (l m l' m':Nat):aO l m l' m'=(bytesOf l m==bytesOf l' m'):=by
 unfold aO iI
 rw [iK,iK,Bool.eq_iff_iff]
 simp only [Bool.and_eq_true,beq_iff_eq]
 constructor
 · rintro⟨h1,h2⟩
   have h1:=ai h1
   have h2:=ai h2
   subst h1
   have h3:m%256 ^ l=m'%256 ^ l:=h2
   rw [<-lP l m,h3,lP]
 · intro h
   have hl:l=l':=by rw [<-aA l m,h,aA]
   subst hl
   have h3:=qB l m m' h
   exact⟨Nat.beq_refl _,by show Nat.beq (m%256 ^ l) (m'%256 ^ l)=true; rw [h3]; exact Nat.beq_refl _⟩
theorem lR:∀(l' l m m':Nat),bytesOf (l+l') (m*256 ^ l'+m'%256 ^ l')=bytesOf l m++bytesOf l' m'
 | 0,l,m,m'=>by simp [bytesOf,Nat.mod_one]
 | l'+1,l,m,m'=>by
   have e:m'%256 ^ (l'+1)=256*(m'/256%256 ^ l')+m'%256:=by rw [Nat.pow_succ,Nat.mul_comm,Nat.mod_mul]; omega
   have e2:m*256 ^ (l'+1)+m'%256 ^ (l'+1)=(m*256 ^ l'+m'/256%256 ^ l')*256+m'%256:=by
    rw [e,Nat.pow_succ,Nat.add_mul,Nat.mul_assoc]; omega
   rw [e2,show l+(l'+1)=(l+l')+1 by omega,kD _ _ _ (Nat.mod_lt _ (by decide)),lR l' l m]
   simp [bytesOf]
theorem kG:∀(d l n:Nat),bytesOf l (n/256 ^ d)=(bytesOf (l+d) n).take l
 | 0,l,n=>by
   rw [Nat.pow_zero,Nat.div_one,Nat.add_zero,List.take_of_length_le (by rw [aA]; exact Nat.le_refl _)]
 | d+1,l,n=>by
   have h:=kG d l (n/256)
   rw [Nat.div_div_eq_div_mul,<-Nat.pow_succ'] at h
   rw [h,show l+(d+1)=(l+d)+1 by omega]
   simp only [bytesOf]
   rw [List.take_append_of_le_length (by rw [aA]; omega)]
theorem oG:∀(l d n:Nat),bytesOf l n=(bytesOf (d+l) n).drop d
 | 0,d,n=>by
   rw [List.drop_of_length_le (by rw [aA]; exact Nat.le_refl _)]; rfl
 | l+1,d,n=>by
   rw [show d+(l+1)=(d+l)+1 by omega]
   simp only [bytesOf]
   rw [List.drop_append_of_le_length (by rw [aA]; omega),<-oG l d]
theorem lS:∀(l n i:Nat),i<l->(bytesOf l n)[i]?=some (UInt8.ofNat (n/256 ^ (l-(i+1))%256))
 | 0,_,_,h=>by omega
 | l+1,n,i,h=>by
   simp only [bytesOf]
   by_cases hi:i<l
   · rw [List.getElem?_append_left (by rw [aA]; exact hi),lS l (n/256) i hi,Nat.div_div_eq_div_mul,<-Nat.pow_succ',show (l-(i+1)).succ=l+1-(i+1) by omega]
   · have:i=l:=by omega
     subst this
     rw [List.getElem?_append_right (by rw [aA]; exact Nat.le_refl _),aA]
     simp
end Go.aQ
namespace Go.aQ
open Go.RowKit
def al (nx:Pz) (ι ι':En):Prop:=∀id:Pz,id.num<nx.num->ι'.aR id=ι.aR id/\ι'.sh id=ι.sh id/\ι'.jP id=ι.jP id
theorem al.refl (nx:Pz) (ι:En):al nx ι ι:=fun _ _=>⟨rfl,rfl,rfl⟩
theorem al.trans {nx nx':Pz} {a b c:En} (h:al nx a b) (h':al nx' b c) (hle:nx.num<=nx'.num):al nx a c:=fun id hid =>
 ⟨(h' id (by omega)).1.trans (h id hid).1,(h' id (by omega)).2.1.trans (h id hid).2.1,(h' id (by omega)).2.2.trans (h id hid).2.2⟩
def dM (ι:En) (C:Array Value) (base es n:Nat) (c:Tr (List AV)):Prop :=
 ∀q,q<n->∃l,c.get (aX q)=some l/\l.length=es/\∀r,r<es->C[base+(q*es+r)]?=(l[r]?).map (aj ι)
def live (hp:Tr AO) (f:Pz) (ep:Nat):Prop:=∃gR,hp.get f=some (.cU ep gR)
def own (hp:Tr AO):AO->Prop
 | .ca f ep _ _ _ _ _=>live hp f ep
 | .cU _ _=>False
 | _=>True
def eN (fz:Nat × Nat) (m:Nat):Prop:=fz.1=fz.2∨m<=fz.1
theorem eN.no {fz:Nat × Nat} {m:Nat} (h:eN fz m) (o:Nat) (ho:o<m):¬(fz.1<=o/\o<fz.2):=by
 rcases h with h | h<;>omega
noncomputable def c6 (ι:En) (e:ME):MapEntry:=⟨aj ι e.key,aj ι e.val,e.born⟩
def N8:Ex->Option Code
 | .fK=>none
 | .ext id=>some (.exit id)
 | .ret=>some .ret
def tS:LS->LoopState
 | .ready=>.ready
 | .busy=>.busy
 | .done _=>.done
def nN:LS->Option Code
 | .done e=>N8 e
 | _=>none
def iC (ι:En) (hp:Tr AO) (w:World) (id:Pz):AO->Prop
 | .arr es n el c=>∃C fz,w.heap[ι.aR id]?=some (.cells C el fz)/\ι.sh id=0/\C.size=n*es/\dM ι C 0 es n c/\eN fz C.size
 | .ca f ep _ es n el c=>live hp f ep->∃C fz,w.heap[ι.aR id]?=some (.cells C el fz)/\ι.sh id+ι.jP id*es<=C.size/\n<=ι.jP id/\dM ι C (ι.sh id) es n c/\eN fz C.size
 | .cU _ _=>True
 | .map es clock=>∃E:Array MapEntry,w.heap[ι.aR id]?=some (.map E clock)/\E.toList=es.map (c6 ι)
 | .loop _ nt tm ps x y st=>∃fn tmps D,w.heap[ι.aR id]?=some (.loop { state:=tS st,pending:=nN st,fn,tmps,params:=ps,assign:=x,body:=y,defers:=D })/\tmps.size=nt/\tm.ml=[]/\∀t,tmps.getD t undef=aj ι (tm.at t)
 | .fi=>w.heap[ι.aR id]?=some (.deferred (some []))
 | .gone=>(w.heap[ι.aR id]?).isSome=true
 | .iter m since seen clock=>w.heap[ι.aR id]?=some (.mapIter (some (ι.aR m)) since seen.reverse.toArray clock)/\ι.sh id=0
def gO:AO->Option Pz
 | .ca f _ _ _ _ _ _=>some f
 | _=>none
structure Kept (B:Nat->Prop) (w w':World):Prop where
 os:w'.os=w.os
 tape:w'.tape=w.tape
 output:w'.output=w.output
 size:w.heap.size<=w'.heap.size
 block:∀k,B k->w'.heap[k]?=w.heap[k]?
theorem Kept.refl (B:Nat->Prop) (w:World):Kept B w w:=⟨rfl,rfl,rfl,Nat.le_refl _,fun _ _=>rfl⟩
theorem Kept.trans {B:Nat->Prop} {a b c:World} (h:Kept B a b) (k:Kept B b c):Kept B a c :=
 ⟨k.os.trans h.os,k.tape.trans h.tape,k.output.trans h.output,Nat.le_trans h.size k.size,fun i hi=>(k.block i hi).trans (h.block i hi)⟩
theorem Kept.mono {B B':Nat->Prop} {a b:World} (h:Kept B a b) (hB:∀k,B' k->B k):Kept B' a b:=⟨h.os,h.tape,h.output,h.size,fun k hk=>h.block k (hB k hk)⟩
theorem Kept.drew {B:Nat->Prop} {a w:World} (h:Kept B a w):Kept B a w.drew:=⟨h.os,h.tape,h.output,h.size,h.block⟩
theorem Kept.alloc {B:Nat->Prop} {a w:World} (h:Kept B a w) (hB:∀k,B k->k<w.heap.size) (o:Obj):Kept B a (w.alloc o) :=
 h.trans ⟨rfl,rfl,rfl,by simp,fun k hk=>Below.heap_alloc _ _ _ (hB k hk)⟩
theorem Kept.setCell {B:Nat->Prop} {a w:World} (h:Kept B a w) {p:Addr} (hp:¬B p.block) (u:Value):Kept B a (w.setCell p u) :=
 h.trans ⟨rfl,rfl,rfl,by simp [World.setCell],fun k hk=>Below.heap_setCell _ _ _ _ (fun e=>hp (e▸hk))⟩
structure Core (B:Nat->Prop) (w0:World) (ι:En) (hp:Tr AO) (w:World):Prop where
 below:Kept B w0 w
 room:∀k,B k->k<w.heap.size
 obj:∀id o,hp.get id=some o->iC ι hp w id o
 base:∀id o,hp.get id=some o->own hp o->¬B (ι.aR id)
 sep:∀id id' o o',id≠id'->hp.get id=some o->hp.get id'=some o'->own hp o->own hp o'->ι.aR id=ι.aR id'->∃f,gO o=some f/\gO o'=some f
 ec:∀id id' f ep es n el c f' ep' tp' es' n' el' c',id≠id'->hp.get id=some (.ca f ep true es n el c)->hp.get id'=some (.ca f' ep' tp' es' n' el' c')->live hp f ep->live hp f' ep' ->
  (f=f'->tp'=false)/\(ι.aR id=ι.aR id'->n<ι.jP id->ι.sh id'+n'*es'<=ι.sh id+n*es)
structure Wf (hp:Tr AO) (nx:Pz):Prop where
 lt:∀id o,hp.get id=some o->id.num<nx.num
 cU:∀id f ep tp es n el c,hp.get id=some (.ca f ep tp es n el c)->f.num<nx.num
 ep:∀id f ep tp es n el c e s,hp.get id=some (.ca f ep tp es n el c)->hp.get f=some (.cU e s)->ep<=e
 gR:∀f e id id' tp es n el c tp' es' n' el' c',hp.get f=some (.cU e true)->hp.get id=some (.ca f e tp es n el c)->hp.get id'=some (.ca f e tp' es' n' el' c')->id=id'
theorem fE (b o n:Nat):(⟨b,o,none⟩:Addr).add n=⟨b,o+n,none⟩:=by
 unfold Addr.add
 split
 · rename_i h; subst h; rfl
 · rfl
theorem cell_of {w:World} {b:Nat} {C:Array Value} {el:TypeId} {fz:Nat × Nat} (h:w.heap[b]?=some (.cells C el fz)) (o:Nat):w.cell? ⟨b,o,none⟩=C[o]?:=by
 simp [World.cell?,h]
theorem Dy {w:World} {b:Nat} {C:Array Value} {el:TypeId} {fz:Nat × Nat} (h:w.heap[b]?=some (.cells C el fz)) (o:Nat):w.frozen? ⟨b,o,none⟩=(decide (fz.1<=o)&&decide (o<fz.2)):=by
 obtain⟨lo,hi⟩:=fz
 simp [World.frozen?,h]
theorem oH {hp:Tr AO} {f:Pz} {ep:Nat} {k:Bool->Rs} (h:uj hp f ep k=.ok):∃gR,hp.get f=some (.cU ep gR)/\k gR=.ok:=by
 obtain⟨o,ho,h⟩:=cJ h
 cases o with
 | cU e gR =>
   obtain⟨he,hk⟩:=aK h
   have:=ai he
   subst this
   exact⟨gR,ho,hk⟩
 | arr=>cases h
 | ca=>cases h
 | map=>cases h
 | iter=>cases h
 | loop=>cases h
 | fi=>cases h
 | gone=>cases h
def rL (ι:En) (w:World) (id:Pz) (es n:Nat) (c:Tr (List AV)):Prop :=
 ∃C el fz,w.heap[ι.aR id]?=some (.cells C el fz)/\ι.sh id+n*es<=C.size/\dM ι C (ι.sh id) es n c/\eN fz C.size
theorem vQ {hp:Tr AO} {id:Pz} {k:Nat->Nat->Tr (List AV)->Rs} (h:JH hp id k=.ok) :
  ∃es n c,k es n c=.ok/\(∃o,hp.get id=some o/\own hp o)/\∀B w0 ι w,Core B w0 ι hp w->rL ι w id es n c:=by
 obtain⟨o,ho,h⟩:=cJ h
 cases o with
 | arr es n el c =>
   refine⟨es,n,c,h,⟨_,ho,trivial⟩,fun B w0 ι w hc=>?_⟩
   obtain⟨C,fz,h1,h2,h3,h4,h5⟩:=hc.obj _ _ ho
   exact⟨C,el,fz,h1,by rw [h2,h3]; omega,by rw [h2]; exact h4,h5⟩
 | ca f ep tp es n el c =>
   obtain⟨gR,hf,h⟩:=oH h
   refine⟨es,n,c,h,⟨_,ho,⟨gR,hf⟩⟩,fun B w0 ι w hc=>?_⟩
   obtain⟨C,fz,h1,h2,h3,h4,h5⟩:=hc.obj _ _ ho ⟨gR,hf⟩
   exact⟨C,el,fz,h1,Nat.le_trans (Nat.add_le_add_left (Nat.mul_le_mul_right _ h3) _) h2,h4,h5⟩
 | cU=>cases h
 | map=>cases h
 | iter=>cases h
 | loop=>cases h
 | fi=>cases h
 | gone=>cases h
theorem oI {es n:Nat} {c:Tr (List AV)} {off:Nat} {k:Nat->Nat->List AV->Rs} (h:uk es n c off k=.ok) :
  ∃l,off/es<n/\c.get (aX (off/es))=some l/\k (off/es) (off%es) l=.ok:=by
 unfold uk at h
 rw [aI,aI] at h
 obtain⟨h1,h⟩:=aK h
 obtain⟨l,h2,h⟩:=cJ h
 exact⟨l,au h1,h2,h⟩
theorem rL.cell {ι:En} {w:World} {id:Pz} {es n:Nat} {c:Tr (List AV)} (h:rL ι w id es n c) {off:Nat} {l:List AV} (hq:off/es<n) (hl:c.get (aX (off/es))=some l) (i:Nat) (hi:off%es+i<l.length) :
  w.cell? ⟨ι.aR id,ι.sh id+(off+i),none⟩=(l[off%es+i]?).map (aj ι):=by
 obtain⟨C,el,fz,h1,h2,h3,h4⟩:=h
 obtain⟨l',hl',hlen,hr⟩:=h3 _ hq
 rw [hl] at hl'
 cases hl'
 rw [cell_of h1,<-hr _ (by omega)]
 congr 2
 have:=Nat.div_add_mod off es
 rw [Nat.mul_comm] at this
 omega
theorem qC {hp:Tr AO} {id:Pz} {off:Nat} {k:AV->Rs} (h:ou hp id off k=.ok) :
  ∃v,k v=.ok/\∀B w0 ι w,Core B w0 ι hp w->w.cell? ⟨ι.aR id,ι.sh id+off,none⟩=some (aj ι v):=by
 obtain⟨es,n,c,h,_,hrow⟩:=vQ h
 obtain⟨l,hq,hl,h⟩:=oI h
 obtain⟨v,hv,h⟩:=mB _ h
 refine⟨v,h,fun B w0 ι w hc=>?_⟩
 have hlt:off%es<l.length:=by
  rcases Nat.lt_or_ge (off%es) l.length with h' | h'
  · exact h'
  · rw [List.getElem?_eq_none h'] at hv; cases hv
 have:=(hrow B w0 ι w hc).cell hq hl 0 (by omega)
 rw [Nat.add_zero,Nat.add_zero,hv] at this
 exact this
def oJ (ι:En) (w:World) (id:Pz) (off:Nat) (l:List AV):Prop:=∀i,i<l.length->w.cell? ⟨ι.aR id,ι.sh id+(off+i),none⟩=(l[i]?).map (aj ι)
theorem kH {hp:Tr AO} {id:Pz} {off sz:Nat} {k:List AV->Rs} (h:jN hp id off sz k=.ok) :
  ∃l,k l=.ok/\∀B w0 ι w,Core B w0 ι hp w->l.length=sz/\oJ ι w id off l:=by
 obtain⟨es,n,c,h,_,hrow⟩:=vQ h
 obtain⟨l,hq,hl,h⟩:=oI h
 rcases bE h with ⟨hb,h⟩ | ⟨hb,h⟩
 · rw [Bool.and_eq_true] at hb
   have h1:=ai hb.1
   have h2:off%es=0:=ai hb.2
   refine⟨l,h,fun B w0 ι w hc=>⟨?_,fun i hi=>?_⟩⟩
   · obtain⟨C,el,fz,_,_,h3,_⟩:=hrow B w0 ι w hc
     obtain⟨l',hl',hlen,_⟩:=h3 _ hq
     rw [hl] at hl'
     cases hl'
     rw [hlen,h1]
   · have:=(hrow B w0 ι w hc).cell hq hl i (by omega)
     rw [h2,Nat.zero_add] at this
     exact this
 · obtain⟨h1,h⟩:=lN _ h
   obtain⟨h2,h⟩:=lM _ h
   rw [List.length_drop] at h2
   refine⟨(l.drop (off%es)).take sz,h,fun B w0 ι w hc=>⟨by rw [List.length_take,List.length_drop]; omega,fun i hi=>?_⟩⟩
   rw [List.length_take,List.length_drop] at hi
   rw [(hrow B w0 ι w hc).cell hq hl i (by omega),List.getElem?_take,if_pos (by omega),List.getElem?_drop]
end Go.aQ
namespace Go.aQ
open Go.RowKit
def bg (w:World) (b o:Nat):List Value->World
 | []=>w
 | v::vs=>bg (w.setCell ⟨b,o,none⟩ v) b (o+1) vs
def dB (C:Array Value) (o:Nat):List Value->Array Value
 | []=>C
 | v::vs=>dB (C.setIfInBounds o v) (o+1) vs
theorem bk:∀(vs:List Value) (C:Array Value) (o:Nat),(dB C o vs).size=C.size
 | [],_,_=>rfl
 | v::vs,C,o=>by simp only [dB]; rw [bk vs]; simp
theorem cX:∀(vs:List Value) (C:Array Value) (o i:Nat),o+vs.length<=C.size->(dB C o vs)[i]?=if o<=i/\i<o+vs.length then vs[i-o]? else C[i]?
 | [],C,o,i,_=>by simp only [dB,List.length_nil]; rw [if_neg (by omega)]
 | v::vs,C,o,i,h=>by
   simp only [dB]
   simp only [List.length_cons] at h
   rw [cX vs _ _ _ (by simp; omega)]
   simp only [List.length_cons]
   by_cases h1:o+1<=i/\i<o+1+vs.length
   · rw [if_pos h1,if_pos (by omega),show i-o=(i-(o+1))+1 by omega,List.getElem?_cons_succ]
   · rw [if_neg h1,Array.getElem?_setIfInBounds]
     by_cases h2:o=i
     · subst h2
       rw [if_pos rfl,if_pos (by omega),if_pos (by omega),Nat.sub_self]; rfl
     · rw [if_neg h2,if_neg (by omega)]
theorem tT {w:World} {b o:Nat} {v:Value} {C:Array Value} {el:TypeId} {fz:Nat × Nat} (h:w.heap[b]?=some (.cells C el fz)) :
  (w.setCell ⟨b,o,none⟩ v).heap[b]?=some (.cells (C.setIfInBounds o v) el fz):=by
 simp [World.setCell,Array.getElem?_modify,h]
theorem cz:∀(vs:List Value) (w:World) (b o:Nat) (C:Array Value) (el:TypeId) (fz:Nat × Nat),w.heap[b]?=some (.cells C el fz) ->
  (bg w b o vs).heap[b]?=some (.cells (dB C o vs) el fz)
 | [],_,_,_,_,_,_,h=>h
 | v::vs,w,b,o,C,el,fz,h=>cz vs _ b (o+1) _ el fz (tT h)
theorem gk:∀(vs:List Value) (w:World) (b o k:Nat),k≠b->(bg w b o vs).heap[k]?=w.heap[k]?
 | [],_,_,_,_,_=>rfl
 | v::vs,w,b,o,k,h=>by
   simp only [bg]
   rw [gk vs _ b (o+1) k h]
   exact Below.heap_setCell w ⟨b,o,none⟩ v k h
theorem g8:∀(vs:List Value) (w:World) (b o:Nat),(bg w b o vs).heap.size=w.heap.size
 | [],_,_,_=>rfl
 | v::vs,w,b,o=>by simp only [bg]; rw [g8 vs]; simp [World.setCell]
theorem dP {B:Nat->Prop} {w0:World}:∀(vs:List Value) (w:World) (b o:Nat),¬B b->Kept B w0 w->Kept B w0 (bg w b o vs)
 | [],_,_,_,_,h=>h
 | v::vs,w,b,o,hb,h=>dP vs _ b (o+1) hb (h.setCell (p:=⟨b,o,none⟩) hb v)
theorem uF {v:AV} {vs:List AV} (h:flat (v::vs)=true):qV v=true/\flat vs=true:=by
 unfold flat at h
 cases hb:qV v with
 | true=>simp only [hb] at h; exact⟨rfl,h⟩
 | false=>simp only [hb] at h; cases h
def tU:Value->Bool
 | .agg _=>false
 | .tuple _=>false
 | _=>true
theorem JO (ι:En) {v:AV} (h:qV v=true):tU (aj ι v)=true:=by
 cases v<;>first | (simp [aj,tU]; done) | cases h
theorem BA {w:World} {b:Nat} (h:(w.heap[b]?).isSome=true):b<w.heap.size:=by
 rcases Nat.lt_or_ge b w.heap.size with h' | h'
 · exact h'
 · rw [Array.getElem?_eq_none h'] at h; cases h
theorem iC.br {ι:En} {hp hp':Tr AO} {w w':World} {id:Pz} {o:AO} (h:iC ι hp w id o) (ho:own hp' o->own hp o) (hb:own hp' o->w'.heap[ι.aR id]?=w.heap[ι.aR id]?):iC ι hp' w' id o:=by
 cases o with
 | arr es n el c =>
   obtain⟨C,fz,h1,h2⟩:=h
   exact⟨C,fz,by rw [hb trivial]; exact h1,h2⟩
 | ca f ep tp es n el c =>
   intro hl
   obtain⟨C,fz,h1,h2⟩:=h (ho hl)
   exact⟨C,fz,by rw [hb hl]; exact h1,h2⟩
 | cU=>trivial
 | map es c =>
   obtain⟨E,h1,h2⟩:=h
   exact⟨E,by rw [hb trivial]; exact h1,h2⟩
 | iter=>exact⟨by rw [hb trivial]; exact h.1,h.2⟩
 | loop=>obtain⟨fn,tmps,D,h1,h2⟩:=h; exact⟨fn,tmps,D,by rw [hb trivial]; exact h1,h2⟩
 | fi=>show w'.heap[ι.aR id]?=_; rw [hb trivial]; exact h
 | gone=>show (w'.heap[ι.aR id]?).isSome=true; rw [hb trivial]; exact h
theorem nO (r:Nat) (vs l:List AV) (h:r+vs.length<=l.length) (i:Nat):(ef r vs l)[i]?=if r<=i/\i<r+vs.length then vs[i-r]? else l[i]?:=by
 unfold ef
 by_cases h1:i<r
 · rw [if_neg (by omega),List.append_assoc,List.getElem?_append_left (by rw [List.length_take]; omega),List.getElem?_take,if_pos h1]
 · rw [List.append_assoc,List.getElem?_append_right (by rw [List.length_take]; omega),List.length_take,Nat.min_eq_left (by omega)]
   by_cases h2:i<r+vs.length
   · rw [if_pos ⟨by omega,h2⟩,List.getElem?_append_left (by omega)]
   · rw [if_neg (by omega),List.getElem?_append_right (by omega),List.getElem?_drop]
     congr 1
     omega
theorem nu (r:Nat) (vs l:List AV) (h:r+vs.length<=l.length):(ef r vs l).length=l.length:=by
 unfold ef
 simp only [List.length_append,List.length_take,List.length_drop]
 omega
theorem qD {ι:En} {C:Array Value} {base es n:Nat} {c:Tr (List AV)} (h:dM ι C base es n c) {off:Nat} {l vs:List AV} (hq:off/es<n) (hl:c.get (aX (off/es))=some l)
  (hr:off%es+vs.length<=l.length) (hC:base+n*es<=C.size):dM ι (dB C (base+off) (ao ι vs)) base es n (c.set (aX (off/es)) (ef (off%es) vs l)):=by
 have hdm:off/es*es+off%es=off:=by have:=Nat.div_add_mod off es; rw [Nat.mul_comm] at this; exact this
 obtain⟨l0,hl0,hlen,hget⟩:=h _ hq
 rw [hl] at hl0
 cases hl0
 have hmul:off/es*es+es<=n*es:=by
  have:=Nat.mul_le_mul_right es (Nat.succ_le_of_lt hq)
  rw [Nat.succ_mul] at this
  exact this
 have hb:base+off+(ao ι vs).length<=C.size:=by rw [aq]; omega
 intro q hqn
 by_cases hqq:q=off/es
 · subst hqq
   refine⟨_,Tr.bm _ _ _,by rw [nu _ _ _ hr,hlen],fun r hr'=>?_⟩
   rw [cX _ _ _ _ hb,nO _ _ _ hr,aq]
   by_cases hx:off%es<=r/\r<off%es+vs.length
   · rw [if_pos (by omega),if_pos hx,bo]
     congr 2
     omega
   · rw [if_neg (by omega),if_neg hx]
     exact hget r hr'
 · obtain⟨l',hl',hlen',hget'⟩:=h q hqn
   refine⟨l',by rw [Tr.cN (lL hqq)]; exact hl',hlen',fun r hr'=>?_⟩
   rw [cX _ _ _ _ hb,aq,if_neg,hget' r hr']
   intro hx
   rcases Nat.lt_or_gt_of_ne hqq with hlt | hgt
   · have:=Nat.mul_le_mul_right es (Nat.succ_le_of_lt hlt)
     rw [Nat.succ_mul] at this
     omega
   · have:=Nat.mul_le_mul_right es (Nat.succ_le_of_lt hgt)
     rw [Nat.succ_mul] at this
     omega
def kI (w:World) (b o n:Nat):Prop:=∀i,i<n->(∃u,w.cell? ⟨b,o+i,none⟩=some u)/\w.frozen? ⟨b,o+i,none⟩=false
theorem jQ {w:World} {b o n:Nat} {C:Array Value} {el:TypeId} {fz:Nat × Nat} (h:w.heap[b]?=some (.cells C el fz)) (hn:o+n<=C.size) (hf:eN fz C.size):kI w b o n:=by
 intro i hi
 refine⟨⟨C[o+i]'(by omega),by rw [cell_of h]; exact Array.getElem?_eq_getElem (by omega)⟩,?_⟩
 rw [Dy h]
 have:=hf.no (o+i) (by omega)
 by_cases hx:fz.1<=o+i
 · have hy:¬o+i<fz.2:=fun hy=>this ⟨hx,hy⟩
   simp [hy]
 · simp [hx]
theorem af {α:Type} {p q:Pz} {t:Tr α} {x y:α} (h:(t.set p x).get q=some y):(q=p/\x=y)∨(q≠p/\t.get q=some y):=by
 rw [Tr.re] at h
 by_cases hq:q=p
 · rw [if_pos hq] at h; exact .inl ⟨hq,Option.some.inj h⟩
 · rw [if_neg hq] at h; exact .inr ⟨hq,h⟩
theorem uG {es n off m:Nat} {l:Nat} (hq:off/es<n) (hr:off%es+m<=l) (hl:l=es):off+m<=n*es:=by
 have hdm:off/es*es+off%es=off:=by have:=Nat.div_add_mod off es; rw [Nat.mul_comm] at this; exact this
 have:=Nat.mul_le_mul_right es (Nat.succ_le_of_lt hq)
 rw [Nat.succ_mul] at this
 omega
def lj (hp hp':Tr AO) (id:Pz) (off:Nat) (vs:List AV):Prop :=
 (∀nx,Wf hp nx->Wf hp' nx)/\∀B w0 ι w nx,Wf hp nx->Core B w0 ι hp w->Core B w0 ι hp' (bg w (ι.aR id) (ι.sh id+off) (ao ι vs))/\kI w (ι.aR id) (ι.sh id+off) vs.length
theorem JP {hp:Tr AO} {id:Pz} {off es n:Nat} {el:TypeId} {c:Tr (List AV)} {l vs:List AV} (ho:hp.get id=some (.arr es n el c)) (hq:off/es<n) (hl:c.get (aX (off/es))=some l)
  (hr:off%es+vs.length<=l.length):lj hp (hp.set id (.arr es n el (c.set (aX (off/es)) (ef (off%es) vs l)))) id off vs:=by
 have hfam:∀f e s,(hp.set id (.arr es n el (c.set (aX (off/es)) (ef (off%es) vs l)))).get f=some (.cU e s)->hp.get f=some (.cU e s):=by
  intro f e s h
  rcases af h with ⟨_,h⟩ | ⟨_,h⟩
  · cases h
  · exact h
 have hseg:∀i f e tp es' n' el' c',(hp.set id (.arr es n el (c.set (aX (off/es)) (ef (off%es) vs l)))).get i=some (.ca f e tp es' n' el' c')->hp.get i=some (.ca f e tp es' n' el' c'):=by
  intro i f e tp es' n' el' c' h
  rcases af h with ⟨_,h⟩ | ⟨_,h⟩
  · cases h
  · exact h
 have hlive:∀f e,live (hp.set id (.arr es n el (c.set (aX (off/es)) (ef (off%es) vs l)))) f e->live hp f e:=fun f e ⟨s,h⟩=>⟨s,hfam _ _ _ h⟩
 refine⟨fun nx hw=>⟨?_,?_,?_,?_⟩,fun B w0 ι w nx hw hc=>?_⟩
 · intro i o h
   rcases af h with ⟨rfl,_⟩ | ⟨_,h⟩
   · exact hw.lt _ _ ho
   · exact hw.lt _ _ h
 · intro i f e tp es' n' el' c' h; exact hw.cU _ _ _ _ _ _ _ _ (hseg _ _ _ _ _ _ _ _ h)
 · intro i f e tp es' n' el' c' e' s h h'; exact hw.ep _ _ _ _ _ _ _ _ _ _ (hseg _ _ _ _ _ _ _ _ h) (hfam _ _ _ h')
 · intro f e i i' tp es' n' el' c' tp' es'' n'' el'' c'' h h1 h2; exact hw.gR _ _ _ _ _ _ _ _ _ _ _ _ _ _ (hfam _ _ _ h) (hseg _ _ _ _ _ _ _ _ h1) (hseg _ _ _ _ _ _ _ _ h2)
 · obtain⟨C,fz,h1,h2,h3,h4,h5⟩:=hc.obj _ _ ho
   obtain⟨l0,hl0,hlen,_⟩:=h4 _ hq
   rw [hl] at hl0
   cases hl0
   have hroom:=uG hq hr hlen
   refine⟨⟨dP _ _ _ _ (hc.base _ _ ho trivial) hc.below,fun k hk=>by rw [g8]; exact hc.room k hk,?_,?_,?_,?_⟩,?_⟩
   · intro i o h
     rcases af h with ⟨rfl,rfl⟩ | ⟨hne,h⟩
     · refine⟨_,fz,cz _ _ _ _ _ _ _ h1,h2,by rw [bk]; exact h3,?_,by rw [bk]; exact h5⟩
       have:=qD (base:=0) h4 (vs:=vs) hq hl hr (by rw [h3]; omega)
       rw [h2]
       exact this
     · refine (hc.obj _ _ h).br (fun ho'=>?_) (fun ho'=>?_)
       · cases o with
         | ca=>exact hlive _ _ ho'
         | _=>exact ho'
       · refine gk _ _ _ _ _ (fun e=>?_)
         have ho2:own hp o:=by
          cases o with
          | ca=>exact hlive _ _ ho'
          | _=>exact ho'
         obtain⟨f,_,h6⟩:=hc.sep _ _ _ _ hne h ho ho2 trivial e
         cases h6
   · intro i o h ho'
     rcases af h with ⟨rfl,rfl⟩ | ⟨hne,h⟩
     · exact hc.base _ _ ho trivial
     · refine hc.base _ _ h ?_
       cases o with
       | ca=>exact hlive _ _ ho'
       | _=>exact ho'
   · intro i i' o o' hne h h' ho1 ho2 e
     rcases af h with ⟨hi,hoo⟩ | ⟨hne1,g⟩
     · rcases af h' with ⟨hi',_⟩ | ⟨hne2,g'⟩
       · exact absurd (hi.trans hi'.symm) hne
       · have ho2':own hp o':=by
          cases o' with
          | ca=>exact hlive _ _ ho2
          | _=>exact ho2
         obtain⟨f,h6,_⟩:=hc.sep i i' (.arr es n el c) _ hne (hi▸ho) g' trivial ho2' e
         cases h6
     · have ho1':own hp o:=by
        cases o with
        | ca=>exact hlive _ _ ho1
        | _=>exact ho1
       rcases af h' with ⟨hi',_⟩ | ⟨hne2,g'⟩
       · obtain⟨f,_,h6⟩:=hc.sep i i' _ (.arr es n el c) hne g (hi'▸ho) ho1' trivial e
         cases h6
       · refine hc.sep _ _ _ _ hne g g' ho1' ?_ e
         cases o' with
         | ca=>exact hlive _ _ ho2
         | _=>exact ho2
   · intro i i' f e es' n' el' c' f' e' tp' es'' n'' el'' c'' hne h h' hl1 hl2
     exact hc.ec _ _ _ _ _ _ _ _ _ _ _ _ _ _ _ hne (hseg _ _ _ _ _ _ _ _ h) (hseg _ _ _ _ _ _ _ _ h') (hlive _ _ hl1) (hlive _ _ hl2)
   · exact jQ h1 (by rw [h2,h3]; omega) h5
theorem oK {hp hp':Tr AO} {id f:Pz} {ep ep' off es n:Nat} {ec:Bool} {el:TypeId} {c:Tr (List AV)} {l vs:List AV} (ho:hp.get id=some (.ca f ep ec es n el c)) (hlv:live hp f ep)
  (hq:off/es<n) (hl:c.get (aX (off/es))=some l) (hr:off%es+vs.length<=l.length)
  (hA:hp'.get id=some (.ca f ep' ec es n el (c.set (aX (off/es)) (ef (off%es) vs l))))
  (hB:∀i o,i≠id->hp'.get i=some o->hp.get i=some o∨∃e s,o=.cU e s)
  (hC:∀i o,i≠id->hp'.get i=some o->own hp' o->hp.get i=some o/\own hp o/\gO o≠some f) {B:Nat->Prop} {w0 w:World} {ι:En} (hc:Core B w0 ι hp w) :
  Core B w0 ι hp' (bg w (ι.aR id) (ι.sh id+off) (ao ι vs))/\kI w (ι.aR id) (ι.sh id+off) vs.length:=by
 obtain⟨C,fz,h1,h2,h3,h4,h5⟩:=hc.obj _ _ ho hlv
 obtain⟨l0,hl0,hlen,_⟩:=h4 _ hq
 rw [hl] at hl0
 cases hl0
 have hroom:=uG hq hr hlen
 have hkap:n*es<=ι.jP id*es:=Nat.mul_le_mul_right _ h3
 have hsep:∀i o,i≠id->hp'.get i=some o->own hp' o->ι.aR i≠ι.aR id:=by
  intro i o hne h ho' e
  obtain⟨g1,g2,g3⟩:=hC i o hne h ho'
  obtain⟨f',h6,h7⟩:=hc.sep i id o _ hne g1 ho g2 hlv e
  cases h7
  exact g3 h6
 refine⟨⟨dP _ _ _ _ (hc.base _ _ ho hlv) hc.below,fun k hk=>by rw [g8]; exact hc.room k hk,?_,?_,?_,?_⟩,jQ h1 (by omega) h5⟩
 · intro i o h
   by_cases hi:i=id
   · subst hi
     rw [hA] at h
     cases h
     intro _
     refine⟨_,fz,cz _ _ _ _ _ _ _ h1,by rw [bk]; exact h2,h3,?_,by rw [bk]; exact h5⟩
     exact qD h4 hq hl hr (by omega)
   · rcases hB i o hi h with g | ⟨e,s,rfl⟩
     · refine (hc.obj _ _ g).br (fun ho'=>(hC i o hi h ho').2.1) (fun ho'=>gk _ _ _ _ _ (hsep i o hi h ho'))
     · trivial
 · intro i o h ho'
   by_cases hi:i=id
   · subst hi; exact hc.base _ _ ho hlv
   · obtain⟨g1,g2,_⟩:=hC i o hi h ho'
     exact hc.base _ _ g1 g2
 · intro i i' o o' hne h h' ho1 ho2 e
   by_cases hi:i=id
   · subst hi; exact absurd e.symm (hsep i' o' (fun x=>hne x.symm) h' ho2)
   · by_cases hi':i'=id
     · subst hi'; exact absurd e (hsep i o hi h ho1)
     · obtain⟨g1,g2,_⟩:=hC i o hi h ho1
       obtain⟨g1',g2',_⟩:=hC i' o' hi' h' ho2
       exact hc.sep _ _ _ _ hne g1 g1' g2 g2' e
 · intro i i' f1 e es' n' el' c' f2 e' tp' es'' n'' el'' c'' hne h h' hl1 hl2
   by_cases hi:i=id
   · subst hi
     rw [hA] at h
     cases h
     obtain⟨_,_,g3⟩:=hC i' _ (fun x=>hne x.symm) h' hl2
     exact⟨fun e=>absurd (congrArg some e.symm) g3,fun e=>absurd e.symm (hsep i' _ (fun x=>hne x.symm) h' hl2)⟩
   · by_cases hi':i'=id
     · subst hi'
       rw [hA] at h'
       cases h'
       obtain⟨_,_,g3⟩:=hC i _ hi h hl1
       exact⟨fun e=>absurd (congrArg some e) g3,fun e=>absurd e (hsep i _ hi h hl1)⟩
     · obtain⟨g1,g2,_⟩:=hC i _ hi h hl1
       obtain⟨g1',g2',_⟩:=hC i' _ hi' h' hl2
       exact hc.ec _ _ _ _ _ _ _ _ _ _ _ _ _ _ _ hne g1 g1' g2 g2'
theorem vR {hp:Tr AO} {id f:Pz} {ep off es n:Nat} {ec:Bool} {el:TypeId} {c:Tr (List AV)} {l vs:List AV} (ho:hp.get id=some (.ca f ep ec es n el c)) (hf:hp.get f=some (.cU ep true))
  (hq:off/es<n) (hl:c.get (aX (off/es))=some l) (hr:off%es+vs.length<=l.length):lj hp (hp.set id (.ca f ep ec es n el (c.set (aX (off/es)) (ef (off%es) vs l)))) id off vs:=by
 have hne:f≠id:=fun e=>by rw [e,ho] at hf; cases hf
 generalize hx:(AO.ca f ep ec es n el (c.set (aX (off/es)) (ef (off%es) vs l)))=x
 have hfam:∀g e s,(hp.set id x).get g=some (.cU e s)->hp.get g=some (.cU e s):=by
  intro g e s h
  rcases af h with ⟨_,h⟩ | ⟨_,h⟩
  · rw [<-hx] at h; cases h
  · exact h
 have hseg:∀i g e tp es' n' el' c',(hp.set id x).get i=some (.ca g e tp es' n' el' c')->∃tp es' n' el' c',hp.get i=some (.ca g e tp es' n' el' c'):=by
  intro i g e tp es' n' el' c' h
  rcases af h with ⟨hi,h⟩ | ⟨_,h⟩
  · rw [<-hx] at h; cases h; exact⟨_,_,_,_,_,hi▸ho⟩
  · exact⟨_,_,_,_,_,h⟩
 refine⟨fun nx hw=>⟨?_,?_,?_,?_⟩,fun B w0 ι w nx hw hc=>?_⟩
 · intro i o h
   rcases af h with ⟨hi,_⟩ | ⟨_,h⟩
   · exact hi▸hw.lt _ _ ho
   · exact hw.lt _ _ h
 · intro i g e tp es' n' el' c' h; obtain⟨_,_,_,_,_,h⟩:=hseg _ _ _ _ _ _ _ _ h; exact hw.cU _ _ _ _ _ _ _ _ h
 · intro i g e tp es' n' el' c' e' s h h'; obtain⟨_,_,_,_,_,h⟩:=hseg _ _ _ _ _ _ _ _ h; exact hw.ep _ _ _ _ _ _ _ _ _ _ h (hfam _ _ _ h')
 · intro g e i i' tp es' n' el' c' tp' es'' n'' el'' c'' h h1 h2
   obtain⟨_,_,_,_,_,h1⟩:=hseg _ _ _ _ _ _ _ _ h1
   obtain⟨_,_,_,_,_,h2⟩:=hseg _ _ _ _ _ _ _ _ h2
   exact hw.gR _ _ _ _ _ _ _ _ _ _ _ _ _ _ (hfam _ _ _ h) h1 h2
 · refine oK (ep':=ep) ho ⟨_,hf⟩ hq hl hr (by rw [Tr.bm,hx]) (fun i o hi h=>.inl (by rwa [Tr.cN hi] at h)) (fun i o hi h ho'=>?_) hc
   rw [Tr.cN hi] at h
   cases o with
   | arr=>exact⟨h,trivial,fun e=>by cases e⟩
   | map=>exact⟨h,trivial,fun e=>by cases e⟩
   | iter=>exact⟨h,trivial,fun e=>by cases e⟩
   | loop=>exact⟨h,trivial,fun e=>by cases e⟩
   | fi=>exact⟨h,trivial,fun e=>by cases e⟩
   | gone=>exact⟨h,trivial,fun e=>by cases e⟩
   | cU=>exact ho'.elim
   | ca g e tp es' n' el' c' =>
     obtain⟨s,hs⟩:=ho'
     have hs:=hfam _ _ _ hs
     refine⟨h,⟨s,hs⟩,fun e'=>hi ?_⟩
     cases e'
     rw [hf] at hs
     cases hs
     exact hw.gR _ _ _ _ _ _ _ _ _ _ _ _ _ _ hf h ho
theorem vS {hp:Tr AO} {id f:Pz} {ep off es n:Nat} {ec s0:Bool} {el:TypeId} {c:Tr (List AV)} {l vs:List AV} (ho:hp.get id=some (.ca f ep ec es n el c)) (hf:hp.get f=some (.cU ep s0))
  (hq:off/es<n) (hl:c.get (aX (off/es))=some l) (hr:off%es+vs.length<=l.length) :
  lj hp ((hp.set f (.cU (ep+1) true)).set id (.ca f (ep+1) ec es n el (c.set (aX (off/es)) (ef (off%es) vs l)))) id off vs:=by
 have hne:f≠id:=fun e=>by rw [e,ho] at hf; cases hf
 generalize hx:(AO.ca f (ep+1) ec es n el (c.set (aX (off/es)) (ef (off%es) vs l)))=x
 have hget:∀i o,((hp.set f (.cU (ep+1) true)).set id x).get i=some o->(i=id/\x=o)∨(i≠id/\i=f/\o=.cU (ep+1) true)∨(i≠id/\i≠f/\hp.get i=some o):=by
  intro i o h
  rcases af h with ⟨hi,h⟩ | ⟨hi,h⟩
  · exact .inl ⟨hi,h⟩
  · rcases af h with ⟨hi',h⟩ | ⟨hi',h⟩
    · exact .inr (.inl ⟨hi,hi',h.symm⟩)
    · exact .inr (.inr ⟨hi,hi',h⟩)
 refine⟨fun nx hw=>⟨?_,?_,?_,?_⟩,fun B w0 ι w nx hw hc=>?_⟩
 · intro i o h
   rcases hget i o h with ⟨hi,_⟩ | ⟨_,hi,_⟩ | ⟨_,_,h⟩
   · exact hi▸hw.lt _ _ ho
   · exact hi▸hw.lt _ _ hf
   · exact hw.lt _ _ h
 · intro i g e tp es' n' el' c' h
   rcases hget i _ h with ⟨hi,h⟩ | ⟨_,hi,h⟩ | ⟨_,_,h⟩
   · rw [<-hx] at h; cases h; exact hw.cU _ _ _ _ _ _ _ _ ho
   · cases h
   · exact hw.cU _ _ _ _ _ _ _ _ h
 · intro i g e tp es' n' el' c' e' s h h'
   rcases hget g _ h' with ⟨_,h'⟩ | ⟨_,hg,h'⟩ | ⟨_,hg,h'⟩
   · rw [<-hx] at h'; cases h'
   · cases h'
     rcases hget i _ h with ⟨hi,h⟩ | ⟨_,hi,h⟩ | ⟨_,_,h⟩
     · rw [<-hx] at h; cases h; exact Nat.le_refl _
     · cases h
     · exact Nat.le_succ_of_le (hw.ep _ _ _ _ _ _ _ _ _ _ h (hg▸hf))
   · rcases hget i _ h with ⟨hi,h⟩ | ⟨_,hi,h⟩ | ⟨_,_,h⟩
     · rw [<-hx] at h; cases h; exact absurd rfl hg
     · cases h
     · exact hw.ep _ _ _ _ _ _ _ _ _ _ h h'
 · intro g e i i' tp es' n' el' c' tp' es'' n'' el'' c'' h h1 h2
   rcases hget g _ h with ⟨_,h⟩ | ⟨_,hg,h⟩ | ⟨_,hg,h⟩
   · rw [<-hx] at h; cases h
   · cases h
     have key:∀j tp es' n' el' c',((hp.set f (.cU (ep+1) true)).set id x).get j=some (.ca g (ep+1) tp es' n' el' c')->j=id:=by
      intro j tp es' n' el' c' h
      rcases hget j _ h with ⟨hi,h⟩ | ⟨_,hi,h⟩ | ⟨_,_,h⟩
      · exact hi
      · cases h
      · have:=hw.ep _ _ _ _ _ _ _ _ _ _ h (hg▸hf); omega
     rw [key _ _ _ _ _ _ h1,key _ _ _ _ _ _ h2]
   · rcases hget i _ h1 with ⟨_,h1⟩ | ⟨_,_,h1⟩ | ⟨_,_,h1⟩
     · rw [<-hx] at h1; cases h1; exact absurd rfl hg
     · cases h1
     · rcases hget i' _ h2 with ⟨_,h2⟩ | ⟨_,_,h2⟩ | ⟨_,_,h2⟩
       · rw [<-hx] at h2; cases h2; exact absurd rfl hg
       · cases h2
       · exact hw.gR _ _ _ _ _ _ _ _ _ _ _ _ _ _ h h1 h2
 · have hff:((hp.set f (.cU (ep+1) true)).set id x).get f=some (.cU (ep+1) true):=by rw [Tr.cN hne,Tr.bm]
   refine oK (ep':=ep+1) ho ⟨_,hf⟩ hq hl hr (by rw [Tr.bm,hx]) (fun i o hi h=>?_) (fun i o hi h ho'=>?_) hc
   · rcases hget i o h with ⟨h1,_⟩ | ⟨_,_,h1⟩ | ⟨_,_,h1⟩
     · exact absurd h1 hi
     · exact .inr ⟨_,_,h1⟩
     · exact .inl h1
   · rcases hget i o h with ⟨h1,_⟩ | ⟨_,_,h1⟩ | ⟨_,hif,h1⟩
     · exact absurd h1 hi
     · rw [h1] at ho'; exact ho'.elim
     · cases o with
       | arr=>exact⟨h1,trivial,fun e=>by cases e⟩
       | map=>exact⟨h1,trivial,fun e=>by cases e⟩
       | iter=>exact⟨h1,trivial,fun e=>by cases e⟩
       | loop=>exact⟨h1,trivial,fun e=>by cases e⟩
       | fi=>exact⟨h1,trivial,fun e=>by cases e⟩
       | gone=>exact⟨h1,trivial,fun e=>by cases e⟩
       | cU=>exact ho'.elim
       | ca g e tp es' n' el' c' =>
         obtain⟨s,hs⟩:=ho'
         by_cases hg:g=f
         · subst hg
           rw [hff] at hs
           cases hs
           have:=hw.ep _ _ _ _ _ _ _ _ _ _ h1 hf
           omega
         · refine⟨h1,⟨s,?_⟩,fun e'=>hg (Option.some.inj e')⟩
           rcases hget g _ hs with ⟨_,h3⟩ | ⟨_,h3,_⟩ | ⟨_,_,h3⟩
           · rw [<-hx] at h3; cases h3
           · exact absurd h3 hg
           · exact h3
theorem jG {hp:Tr AO} {id:Pz} {off:Nat} {vs:List AV} {k:Tr AO->Rs} (h:iV hp id off vs k=.ok):∃hp',k hp'=.ok/\flat vs=true/\lj hp hp' id off vs:=by
 obtain⟨hfl,h⟩:=aK h
 obtain⟨o,ho,h⟩:=cJ h
 cases o with
 | arr es n el c =>
   obtain⟨l,hq,hl,h⟩:=oI h
   obtain⟨hr,h⟩:=nM _ h
   rw [Tr.cj,Tr.cj] at h
   exact⟨_,h,hfl,JP ho hq hl hr⟩
 | ca f ep ec es n el c =>
   obtain⟨gR,hf,h⟩:=oH h
   obtain⟨l,hq,hl,h⟩:=oI h
   obtain⟨hr,h⟩:=nM _ h
   simp only [Tr.cj,aI] at h
   rcases bE h with ⟨rfl,h⟩ | ⟨rfl,h⟩
   · exact⟨_,h,hfl,vR ho hf hq hl hr⟩
   · exact⟨_,h,hfl,vS ho hf hq hl hr⟩
 | cU=>cases h
 | map=>cases h
 | iter=>cases h
 | loop=>cases h
 | fi=>cases h
 | gone=>cases h
end Go.aQ
namespace Go.aQ
open Go.RowKit
theorem bX {hp:Tr AO} {nx:Pz} {x o:AO} (hw:Wf hp nx) (hx:∀e s,x≠.cU e s) (h:own (hp.set nx x) o):own hp o:=by
 cases o with
 | ca f e tp es n el c =>
   obtain⟨s,hs⟩:=h
   rcases af hs with ⟨_,h'⟩ | ⟨_,h'⟩
   · exact absurd h' (hx e s)
   · exact⟨s,h'⟩
 | _=>exact h
theorem rM {B:Nat->Prop} {w0 w:World} {ι:En} {hp:Tr AO} {nx:Pz} {o:AO} {x:Obj} (hw:Wf hp nx) (hc:Core B w0 ι hp w) (hb:ι.aR nx=w.heap.size) (ho:gO o=none) (hx:∀e s,o≠.cU e s)
  (hob:iC ι (hp.set nx o) (w.alloc x) nx o):Core B w0 ι (hp.set nx o) (w.alloc x):=by
 have hlt:∀i p,hp.get i=some p->own hp p->ι.aR i<w.heap.size:=by
  intro i p hi hp'
  have:=hc.obj _ _ hi
  cases p with
  | arr es n el c=>obtain⟨C,fz,h1,_⟩:=this; exact (Array.getElem?_eq_some_iff.1 h1).1
  | ca f e tp es n el c=>obtain⟨C,fz,h1,_⟩:=this hp'; exact (Array.getElem?_eq_some_iff.1 h1).1
  | cU=>exact hp'.elim
  | map es c=>obtain⟨E,h1,_⟩:=this; exact (Array.getElem?_eq_some_iff.1 h1).1
  | iter=>exact (Array.getElem?_eq_some_iff.1 this.1).1
  | loop=>obtain⟨_,_,_,h1,_⟩:=this; exact (Array.getElem?_eq_some_iff.1 h1).1
  | fi=>exact (Array.getElem?_eq_some_iff.1 this).1
  | gone=>exact BA this
 have hne:∀i p,hp.get i=some p->i≠nx:=fun i p hi e=>by have:=hw.lt _ _ hi; rw [e] at this; omega
 refine⟨hc.below.alloc hc.room x,fun k hk=>by have:=hc.room k hk; simp; omega,?_,?_,?_,?_⟩
 · intro i p hi
   rcases af hi with ⟨rfl,rfl⟩ | ⟨hi',hi⟩
   · exact hob
   · exact (hc.obj _ _ hi).br (bX hw hx) fun ho'=>Below.heap_alloc _ _ _ (hlt _ _ hi (bX hw hx ho'))
 · intro i p hi ho'
   rcases af hi with ⟨rfl,_⟩ | ⟨hi',hi⟩
   · rw [hb]; exact fun h=>by have:=hc.room _ h; omega
   · exact hc.base _ _ hi (bX hw hx ho')
 · intro i i' p p' hii hi hi' ho1 ho2 e
   rcases af hi with ⟨h1,h2⟩ | ⟨h1,g1⟩
   · rcases af hi' with ⟨h3,_⟩ | ⟨h3,g3⟩
     · exact absurd (h1.trans h3.symm) hii
     · have:=hlt _ _ g3 (bX hw hx ho2)
       rw [h1,hb] at e
       omega
   · rcases af hi' with ⟨h3,_⟩ | ⟨h3,g3⟩
     · have:=hlt _ _ g1 (bX hw hx ho1)
       rw [h3,hb] at e
       omega
     · exact hc.sep _ _ _ _ hii g1 g3 (bX hw hx ho1) (bX hw hx ho2) e
 · intro i i' f e es n el c f' e' tp' es' n' el' c' hii hi hi' hl hl'
   rcases af hi with ⟨_,h2⟩ | ⟨h1,g1⟩
   · rw [h2] at ho; cases ho
   · rcases af hi' with ⟨_,h4⟩ | ⟨h3,g3⟩
     · rw [h4] at ho; cases ho
     · have q1:own hp (.ca f e true es n el c):=bX hw hx hl
       have q2:own hp (.ca f' e' tp' es' n' el' c'):=bX hw hx hl'
       exact hc.ec _ _ _ _ _ _ _ _ _ _ _ _ _ _ _ hii g1 g3 q1 q2
theorem rN {hp:Tr AO} {nx:Pz} {o:AO} (hw:Wf hp nx) (ho:gO o=none) (hx:∀e s,o≠.cU e s):Wf (hp.set nx o) nx.succ:=by
 refine⟨?_,?_,?_,?_⟩
 · intro i p h
   rw [Pz.cb]
   rcases af h with ⟨rfl,_⟩ | ⟨_,h⟩
   · omega
   · have:=hw.lt _ _ h; omega
 · intro i f e tp es n el c h
   rw [Pz.cb]
   rcases af h with ⟨_,h⟩ | ⟨_,h⟩
   · rw [h] at ho; cases ho
   · have:=hw.cU _ _ _ _ _ _ _ _ h; omega
 · intro i f e tp es n el c e' s h h'
   rcases af h with ⟨_,h⟩ | ⟨_,h⟩
   · rw [h] at ho; cases ho
   · rcases af h' with ⟨_,h'⟩ | ⟨_,h'⟩
     · exact absurd h' (hx _ _)
     · exact hw.ep _ _ _ _ _ _ _ _ _ _ h h'
 · intro f e i i' tp es n el c tp' es' n' el' c' h h1 h2
   rcases af h with ⟨_,h⟩ | ⟨_,h⟩
   · exact absurd h (hx _ _)
   · rcases af h1 with ⟨_,h1⟩ | ⟨_,h1⟩
     · rw [h1] at ho; cases ho
     · rcases af h2 with ⟨_,h2⟩ | ⟨_,h2⟩
       · rw [h2] at ho; cases ho
       · exact hw.gR _ _ _ _ _ _ _ _ _ _ _ _ _ _ h h1 h2
theorem E8 {B:Nat->Prop} {w0 w:World} {ι:En} {hp:Tr AO} {nx:Pz} {ep:Nat} {s:Bool} (hw:Wf hp nx) (hc:Core B w0 ι hp w):Core B w0 ι (hp.set nx (.cU ep s)) w:=by
 have hown:∀i o,hp.get i=some o->own (hp.set nx (.cU ep s)) o->own hp o:=by
  intro i o hi h
  cases o with
  | ca f e tp es n el c =>
    obtain⟨s',hs⟩:=h
    rcases af hs with ⟨h1,_⟩ | ⟨_,h'⟩
    · have:=hw.cU _ _ _ _ _ _ _ _ hi; rw [h1] at this; omega
    · exact⟨s',h'⟩
  | _=>exact h
 refine⟨hc.below,hc.room,?_,?_,?_,?_⟩
 · intro i o h
   rcases af h with ⟨_,rfl⟩ | ⟨_,h⟩
   · trivial
   · exact (hc.obj _ _ h).br (hown _ _ h) fun _=>rfl
 · intro i o h ho
   rcases af h with ⟨_,rfl⟩ | ⟨_,h⟩
   · exact ho.elim
   · exact hc.base _ _ h (hown _ _ h ho)
 · intro i i' o o' hne h h' ho ho' e
   rcases af h with ⟨_,rfl⟩ | ⟨_,h⟩
   · exact ho.elim
   · rcases af h' with ⟨_,rfl⟩ | ⟨_,h'⟩
     · exact ho'.elim
     · exact hc.sep _ _ _ _ hne h h' (hown _ _ h ho) (hown _ _ h' ho') e
 · intro i i' f e es n el c f' e' tp' es' n' el' c' hne h h' hl hl'
   rcases af h with ⟨_,h⟩ | ⟨_,h⟩
   · cases h
   · rcases af h' with ⟨_,h'⟩ | ⟨_,h'⟩
     · cases h'
     · exact hc.ec _ _ _ _ _ _ _ _ _ _ _ _ _ _ _ hne h h' (hown _ _ h hl) (hown _ _ h' hl')
theorem E9 {hp:Tr AO} {nx:Pz} {ep:Nat} {s:Bool} (hw:Wf hp nx):Wf (hp.set nx (.cU ep s)) nx.succ:=by
 refine⟨?_,?_,?_,?_⟩
 · intro i p h
   rw [Pz.cb]
   rcases af h with ⟨rfl,_⟩ | ⟨_,h⟩
   · omega
   · have:=hw.lt _ _ h; omega
 · intro i f e tp es n el c h
   rw [Pz.cb]
   rcases af h with ⟨_,h⟩ | ⟨_,h⟩
   · cases h
   · have:=hw.cU _ _ _ _ _ _ _ _ h; omega
 · intro i f e tp es n el c e' s' h h'
   rcases af h with ⟨_,h⟩ | ⟨_,h⟩
   · cases h
   · rcases af h' with ⟨h1,_⟩ | ⟨_,h'⟩
     · have:=hw.cU _ _ _ _ _ _ _ _ h; rw [h1] at this; omega
     · exact hw.ep _ _ _ _ _ _ _ _ _ _ h h'
 · intro f e i i' tp es n el c tp' es' n' el' c' h h1 h2
   rcases af h1 with ⟨_,h1⟩ | ⟨_,h1⟩
   · cases h1
   · rcases af h2 with ⟨_,h2⟩ | ⟨_,h2⟩
     · cases h2
     · rcases af h with ⟨h3,_⟩ | ⟨_,h⟩
       · have:=hw.cU _ _ _ _ _ _ _ _ h1; rw [h3] at this; omega
       · exact hw.gR _ _ _ _ _ _ _ _ _ _ _ _ _ _ h h1 h2
theorem kJ {B:Nat->Prop} {w0 w w':World} {ι:En} {hp:Tr AO} {nx f:Pz} {ep es m:Nat} {tp:Bool} {el:TypeId} {c:Tr (List AV)} (hw:Wf hp nx) (hc:Core B w0 ι hp w)
  (hob:iC ι (hp.set nx (.ca f ep tp es m el c)) w' nx (.ca f ep tp es m el c)) (hkeep:∀i o,hp.get i=some o->own hp o->iC ι hp w' i o) (hbelow:Kept B w0 w') (hroom:∀k,B k->k<w'.heap.size) (hbase:¬B (ι.aR nx))
  (hblk:∀i o,hp.get i=some o->own hp o->ι.aR i=ι.aR nx->gO o=some f)
  (ht1:tp=true->∀i f' e' tp' es' n' el' c',hp.get i=some (.ca f' e' tp' es' n' el' c')->live hp f' e'->(f=f'->tp'=false)/\(ι.aR nx=ι.aR i->m<ι.jP nx->ι.sh i+n'*es'<=ι.sh nx+m*es))
  (ht2:∀i f' e' es' n' el' c',hp.get i=some (.ca f' e' true es' n' el' c')->live hp f' e'->(f'=f->tp=false)/\(ι.aR i=ι.aR nx->n'<ι.jP i->ι.sh nx+m*es<=ι.sh i+n'*es')) :
  Core B w0 ι (hp.set nx (.ca f ep tp es m el c)) w':=by
 have hx:∀e s,AO.ca f ep tp es m el c≠.cU e s:=fun e s h=>by cases h
 have hne:∀i p,hp.get i=some p->i≠nx:=fun i p hi e=>by have:=hw.lt _ _ hi; rw [e] at this; omega
 refine⟨hbelow,hroom,?_,?_,?_,?_⟩
 · intro i p hi
   rcases af hi with ⟨rfl,rfl⟩ | ⟨hi',hi⟩
   · exact hob
   · cases p with
     | cU=>trivial
     | arr=>exact (hkeep _ _ hi trivial).br (fun h=>h) (fun _=>rfl)
     | map=>exact (hkeep _ _ hi trivial).br (fun h=>h) (fun _=>rfl)
     | iter=>exact (hkeep _ _ hi trivial).br (fun h=>h) (fun _=>rfl)
     | loop=>exact (hkeep _ _ hi trivial).br (fun h=>h) (fun _=>rfl)
     | fi=>exact (hkeep _ _ hi trivial).br (fun h=>h) (fun _=>rfl)
     | gone=>exact (hkeep _ _ hi trivial).br (fun h=>h) (fun _=>rfl)
     | ca f' e' tp' es' n' el' c' =>
       intro hl
       have hl':live hp f' e':=bX (o:=.ca f' e' tp' es' n' el' c') hw hx hl
       exact hkeep _ _ hi hl' hl'
 · intro i p hi ho'
   rcases af hi with ⟨rfl,_⟩ | ⟨hi',hi⟩
   · exact hbase
   · exact hc.base _ _ hi (bX hw hx ho')
 · intro i i' p p' hii hi hi' ho1 ho2 e
   rcases af hi with ⟨h1,h2⟩ | ⟨h1,g1⟩
   · rcases af hi' with ⟨h3,_⟩ | ⟨h3,g3⟩
     · exact absurd (h1.trans h3.symm) hii
     · rw [h1] at e
       exact⟨f,by rw [<-h2]; rfl,hblk _ _ g3 (bX hw hx ho2) e.symm⟩
   · rcases af hi' with ⟨h3,h4⟩ | ⟨h3,g3⟩
     · rw [h3] at e
       exact⟨f,hblk _ _ g1 (bX hw hx ho1) e,by rw [<-h4]; rfl⟩
     · exact hc.sep _ _ _ _ hii g1 g3 (bX hw hx ho1) (bX hw hx ho2) e
 · intro i i' f1 e1 es1 n1 el1 c1 f2 e2 tp2 es2 n2 el2 c2 hii hi hi' hl hl'
   have q1:live hp f1 e1:=bX (o:=.ca f1 e1 true es1 n1 el1 c1) hw hx hl
   have q2:live hp f2 e2:=bX (o:=.ca f2 e2 tp2 es2 n2 el2 c2) hw hx hl'
   rcases af hi with ⟨h1,h2⟩ | ⟨h1,g1⟩
   · rcases af hi' with ⟨h3,_⟩ | ⟨h3,g3⟩
     · exact absurd (h1.trans h3.symm) hii
     · cases h2
       rw [h1]
       exact ht1 rfl _ _ _ _ _ _ _ _ g3 q2
   · rcases af hi' with ⟨h3,h4⟩ | ⟨h3,g3⟩
     · cases h4
       rw [h3]
       exact ht2 _ _ _ _ _ _ _ g1 q1
     · exact hc.ec _ _ _ _ _ _ _ _ _ _ _ _ _ _ _ hii g1 g3 q1 q2
theorem xJ {hp:Tr AO} {nx f:Pz} {ep es m:Nat} {tp s:Bool} {el:TypeId} {c:Tr (List AV)} (hw:Wf hp nx) (hf:hp.get f=some (.cU ep s)) (hs:s=true->∀i e tp es n el c,hp.get i≠some (.ca f e tp es n el c)) :
  Wf (hp.set nx (.ca f ep tp es m el c)) nx.succ:=by
 have hflt:=hw.lt _ _ hf
 have hfam:∀g e s',(hp.set nx (.ca f ep tp es m el c)).get g=some (.cU e s')->hp.get g=some (.cU e s'):=by
  intro g e s' h
  rcases af h with ⟨_,h⟩ | ⟨_,h⟩
  · cases h
  · exact h
 refine⟨?_,?_,?_,?_⟩
 · intro i p h
   rw [Pz.cb]
   rcases af h with ⟨rfl,_⟩ | ⟨_,h⟩
   · omega
   · have:=hw.lt _ _ h; omega
 · intro i g e tp es n el c h
   rw [Pz.cb]
   rcases af h with ⟨_,h⟩ | ⟨_,h⟩
   · cases h; omega
   · have:=hw.cU _ _ _ _ _ _ _ _ h; omega
 · intro i g e tp es n el c e' s' h h'
   have h':=hfam _ _ _ h'
   rcases af h with ⟨_,h⟩ | ⟨_,h⟩
   · cases h; rw [hf] at h'; cases h'; exact Nat.le_refl _
   · exact hw.ep _ _ _ _ _ _ _ _ _ _ h h'
 · intro g e i i' tp' es' n' el' c' tp'' es'' n'' el'' c'' h h1 h2
   have h:=hfam _ _ _ h
   rcases af h1 with ⟨a1,h1⟩ | ⟨a1,h1⟩
   · cases h1
     rw [hf] at h
     cases h
     rcases af h2 with ⟨a2,_⟩ | ⟨_,h2⟩
     · exact a1.trans a2.symm
     · exact absurd h2 (hs rfl _ _ _ _ _ _ _)
   · rcases af h2 with ⟨a2,h2⟩ | ⟨a2,h2⟩
     · cases h2
       rw [hf] at h
       cases h
       exact absurd h1 (hs rfl _ _ _ _ _ _ _)
     · exact hw.gR _ _ _ _ _ _ _ _ _ _ _ _ _ _ h h1 h2
end Go.aQ
namespace Go.aQ
open Go.RowKit
def dI (hp:Tr AO) (id f:Pz) (ep es n:Nat) (el:TypeId) (c:Tr (List AV)):Tr AO:=(hp.set f (.cU ep false)).set id (.ca f ep false es n el c)
theorem bO {hp:Tr AO} {id f:Pz} {ep es n:Nat} {el:TypeId} {c:Tr (List AV)} {i:Pz} {o:AO} (h:(dI hp id f ep es n el c).get i=some o) :
  (i=id/\o=.ca f ep false es n el c)∨(i≠id/\i=f/\o=.cU ep false)∨(i≠id/\i≠f/\hp.get i=some o):=by
 rcases af h with ⟨hi,h⟩ | ⟨hi,h⟩
 · exact .inl ⟨hi,h.symm⟩
 · rcases af h with ⟨hi',h⟩ | ⟨hi',h⟩
   · exact .inr (.inl ⟨hi,hi',h.symm⟩)
   · exact .inr (.inr ⟨hi,hi',h⟩)
section
variable {hp:Tr AO} {nx id f:Pz} {ep ep' es n n0:Nat} {ec s0:Bool} {el:TypeId} {c:Tr (List AV)}
theorem g9 (hw:Wf hp nx) (ho:hp.get id=some (.ca f ep ec es n el c)) (hf:hp.get f=some (.cU ep s0)) (hep:ep'=ep∨ep'=ep+1) {i:Pz} {o:AO} (hi:i≠id) (hg:hp.get i=some o)
  (h:own (dI hp id f ep' es n0 el c) o):own hp o/\(gO o=some f->ep'=ep):=by
 cases o with
 | arr=>exact⟨trivial,fun e=>by cases e⟩
 | map=>exact⟨trivial,fun e=>by cases e⟩
 | iter=>exact⟨trivial,fun e=>by cases e⟩
 | loop=>exact⟨trivial,fun e=>by cases e⟩
 | fi=>exact⟨trivial,fun e=>by cases e⟩
 | gone=>exact⟨trivial,fun e=>by cases e⟩
 | cU=>exact h.elim
 | ca g e tp es' n' el' c' =>
   obtain⟨s,hs⟩:=h
   rcases bO hs with ⟨_,h1⟩ | ⟨_,h1,h2⟩ | ⟨_,h1,h2⟩
   · cases h1
   · cases h2
     have h3:=hw.ep _ _ _ _ _ _ _ _ _ _ hg (h1▸hf)
     have h4:ep'=ep:=by omega
     subst h4
     exact⟨⟨s0,h1▸hf⟩,fun _=>rfl⟩
   · exact⟨⟨s,h2⟩,fun e=>absurd (Option.some.inj e) h1⟩
theorem vT (hw:Wf hp nx) (ho:hp.get id=some (.ca f ep ec es n el c)) (hf:hp.get f=some (.cU ep s0)) (hep:ep'=ep∨ep'=ep+1):Wf (dI hp id f ep' es n0 el c) nx:=by
 refine⟨?_,?_,?_,?_⟩
 · intro i o h
   rcases bO h with ⟨hi,_⟩ | ⟨_,hi,_⟩ | ⟨_,_,h⟩
   · exact hi▸hw.lt _ _ ho
   · exact hi▸hw.lt _ _ hf
   · exact hw.lt _ _ h
 · intro i g e tp es' n' el' c' h
   rcases bO h with ⟨_,h⟩ | ⟨_,_,h⟩ | ⟨_,_,h⟩
   · cases h; exact hw.cU _ _ _ _ _ _ _ _ ho
   · cases h
   · exact hw.cU _ _ _ _ _ _ _ _ h
 · intro i g e tp es' n' el' c' e' s h h'
   rcases bO h' with ⟨_,h'⟩ | ⟨_,hg,h'⟩ | ⟨_,hg,h'⟩
   · cases h'
   · cases h'
     rcases bO h with ⟨_,h⟩ | ⟨_,_,h⟩ | ⟨_,_,h⟩
     · cases h; exact Nat.le_refl _
     · cases h
     · have:=hw.ep _ _ _ _ _ _ _ _ _ _ h (hg▸hf); omega
   · rcases bO h with ⟨_,h⟩ | ⟨_,_,h⟩ | ⟨_,_,h⟩
     · cases h; exact absurd rfl hg
     · cases h
     · exact hw.ep _ _ _ _ _ _ _ _ _ _ h h'
 · intro g e i i' tp es' n' el' c' tp' es'' n'' el'' c'' h h1 h2
   rcases bO h with ⟨_,h⟩ | ⟨_,_,h⟩ | ⟨_,hg,h⟩
   · cases h
   · cases h
   · rcases bO h1 with ⟨_,h1⟩ | ⟨_,_,h1⟩ | ⟨_,_,h1⟩
     · cases h1; exact absurd rfl hg
     · cases h1
     · rcases bO h2 with ⟨_,h2⟩ | ⟨_,_,h2⟩ | ⟨_,_,h2⟩
       · cases h2; exact absurd rfl hg
       · cases h2
       · exact hw.gR _ _ _ _ _ _ _ _ _ _ _ _ _ _ h h1 h2
theorem xK {ι:En} {C:Array Value} {base:Nat} (h:dM ι C base es n c) (hn:n0<=n):dM ι C base es n0 c:=fun q hq=>h q (by omega)
theorem rO (hw:Wf hp nx) (ho:hp.get id=some (.ca f ep ec es n el c)) (hf:hp.get f=some (.cU ep s0)) (hep:ep'=ep∨ep'=ep+1) (hn0:n0<=n) {B:Nat->Prop} {w0 w:World} {ι:En} (hc:Core B w0 ι hp w) :
  Core B w0 ι (dI hp id f ep' es n0 el c) w:=by
 have hlv:live hp f ep:=⟨_,hf⟩
 refine⟨hc.below,hc.room,?_,?_,?_,?_⟩
 · intro i o h
   rcases bO h with ⟨hi,h1⟩ | ⟨_,_,h1⟩ | ⟨hi,_,h1⟩
   · rw [hi,h1]
     intro _
     obtain⟨C,fz,g1,g2,g3,g4,g5⟩:=hc.obj _ _ ho hlv
     exact⟨C,fz,g1,g2,by omega,xK g4 hn0,g5⟩
   · rw [h1]; trivial
   · exact (hc.obj _ _ h1).br (fun h2=>(g9 hw ho hf hep hi h1 h2).1) fun _=>rfl
 · intro i o h h2
   rcases bO h with ⟨hi,_⟩ | ⟨_,_,h1⟩ | ⟨hi,_,h1⟩
   · rw [hi]; exact hc.base _ _ ho hlv
   · rw [h1] at h2; exact h2.elim
   · exact hc.base _ _ h1 (g9 hw ho hf hep hi h1 h2).1
 · intro i i' o o' hne h h' k k' e
   rcases bO h with ⟨hi,h1⟩ | ⟨_,_,h1⟩ | ⟨hi,_,h1⟩
   · rcases bO h' with ⟨hi',_⟩ | ⟨_,_,h1'⟩ | ⟨hi',_,h1'⟩
     · exact absurd (hi.trans hi'.symm) hne
     · rw [h1'] at k'; exact k'.elim
     · obtain⟨g,g1,g2⟩:=hc.sep id i' (.ca f ep ec es n el c) _ (fun x=>hi' x.symm) ho h1' hlv (g9 hw ho hf hep hi' h1' k').1 (hi▸e)
       cases g1
       exact⟨f,by rw [h1]; rfl,g2⟩
   · rw [h1] at k; exact k.elim
   · rcases bO h' with ⟨hi',h1'⟩ | ⟨_,_,h1'⟩ | ⟨hi',_,h1'⟩
     · obtain⟨g,g1,g2⟩:=hc.sep i id _ (.ca f ep ec es n el c) hi h1 ho (g9 hw ho hf hep hi h1 k).1 hlv (hi'▸e)
       cases g2
       exact⟨f,g1,by rw [h1']; rfl⟩
     · rw [h1'] at k'; exact k'.elim
     · exact hc.sep _ _ _ _ hne h1 h1' (g9 hw ho hf hep hi h1 k).1 (g9 hw ho hf hep hi' h1' k').1 e
 · intro i i' f1 e1 es1 n1 el1 c1 f2 e2 tp2 es2 n2 el2 c2 hne h h' k k'
   rcases bO h with ⟨_,h1⟩ | ⟨_,_,h1⟩ | ⟨hi,_,h1⟩
   · cases h1
   · cases h1
   · have q1:=(g9 hw ho hf hep hi h1 k).1
     rcases bO h' with ⟨hi',h1'⟩ | ⟨_,_,h1'⟩ | ⟨hi',_,h1'⟩
     · cases h1'
       obtain⟨t1,t2⟩:=hc.ec i id _ _ _ _ _ _ _ _ _ _ _ _ _ hi h1 ho q1 hlv
       refine⟨fun _=>rfl,fun e hlt=>?_⟩
       have:=t2 (hi'▸e) hlt
       have:=Nat.mul_le_mul_right es hn0
       rw [hi']
       omega
     · cases h1'
     · exact hc.ec _ _ _ _ _ _ _ _ _ _ _ _ _ _ _ hne h1 h1' q1 (g9 hw ho hf hep hi' h1' k').1
theorem jR (hw:Wf hp nx) (ho:hp.get id=some (.ca f ep ec es n el c)) (hf:hp.get f=some (.cU ep s0)) (hep:(ep'=ep/\ec=true/\n0=n)∨ep'=ep+1) {B:Nat->Prop} {w0 w:World} {ι:En} (hc:Core B w0 ι hp w)
  {i f':Pz} {e' es' n':Nat} {tp':Bool} {el':TypeId} {c':Tr (List AV)} (hi:i≠id) (h:(dI hp id f ep' es n0 el c).get i=some (.ca f' e' tp' es' n' el' c')) (hl:live (dI hp id f ep' es n0 el c) f' e') (hff:f'=f) :
  tp'=false/\(ι.aR i=ι.aR id->n0<ι.jP id->ι.sh i+n'*es'<=ι.sh id+n0*es):=by
 rcases bO h with ⟨h1,_⟩ | ⟨_,_,h1⟩ | ⟨_,_,h1⟩
 · exact absurd h1 hi
 · cases h1
 · have hh:=g9 (o:=.ca f' e' tp' es' n' el' c') hw ho hf (hep.imp (·.1) (fun x=>x)) hi h1 hl
   have he:=hh.2 (congrArg some hff)
   rcases hep with ⟨_,ht,hn⟩ | h2
   · subst ht
     subst hn
     obtain⟨t1,t2⟩:=hc.ec id i _ _ _ _ _ _ _ _ _ _ _ _ _ (fun x=>hi x.symm) ho h1 ⟨_,hf⟩ hh.1
     exact⟨t1 hff.symm,fun e hlt=>t2 e.symm hlt⟩
   · omega
end
end Go.aQ
namespace Go.aQ
open Go.RowKit
noncomputable def lay:List (List AV)->Nat->Tr (List AV)->Tr (List AV)
 | [],_,c=>c
 | l::ls,q,c=>lay ls (q+1) (c.set (aX q) l)
theorem kK:∀(ls:List (List AV)) (q:Nat) (c:Tr (List AV)) (k:Tr (List AV)->Rs),Dq ls q c k=k (lay ls q c)
 | [],_,_,_=>rfl
 | l::ls,q,c,k=>by
   show (c.cH (aX q) l fun c=>bd (q+1) fun q=>Dq ls q c k)=_
   rw [Tr.cj,aI,kK ls]; rfl
theorem vU:∀(ls:List (List AV)) (q:Nat) (c:Tr (List AV)) (i:Nat),(lay ls q c).get (aX i)=if q<=i/\i<q+ls.length then ls[i-q]? else c.get (aX i)
 | [],q,c,i=>by simp only [lay,List.length_nil]; rw [if_neg (by omega)]
 | l::ls,q,c,i=>by
   simp only [lay,List.length_cons]
   rw [vU ls]
   by_cases h:q+1<=i/\i<q+1+ls.length
   · rw [if_pos h,if_pos (by omega),show i-q=(i-(q+1))+1 by omega,List.getElem?_cons_succ]
   · rw [if_neg h]
     by_cases h2:i=q
     · subst h2
       rw [Tr.bm,if_pos (by omega),Nat.sub_self]; rfl
     · rw [Tr.cN (lL h2),if_neg (by omega)]
def even (es:Nat) (ls:List (List AV)):Prop:=∀l∈ls,l.length=es
theorem cC {es:Nat}:∀{ls:List (List AV)},even es ls->ls.flatten.length=ls.length*es
 | [],_=>by simp
 | l::ls,h=>by
   have h1:=h l (List.mem_cons_self ..)
   have h2:=cC (es:=es) (ls:=ls) fun x hx=>h x (List.mem_cons_of_mem _ hx)
   simp only [List.flatten_cons,List.length_append,List.length_cons,h1,h2,Nat.succ_mul]
   omega
theorem xL {es:Nat}:∀{ls:List (List AV)},even es ls->∀(j r:Nat) (l:List AV),ls[j]?=some l->r<es->ls.flatten[j*es+r]?=l[r]?
 | [],_,j,r,l,h,_=>by simp at h
 | x::ls,h,0,r,l,hl,hr=>by
   have h1:=h x (List.mem_cons_self ..)
   simp only [List.getElem?_cons_zero,Option.some.injEq] at hl
   subst hl
   rw [List.flatten_cons,Nat.zero_mul,Nat.zero_add,List.getElem?_append_left (by omega)]
 | x::ls,h,j+1,r,l,hl,hr=>by
   have h1:=h x (List.mem_cons_self ..)
   rw [List.getElem?_cons_succ] at hl
   have:=xL (es:=es) (ls:=ls) (fun y hy=>h y (List.mem_cons_of_mem _ hy)) j r l hl hr
   rw [List.flatten_cons,List.getElem?_append_right (by rw [h1,Nat.succ_mul]; omega),h1,<-this]
   congr 1
   rw [Nat.succ_mul]
   omega
theorem qE {es:Nat} {a b:List (List AV)} (ha:even es a) (hb:even es b):even es (a++b):=fun l hl=>by
 rcases List.mem_append.1 hl with h | h
 · exact ha l h
 · exact hb l h
theorem gl {ι:En} {C C':Array Value} {base es n:Nat} {c:Tr (List AV)} {ls:List (List AV)} (h:dM ι C base es n c) (he:even es ls)
  (hold:∀i,i<n*es->C'[base+i]?=C[base+i]?) (hnew:∀i,i<ls.length*es->C'[base+(n*es+i)]?=((ls.flatten)[i]?).map (aj ι)):dM ι C' base es (n+ls.length) (lay ls n c):=by
 intro q hq
 by_cases hqn:q<n
 · obtain⟨l,h1,h2,h3⟩:=h q hqn
   refine⟨l,by rw [vU,if_neg (by omega)]; exact h1,h2,fun r hr=>?_⟩
   have:=Nat.mul_le_mul_right es (Nat.succ_le_of_lt hqn)
   rw [Nat.succ_mul] at this
   rw [hold _ (by omega),h3 r hr]
 · have hlt:q-n<ls.length:=by omega
   have hl:ls[q-n]?=some (ls[q-n]'hlt):=List.getElem?_eq_getElem hlt
   have hlen:(ls[q-n]'hlt).length=es:=he _ (List.getElem_mem hlt)
   refine⟨_,by rw [vU,if_pos (by omega)]; exact hl,hlen,fun r hr=>?_⟩
   have hm:=Nat.mul_le_mul_right es (Nat.succ_le_of_lt hlt)
   rw [Nat.succ_mul] at hm
   have e:q*es+r=n*es+((q-n)*es+r):=by
    have:q=n+(q-n):=by omega
    rw [this,Nat.add_mul]
    simp only [Nat.add_sub_cancel_left]
    omega
   rw [e,hnew _ (by omega),xL he _ _ _ hl hr]
theorem ij (ι:En) (C:Array Value) (base es:Nat) (c:Tr (List AV)):dM ι C base es 0 c:=fun q hq=>by omega
theorem gA (sz:Nat) (id:Pz) (hp:Tr AO):∀(n off:Nat) (k:List (List AV)->Rs),iO hp id sz n off k=.ok ->
  ∃ls,k ls=.ok/\ls.length=n/\∀B w0 ι w,Core B w0 ι hp w->even sz ls/\oJ ι w id off ls.flatten
 | 0,off,k,h=>⟨[],h,rfl,fun B w0 ι w hc=>⟨fun l hl=>by simp at hl,fun i hi=>by simp at hi⟩⟩
 | n+1,off,k,h=>by
   obtain⟨l,h,hl⟩:=kH (k:=fun l=>bd (off+sz) fun off=>iO hp id sz n off fun r=>k (l::r)) h
   rw [aI] at h
   obtain⟨ls,h,hn,hls⟩:=gA sz id hp n _ _ h
   refine⟨l::ls,h,by simp [hn],fun B w0 ι w hc=>?_⟩
   obtain⟨h1,h2⟩:=hl B w0 ι w hc
   obtain⟨h3,h4⟩:=hls B w0 ι w hc
   refine⟨fun x hx=>?_,fun i hi=>?_⟩
   · rcases List.mem_cons.1 hx with rfl | hx
     · exact h1
     · exact h3 x hx
   · rw [List.flatten_cons]
     by_cases hlt:i<l.length
     · rw [List.getElem?_append_left hlt]; exact h2 i hlt
     · rw [List.flatten_cons,List.length_append] at hi
       have:=h4 (i-l.length) (by omega)
       rw [List.getElem?_append_right (by omega),<-this]
       congr 2
       omega
theorem ll:∀(a b:List Value) (w:World) (k o:Nat),bg w k o (a++b)=bg (bg w k o a) k (o+a.length) b
 | [],b,w,k,o=>by simp [bg]
 | v::a,b,w,k,o=>by
   simp only [List.cons_append,bg,List.length_cons]
   rw [ll a b,show o+1+a.length=o+(a.length+1) by omega]
theorem xM {w:World} {a p:Addr} {v u:Value} (h:(w.setCell a v).cell? p=some u):∃u',w.cell? p=some u':=by
 by_cases hb:p.block=a.block
 · unfold World.cell? at h ⊢
   rw [hb] at h ⊢
   simp only [World.setCell,Array.getElem?_modify] at h
   cases hg:w.heap[a.block]? with
   | none=>rw [hg] at h; simp at h
   | some o =>
     rw [hg] at h
     cases o with
     | cells c e fz =>
       simp only [if_true,Option.map_some] at h
       cases hs:p.spot.isSome with
       | true=>rw [hs] at h; simp at h
       | false =>
         rw [hs] at h
         simp only [Bool.false_eq_true,if_false] at h ⊢
         have hlt:p.off<c.size:=by
          have:=(Array.getElem?_eq_some_iff.1 h).1
          split at this
          · exact this
          · simpa using this
         exact⟨c[p.off],Array.getElem?_eq_getElem hlt⟩
     | _=>simp at h
 · have:(w.setCell a v).cell? p=w.cell? p:=World.cell?_of_block (Below.heap_setCell w a v _ hb)
   rw [this] at h
   exact⟨u,h⟩
theorem lT (w:World) (a p:Addr) (v:Value):(w.setCell a v).frozen? p=w.frozen? p:=by
 unfold World.frozen?
 simp only [World.setCell,Array.getElem?_modify]
 by_cases hb:a.block=p.block
 · rw [if_pos hb]
   cases w.heap[p.block]? with
   | none=>rfl
   | some o=>cases o<;>rfl
 · rw [if_neg hb]
theorem oL:∀(vs:List Value) (w:World) (b o:Nat) (p:Addr) (u:Value),(bg w b o vs).cell? p=some u->∃u',w.cell? p=some u'
 | [],w,b,o,p,u,h=>⟨u,h⟩
 | v::vs,w,b,o,p,u,h=>by
   obtain⟨u',h'⟩:=oL vs _ b (o+1) p u h
   exact xM h'
theorem lq:∀(vs:List Value) (w:World) (b o:Nat) (p:Addr),(bg w b o vs).frozen? p=w.frozen? p
 | [],w,b,o,p=>rfl
 | v::vs,w,b,o,p=>by simp only [bg]; rw [lq vs,lT]
theorem lj.append {hp hp1 hp2:Tr AO} {id:Pz} {off:Nat} {a b:List AV} (h:lj hp hp1 id off a) (h':lj hp1 hp2 id (off+a.length) b):lj hp hp2 id off (a++b):=by
 refine⟨fun nx hw=>h'.1 nx (h.1 nx hw),fun B w0 ι w nx hw hc=>?_⟩
 obtain⟨c1,p1⟩:=h.2 B w0 ι w nx hw hc
 obtain⟨c2,p2⟩:=h'.2 B w0 ι _ nx (h.1 nx hw) c1
 refine⟨by rw [gj,ll,aq,Nat.add_assoc]; exact c2,fun i hi=>?_⟩
 by_cases hlt:i<a.length
 · exact p1 i hlt
 · rw [List.length_append] at hi
   obtain⟨⟨u,hu⟩,hf⟩:=p2 (i-a.length) (by omega)
   rw [show ι.sh id+(off+a.length)+(i-a.length)=ι.sh id+off+i by omega] at hu hf
   exact⟨oL _ _ _ _ _ _ hu,by rw [lq] at hf; exact hf⟩
theorem lj.nil (hp:Tr AO) (id:Pz) (off:Nat):lj hp hp id off []:=⟨fun _ h=>h,fun _ _ _ _ _ _ hc=>⟨hc,fun i hi=>by simp at hi⟩⟩
theorem qF {a b:List AV} (ha:flat a=true) (hb:flat b=true):flat (a++b)=true:=by
 induction a with
 | nil=>exact hb
 | cons v a ih =>
   obtain⟨h1,h2⟩:=uF ha
   have:=ih h2
   show Bool.rec (motive:=fun _=>Bool) false (flat (a++b)) (qV v)=true
   rw [h1,this]
theorem jH (id:Pz) (sz:Nat):∀(ls:List (List AV)) (off:Nat) (hp:Tr AO) (k:Tr AO->Rs),kr id sz ls off hp k=.ok->∃hp',k hp'=.ok/\flat ls.flatten=true/\even sz ls/\lj hp hp' id off ls.flatten
 | [],off,hp,k,h=>⟨hp,h,rfl,fun l hl=>by simp at hl,lj.nil _ _ _⟩
 | l::ls,off,hp,k,h=>by
   obtain⟨h0,h⟩:=aK (b:=Nat.beq l.length sz) (x:=iV hp id off l fun hp=>bd (off+sz) fun off=>kr id sz ls off hp k) (n:=9) h
   have hl:=ai h0
   obtain⟨hp1,h,hf,hput⟩:=jG h
   rw [aI] at h
   obtain⟨hp2,h,hf2,he,hput2⟩:=jH id sz ls _ hp1 k h
   refine⟨hp2,h,by rw [List.flatten_cons]; exact qF hf hf2,fun x hx=>?_,?_⟩
   · rcases List.mem_cons.1 hx with rfl | hx
     · exact hl
     · exact he x hx
   · rw [List.flatten_cons]
     exact hput.append (by rw [hl]; exact hput2)
theorem iQ (ι:En):∀(vs:List AV),flat vs=true->∀v∈ao ι vs,tU v=true
 | [],_,v,hv=>by simp [ao] at hv
 | x::vs,h,v,hv=>by
   obtain⟨h1,h2⟩:=uF h
   simp only [ao,List.mem_cons] at hv
   rcases hv with rfl | hv
   · exact JO ι h1
   · exact iQ ι vs h2 v hv
end Go.aQ
namespace Go.aQ
open Go.RowKit
section
variable {P:Program} {w:World}
theorem mD {t:TypeId} {i:TypeInfo} (h:P.info? t=some i):(typeInfo t).run P w=.ok i w:=by
 simp [typeInfo,h]
theorem av {t:TypeId} {d:TypeDesc} (h:P.underlying t=some d):(underlying t).run P w=.ok d w:=by
 simp [underlying,h]
theorem xN {t:TypeId} {d:TypeDesc} (h:P.underlying t=some d):∃i,P.info? t=some i:=by
 unfold Program.underlying at h
 split at h
 · rename_i u i hi; exact⟨_,hi⟩
 · rename_i i hi; exact⟨_,hi⟩
 · cases h
theorem cO {t:TypeId} {i:TypeInfo} (h:P.info? t=some i):(sizeOf t).run P w=.ok (ae P t) w:=by
 simp [sizeOf,mD h,ae,h]
theorem gB {t:TypeId} {d:TypeDesc} (h:P.underlying t=some d):(sizeOf t).run P w=.ok (ae P t) w:=by
 obtain⟨i,hi⟩:=xN h
 exact cO hi
theorem hO {t:TypeId} {d:TypeDesc} (h:P.underlying t=some d):(isAgg t).run P w=.ok (dJ P t) w:=by
 unfold isAgg dJ
 simp [av h,h]
 cases d<;>simp
theorem oM {t:TypeId} (h:dJ P t=true):∃d,P.underlying t=some d:=by
 unfold dJ at h
 cases hu:P.underlying t with
 | none=>rw [hu] at h; cases h
 | some d=>exact⟨d,rfl⟩
theorem fF {a:Addr} {v:Value} (h:w.cell? a=some v):(load a).run P w=.ok v w:=by
 simp [h]
theorem run_loadCellsFrom (b o:Nat):∀(l:List Value) (i:Nat) (acc:Array Value),(∀j,j<l.length->w.cell? ⟨b,o+i+j,none⟩=l[j]?) ->
  (loadCellsFrom ⟨b,o,none⟩ i l.length acc).run P w=.ok (acc++l.toArray) w
 | [],i,acc,h=>by simp [loadCellsFrom]
 | v::l,i,acc,h=>by
   have h0:=h 0 (by simp)
   simp only [List.length_cons,loadCellsFrom]
   rw [fE,Sem.run_bind,fF (by simpa using h0),Result.andThen_ok,run_loadCellsFrom b o l (i+1) _ (fun j hj=>by
    have:=h (j+1) (by simp; omega)
    rw [List.getElem?_cons_succ] at this
    rw [<-this]
    congr 2
    omega)]
   congr 1
   rw [Array.push_eq_append,Array.append_assoc]
   congr 1
   simp
theorem run_loadCells {b o:Nat} {l:List Value} {n:Nat} (hn:n=l.length) (h:∀j,j<l.length->w.cell? ⟨b,o+j,none⟩=l[j]?):(loadCells ⟨b,o,none⟩ n).run P w=.ok l.toArray w:=by
 subst hn
 have:=run_loadCellsFrom (P:=P) b o l 0 #[] (fun j hj=>by simpa using h j hj)
 simpa [loadCells] using this
theorem N9 {v:Value} (h:tU v=true):v.oneCell'=true:=by cases v<;>first | rfl | cases h
theorem gC (b o:Nat):∀(l:List Value) (i:Nat) (w:World),(∀v∈l,tU v=true)->kI w b (o+i) l.length->(storeCells ⟨b,o,none⟩ l i).run P w=.ok () (bg w b (o+i) l)
 | [],i,w,_,_=>by simp [storeCells,bg]
 | v::l,i,w,hv,hc=>by
   obtain⟨⟨u,hu⟩,hf⟩:=hc 0 (by simp)
   rw [Nat.add_zero] at hu hf
   have h1:=N9 (hv v (List.mem_cons_self ..))
   simp only [storeCells,bg]
   rw [fE,Sem.run_bind,run_store P w _ v _ h1,hu]
   simp only [hf,Bool.false_eq_true,if_false,Result.andThen_ok]
   rw [gC b o l (i+1) _ (fun x hx=>hv x (List.mem_cons_of_mem _ hx)) (fun j hj=>?_)]
   · rw [Nat.add_assoc]
   · obtain⟨⟨u',hu'⟩,hf'⟩:=hc (j+1) (by simp; omega)
     rw [show o+i+(j+1)=o+(i+1)+j by omega] at hu' hf'
     refine⟨?_,by rw [lT]; exact hf'⟩
     have:=hu'
     by_cases hb:w.cell? ⟨b,o+(i+1)+j,none⟩=(w.setCell ⟨b,o+i,none⟩ v).cell? ⟨b,o+(i+1)+j,none⟩
     · exact⟨u',by rw [<-hb]; exact hu'⟩
     · exfalso
       apply hb
       unfold World.cell?
       simp only [World.setCell,Array.getElem?_modify,if_true]
       cases w.heap[b]? with
       | none=>rfl
       | some x =>
         cases x with
         | cells c e fz =>
           simp only [Option.map_some,Option.isSome_none,Bool.false_eq_true,if_false]
           rw [Array.getElem?_setIfInBounds_ne (by omega)]
         | _=>rfl
end
def Fa (D:Nat):Deferred:={ target:=.collected D,args:=#[] }
noncomputable def marks (ι:En) (l:List Pz):List Deferred:=l.map fun id=>Fa (ι.aR id)
structure bG (ι:En) (nt:Nat) (tm:Tm) (a:Act):Prop where
 size:a.tmps.size=nt
 defers:a.defers=marks ι tm.ml
 val:∀t,a.tmps.getD t undef=aj ι (tm.at t)
theorem xO {d:Nat} (ih:∀v a,ic d v=some a->∀ι,aj ι a=v) (ι:En):∀(l:List Value) (l':List AV),l.mapM (ic d)=some l'->ao ι l'=l
 | [],l',h=>by simp at h; subst h; rfl
 | v::l,l',h=>by
   rw [List.mapM_cons] at h
   cases ha:ic d v with
   | none=>rw [ha] at h; cases h
   | some a =>
     rw [ha] at h
     cases hl:l.mapM (ic d) with
     | none=>rw [hl] at h; cases h
     | some r =>
       rw [hl] at h
       cases h
       simp only [ao]
       rw [ih v a ha ι,xO ih ι l r hl]
theorem dQ:∀(d:Nat) (v:Value) (a:AV),ic d v=some a->∀ι,aj ι a=v
 | 0,v,a,h=>by cases h
 | d+1,v,a,h=>by
   intro ι
   have ih:=xO (d:=d) (fun v a h ι=>dQ d v a h ι) ι
   cases v with
   | bool b=>cases h; simp [aj]
   | int k n=>cases h; simp [aj]
   | float k n=>cases h; simp [aj]
   | complex k x y=>cases h
   | string s=>cases h; simp only [aj]; rw [lQ]
   | pointer p=>cases p with
     | none=>cases h; simp [aj]
     | some x=>cases h
   | slice p n m=>cases p with
     | some x=>simp [ic] at h
     | none=>cases n with
       | succ n=>simp [ic] at h
       | zero=>cases m with
         | succ m=>simp [ic] at h
         | zero=>cases h; simp [aj]
   | map r=>cases r with
     | none=>cases h; simp [aj]
     | some x=>cases h
   | chan r=>cases h
   | func fn first captured =>
     simp only [ic] at h
     cases hf:ES fn with
     | false=>rw [hf] at h; cases h
     | true =>
       cases hx:first.toList.mapM (ic d) with
       | none=>rw [hf,hx] at h; cases h
       | some x =>
         cases hy:captured.toList.mapM (ic d) with
         | none=>rw [hf,hx,hy] at h; cases h
         | some y =>
           rw [hf,hx,hy] at h
           cases h
           simp only [aj]
           rw [ih _ _ hx,ih _ _ hy,xI hf]
   | nilFunc=>cases h; simp [aj]
   | iface t v=>cases h
   | nilIface=>cases h; simp [aj]
   | agg cs =>
     simp only [ic] at h
     cases hm:cs.toList.mapM (ic d) with
     | none=>rw [hm] at h; cases h
     | some l=>rw [hm] at h; cases h; simp only [aj]; rw [ih _ _ hm]
   | tuple cs =>
     simp only [ic] at h
     cases hm:cs.toList.mapM (ic d) with
     | none=>rw [hm] at h; cases h
     | some l=>rw [hm] at h; cases h; simp only [aj]; rw [ih _ _ hm]
theorem aN {x:Operand} {tm:Tm} {k:AV->Rs} (h:(ck x).run tm k=.ok):∃v,k v=.ok/\∀ι nt a,bG ι nt tm a->a.eval x=aj ι v:=by
 cases x with
 | tmp t =>
   have h:(om t).run tm k=.ok:=h
   rw [kC] at h
   exact⟨_,h,fun ι nt a ha=>ha.val t⟩
 | const v =>
   simp only [ck] at h
   cases hv:ic 8 v with
   | none=>rw [hv] at h; cases h
   | some a=>rw [hv] at h; exact⟨a,h,fun ι nt b _=>(dQ 8 v a hv ι).symm⟩
 | global g=>cases h
 | func f=>exact⟨_,h,fun ι nt a _=>by simp [Act.eval,aj,ao,lh]⟩
theorem rf:∀(xs:List Operand) {tm:Tm} {k:List AV->Rs},xx xs tm k=.ok->∃vs,k vs=.ok/\∀ι nt a,bG ι nt tm a->xs.map a.eval=ao ι vs
 | [],tm,k,h=>⟨[],h,fun _ _ _ _=>rfl⟩
 | x::xs,tm,k,h=>by
   obtain⟨v,h,hv⟩:=aN (k:=fun v=>xx xs tm fun vs=>k (v::vs)) h
   obtain⟨vs,h,hvs⟩:=rf xs h
   exact⟨v::vs,h,fun ι nt a ha=>by simp only [List.map_cons,ao]; rw [hv ι nt a ha,hvs ι nt a ha]⟩
end Go.aQ
namespace Go.aQ
open Go.RowKit
theorem rP {kd:IntKind} {z:Int} {k:Int->Rs} (h:um kd z k=.ok):k (kd.wrap z)=.ok:=by
 unfold um at h
 cases kd
 case i64 =>
  cases z with
  | ofNat m =>
    simp only [aI,ct] at h
    rcases bE h with ⟨hb,h⟩ | ⟨_,h⟩
    · have:=aL hb
      rw [Go.IntWalk.i64_in _ ⟨by simp only [Int.ofNat_eq_natCast]; omega,by simp only [Int.ofNat_eq_natCast]; omega⟩]; exact h
    · exact h
  | negSucc m =>
    simp only [aI,ct] at h
    rcases bE h with ⟨hb,h⟩ | ⟨_,h⟩
    · have:=aL hb
      rw [Go.IntWalk.i64_in _ ⟨by omega,by omega⟩]; exact h
    · exact h
 all_goals (simp only [ct] at h; exact h)
theorem oN {mx:Nat} {kd:IntKind} (hin:∀n:Int,-(mx:Int)-1<=n->n<=mx->kd.wrap n=n) {z:Int} {k:Int->Rs} (h:uo mx kd z k=.ok):k (kd.wrap z)=.ok:=by
 unfold uo at h
 cases z with
 | ofNat m =>
   rcases bE h with ⟨hb,h⟩ | ⟨_,h⟩
   · rw [aI] at h
     have:=aL hb
     rw [hin _ (by simp only [Int.ofNat_eq_natCast]; omega) (by simp only [Int.ofNat_eq_natCast]; omega)]; exact h
   · rw [ct] at h; exact h
 | negSucc m =>
   rcases bE h with ⟨hb,h⟩ | ⟨_,h⟩
   · rw [aI] at h
     have:=aL hb
     rw [hin _ (by omega) (by omega)]; exact h
   · rw [ct] at h; exact h
theorem oO {mx:Nat} {kd:IntKind} (hin:∀n:Int,0<=n->n<=mx->kd.wrap n=n) {z:Int} {k:Int->Rs} (h:uq mx kd z k=.ok):k (kd.wrap z)=.ok:=by
 unfold uq at h
 cases z with
 | ofNat m =>
   rcases bE h with ⟨hb,h⟩ | ⟨_,h⟩
   · rw [aI] at h
     have:=aL hb
     rw [hin _ (by simp only [Int.ofNat_eq_natCast]; omega) (by simp only [Int.ofNat_eq_natCast]; omega)]; exact h
   · rw [ct] at h; exact h
 | negSucc m =>
   simp only [ct] at h; exact h
theorem rQ {kd:IntKind} {z:Int} {k:Int->Rs} (h:rD kd z k=.ok):k (kd.wrap z)=.ok:=by
 cases kd with
 | i8=>exact oN (mx:=127) (fun n h1 h2=>Go.IntWalk.i8_in n ⟨by omega,by omega⟩) h
 | i16=>exact oN (mx:=32767) (fun n h1 h2=>Go.IntWalk.i16_in n ⟨by omega,by omega⟩) h
 | i32=>exact oN (mx:=2147483647) (fun n h1 h2=>Go.IntWalk.i32_in n ⟨by omega,by omega⟩) h
 | i64=>exact oN (mx:=9223372036854775807) (fun n h1 h2=>Go.IntWalk.i64_in n ⟨by omega,by omega⟩) h
 | u8=>exact oO (mx:=255) (fun n h1 h2=>Go.IntWalk.u8_in n ⟨by omega,by omega⟩) h
 | u16=>exact oO (mx:=65535) (fun n h1 h2=>Go.IntWalk.u16_in n ⟨by omega,by omega⟩) h
 | u32=>exact oO (mx:=4294967295) (fun n h1 h2=>Go.IntWalk.u32_in n ⟨by omega,by omega⟩) h
 | u64=>exact oO (mx:=18446744073709551615) (fun n h1 h2=>Go.IntWalk.u64_in n ⟨by omega,by omega⟩) h
theorem JQ (a b:Int) (k:Int->Rs):NX a b k=k (Int.add a b):=by
 cases a with
 | ofNat m =>
   cases b with
   | ofNat n=>exact aI (Nat.add m n) fun s=>k (.ofNat s)
   | negSucc n=>exact ct (Int.add (.ofNat m) (.negSucc n)) k
 | negSucc m=>exact ct (Int.add (.negSucc m) b) k
theorem JR (a b:Int) (k:Int->Rs):NY a b k=k (Int.sub a b):=by
 cases a with
 | ofNat m =>
   cases b with
   | ofNat n =>
     show bD (Nat.ble n m) (bd (Nat.sub m n) fun s=>k (.ofNat s)) (lF (Int.sub (.ofNat m) (.ofNat n)) k)=_
     cases h:Nat.ble n m with
     | true =>
       have:=aL h
       show bd (Nat.sub m n) (fun s=>k (.ofNat s))=_
       rw [aI]
       congr 1
       show ((m-n:Nat):Int)=(m:Int)-(n:Int)
       omega
     | false=>exact ct (Int.sub (.ofNat m) (.ofNat n)) k
   | negSucc n=>exact ct (Int.sub (.ofNat m) (.negSucc n)) k
 | negSucc m=>exact ct (Int.sub (.negSucc m) b) k
theorem Fb (a b:Int) (k:Bool->Rs):Ra a b k=k (decide (a<b)):=by
 cases a with
 | ofNat m =>
   cases b with
   | ofNat n =>
     show bY (Nat.ble (Nat.succ m) n) k=_
     rw [aU]
     congr 1
     rw [Bool.eq_iff_iff,Nat.ble_eq,decide_eq_true_eq]
     simp only [Int.ofNat_eq_natCast]
     omega
   | negSucc n=>exact aU (decide (Int.ofNat m < .negSucc n)) k
 | negSucc m=>exact aU (decide (Int.negSucc m<b)) k
theorem Fc (a b:Int) (k:Bool->Rs):JI a b k=k (decide (a<=b)):=by
 cases a with
 | ofNat m =>
   cases b with
   | ofNat n =>
     show bY (Nat.ble m n) k=_
     rw [aU]
     congr 1
     rw [Bool.eq_iff_iff,Nat.ble_eq,decide_eq_true_eq]
     simp only [Int.ofNat_eq_natCast]
     omega
   | negSucc n=>exact aU (decide (Int.ofNat m<=.negSucc n)) k
 | negSucc m=>exact aU (decide (Int.negSucc m<=b)) k
theorem Fe (a b:Int) (k:Bool->Rs):Rb a b k=k (a==b):=by
 cases a with
 | ofNat m =>
   cases b with
   | ofNat n =>
     show bY (Nat.beq m n) k=_
     rw [aU]
     congr 1
     rw [Bool.eq_iff_iff,Nat.beq_eq,beq_iff_eq]
     simp only [Int.ofNat_eq_natCast]
     omega
   | negSucc n =>
     show k false=_
     congr 1
 | negSucc m =>
   cases b with
   | ofNat n =>
     show k false=_
     congr 1
   | negSucc n =>
     show bY (Nat.beq m n) k=_
     rw [aU]
     congr 1
     rw [Bool.eq_iff_iff,Nat.beq_eq,beq_iff_eq]
     omega
theorem uH (l m l' m':Nat) (k:Bool->Rs):lH l m l' m' k=k (aO l m l' m'):=by
 unfold lH aO
 cases h:Nat.beq l l' with
 | true=>show bY _ k=_; rw [aU,Bool.true_and]
 | false=>rfl
theorem BB (k:AV->Rs) (b:Bool):Du k b=k (.bool (!b)):=by cases b<;>rfl
theorem BC {s:Sem Value} {k:AV->Rs} (h:EV s k=.ok):∃v c,s=.pure c/\k v=.ok/\∀ι,aj ι v=c:=by
 unfold EV at h
 split at h
 · rw [ct] at h; exact⟨_,_,rfl,h,fun ι=>by simp [aj]⟩
 · rw [aU] at h; exact⟨_,_,rfl,h,fun ι=>by simp [aj]⟩
 · rw [aI] at h; exact⟨_,_,rfl,h,fun ι=>by simp [aj]⟩
 · cases h
theorem rR {p:Prop} [Decidable p] (h:decide p=true):p:=of_decide_eq_true h
def Ff (P:Program) (op:BinOp) (t:TypeId) (x y v:AV):Prop:=∀ι w,(binOp op t (aj ι x) (aj ι y)).run P w=.ok (aj ι v) w
theorem Fg {P:Program} {op:BinOp} {t:TypeId} {kd kd':IntKind} {a b:Int} {k:AV->Rs} (h:EW op t kd a kd' b k=.ok):∃v,k v=.ok/\Ff P op t (.int kd a) (.int kd' b) v:=by
 unfold EW at h
 split at h
 case h_9 =>
  obtain⟨v,c,hs,hk,hr⟩:=BC h
  refine⟨v,hk,fun ι w=>?_⟩
  simp only [aj]
  rw [hs,hr]; rfl
 case h_1 =>
  obtain⟨hd,g⟩:=aK h
  obtain rfl:=rR hd
  exact⟨_,rP g,fun ι w=>by simp [aj,binOp,Op.intArith]<;>rfl⟩
 case h_2 =>
  obtain⟨hd,g⟩:=aK h
  obtain rfl:=rR hd
  exact⟨_,rP g,fun ι w=>by simp [aj,binOp,Op.intArith]<;>rfl⟩
 all_goals
  obtain⟨hd,g⟩:=aK h
  obtain rfl:=rR hd
  rw [aU] at g
  exact⟨_,g,fun ι w=>by simp [aj,binOp,Op.intCmp]⟩
theorem toList_mk (l:List UInt8):(ByteArray.mk l.toArray).toList=l:=by simp
theorem Fh {P:Program} {op:BinOp} {t:TypeId} {l m l' m':Nat} {k:AV->Rs} (h:xy op l m l' m' k=.ok):∃v,k v=.ok/\Ff P op t (.str l m) (.str l' m') v:=by
 unfold xy at h
 split at h
 · rw [aI] at h
   obtain⟨hb,h⟩:=aK h
   rw [aI] at h
   have hb:=aL hb
   refine⟨_,h,fun ι w=>?_⟩
   simp only [aj,binOp,Op.stringOp]
   rw [Sem.run_ite,if_neg]
   · simp only [Sem.run_pure,Result.ok.injEq,and_true,Value.string.injEq]
     rw [iK,show iI l' m'=m'%256 ^ l' by unfold iI; rw [iK]; rfl,lR]
     apply ByteArray.ext
     simp
   · have e1:(ByteArray.mk (bytesOf l m).toArray).size=l:=by show (bytesOf l m).toArray.size=l; simp [aA]
     have e2:(ByteArray.mk (bytesOf l' m').toArray).size=l':=by show (bytesOf l' m').toArray.size=l'; simp [aA]
     rw [e1,e2]
     show ¬_ > _
     simp only [IntKind.max,IntKind.signed,IntKind.bits]
     omega
 · rw [aU] at h
   refine⟨_,h,fun ι w=>?_⟩
   simp only [aj,binOp,Op.stringOp,toList_mk,dz]; rfl
 · rw [aU] at h
   refine⟨_,h,fun ι w=>?_⟩
   simp only [aj,binOp,Op.stringOp,toList_mk,dz]; rfl
 · cases h
end Go.aQ
namespace Go.aQ
open Go.RowKit
theorem extract_mk (l:List Value) (a b:Nat):l.toArray.extract a b=((l.drop a).take (b-a)).toArray:=by simp
theorem oP {P:Program} {w:World} {t:TypeId} {l:List Value} {off:Nat} (h:dJ P t=true):(part t l.toArray off).run P w=.ok (.agg ((l.drop off).take (ae P t)).toArray) w:=by
 obtain⟨d,hd⟩:=oM h
 simp only [part,Sem.run_bind,hO hd,h,Result.andThen_ok,if_true,gB hd,Sem.run_pure]
 rw [extract_mk]
 congr 4
 omega
theorem kL {P:Program} {w:World} {t:TypeId} {l:List Value} {off:Nat} {v:Value} {d:TypeDesc} (hd:P.underlying t=some d) (h:dJ P t=false) (hv:l[off]?=some v):(part t l.toArray off).run P w=.ok v w:=by
 simp only [part,Sem.run_bind,hO hd,h,Result.andThen_ok,Bool.false_eq_true,if_false]
 rw [List.getElem?_toArray,hv]
 rfl
def tV (P:Program) (d:Nat) (t:TypeId) (x y:AV) (b:Bool):Prop:=∀D ι w,d<=D->(Op.equalIn D t (aj ι x) (aj ι y)).run P w=.ok b w
theorem Fi {P:Program}:∀{d:Nat} {t:TypeId} {x y:AV} {k:Bool->Rs},ku P d t x y k=.ok->∃u,P.underlying t=some u:=by
 intro d t x y k h
 cases d with
 | zero=>cases h
 | succ d =>
   cases hu:P.underlying t with
   | some u=>exact⟨u,rfl⟩
   | none=>simp only [ku,hu] at h; cases h
theorem mE (P:Program):∀(d:Nat) (t:TypeId) (x y:AV) (k:Bool->Rs),ku P d t x y k=.ok->∃b,k b=.ok/\tV P d t x y b
 | 0,t,x,y,k,h=>by cases h
 | d+1,t,x,y,k,h=>by
   have up:∀{b:Bool},(∀D ι w,d<=D->(Op.equalIn (D+1) t (aj ι x) (aj ι y)).run P w=.ok b w)->tV P (d+1) t x y b:=by
    intro b hb D ι w hD
    obtain⟨D,rfl⟩:∃D',D=D'+1:=⟨D-1,by omega⟩
    exact hb D ι w (by omega)
   unfold ku at h
   split at h
   case h_1 hu=>rw [aU] at h; exact⟨_,h,up fun D ι w _=>by simp [aj,Op.equalIn,av hu]⟩
   case h_2 hu =>
    obtain⟨hd,g⟩:=aK h
    obtain rfl:=rR hd
    rw [aU] at g
    exact⟨_,g,up fun D ι w _=>by simp [aj,Op.equalIn,av hu]⟩
   case h_3 hu=>rw [aU] at h; exact⟨_,h,up fun D ι w _=>by simp [aj,Op.equalIn,av hu,dz,beq_toListBytes]⟩
   case h_18 fields xs ys hu =>
    obtain⟨xP,h⟩:P.stoodInHeld t=false/\_:=by
     cases hs:P.stoodInHeld t with
     | true=>rw [hs] at h; cases h
     | false=>rw [hs] at h; exact⟨rfl,h⟩
    have hfs:P.fieldsOf t=fields:=by unfold Program.fieldsOf; rw [hu]
    have key:∀(fs:List Field) (k:Bool->Rs),
      List.rec (motive:=fun _=>(Bool->Rs)->Rs) (fun k=>k true)
      (fun f _ ih k=>bD (f.name == "_") (ih k)
       (ot f.offset xs fun a=>ot f.offset ys fun b=>bd (ae P f.type) fun sz=>qz sz a fun a=>qz sz b fun b =>
        bD (dJ P f.type) (ku P d f.type (.agg a) (.agg b) fun e=>bD e (ih k) (k false))
         (tQ 0 a fun a=>tQ 0 b fun b=>ku P d f.type a b fun e=>bD e (ih k) (k false)))) fs k=.ok ->
      ∃b,k b=.ok/\∀D ι w,d<=D->(Op.eqFields D (ao ι xs).toArray (ao ι ys).toArray fs).run P w=.ok b w:=by
     intro fs
     induction fs with
     | nil=>intro k h; exact⟨true,h,fun D ι w _=>rfl⟩
     | cons f fs ih =>
       intro k h
       rcases bE h with ⟨hn,h⟩ | ⟨hn,h⟩
       · obtain⟨b,hk,hb⟩:=ih k h
         refine⟨b,hk,fun D ι w hD=>?_⟩
         simp only [Op.eqFields]
         rw [if_neg (by simpa using hn)]
         exact hb D ι w hD
       · have hn':f.name ≠ "_":=by simpa using hn
         obtain⟨h1,h⟩:=lN _ h
         obtain⟨h2,h⟩:=lN _ h
         rw [aI] at h
         obtain⟨h3,h⟩:=lM _ h
         obtain⟨h4,h⟩:=lM _ h
         rcases bE h with ⟨ha,h⟩ | ⟨ha,h⟩
         · obtain⟨e,h,he⟩:=mE P d f.type _ _ _ h
           have go:∀D ι w,d<=D->(Op.eqFields D (ao ι xs).toArray (ao ι ys).toArray (f::fs)).run P w=(if (!e)=true then Sem.pure false else Op.eqFields D (ao ι xs).toArray (ao ι ys).toArray fs).run P w:=by
            intro D ι w hD
            simp only [Op.eqFields]
            rw [if_pos hn']
            simp only [Sem.run_bind,oP ha,Result.andThen_ok]
            have:=he D ι w hD
            simp only [aj,uD,uE] at this
            rw [this]
            rfl
           rcases bE h with ⟨rfl,h⟩ | ⟨rfl,h⟩
           · obtain⟨b,hk,hb⟩:=ih k h
             exact⟨b,hk,fun D ι w hD=>by rw [go D ι w hD]; exact hb D ι w hD⟩
           · exact⟨false,h,fun D ι w hD=>by rw [go D ι w hD]; rfl⟩
         · obtain⟨a,ga,h⟩:=mB _ h
           obtain⟨b',gb,h⟩:=mB _ h
           obtain⟨u,hu'⟩:=Fi h
           obtain⟨e,h,he⟩:=mE P d f.type _ _ _ h
           have first:∀(l:List AV) (v:AV) (ι:En),((l.drop f.offset).take (ae P f.type))[0]?=some v->(ao ι l)[f.offset]?=some (aj ι v):=by
            intro l v ι hg
            rw [List.getElem?_take] at hg
            split at hg
            · rw [List.getElem?_drop,Nat.add_zero] at hg
              rw [bo,hg]; rfl
            · cases hg
           have go:∀D ι w,d<=D->(Op.eqFields D (ao ι xs).toArray (ao ι ys).toArray (f::fs)).run P w=(if (!e)=true then Sem.pure false else Op.eqFields D (ao ι xs).toArray (ao ι ys).toArray fs).run P w:=by
            intro D ι w hD
            simp only [Op.eqFields]
            rw [if_pos hn']
            simp only [Sem.run_bind,kL hu' ha (first _ _ ι ga),kL hu' ha (first _ _ ι gb),Result.andThen_ok]
            rw [he D ι w hD]
            rfl
           rcases bE h with ⟨rfl,h⟩ | ⟨rfl,h⟩
           · obtain⟨b,hk,hb⟩:=ih k h
             exact⟨b,hk,fun D ι w hD=>by rw [go D ι w hD]; exact hb D ι w hD⟩
           · exact⟨false,h,fun D ι w hD=>by rw [go D ι w hD]; rfl⟩
    obtain⟨b,hk,hb⟩:=key fields.toList k h
    refine⟨b,hk,up fun D ι w hD=>?_⟩
    simp only [aj]
    rw [run_equalIn_struct w D t _ _ (by rw [hfs]; exact hu) xP,hfs]
    exact hb D ι w hD
   case h_19=>cases h
   all_goals
    rename_i hu
    exact⟨_,h,up fun D ι w _=>by simp [aj,Op.equalIn,av hu]⟩
theorem hX {P:Program} {t:TypeId} {x y:AV} {b:Bool} (h:tV P 9 t x y b) (ι:En) (w:World):(Op.equal t (aj ι x) (aj ι y)).run P w=.ok b w:=h 10000 ι w (by decide)
theorem oQ {P:Program} {t:TypeId} {a b:Value} (h:∀k n k' n',a=.int k n->b=.int k' n'->False) (h2:∀k n k' n',a=.float k n->b=.float k' n'->False) (h3:∀k n m k' n' m',a=.complex k n m->b=.complex k' n' m'->False) (h4:∀s s',a=.string s->b=.string s'->False) :
  binOp .eql t a b=(do pure (.bool (<-Op.equal t a b)))/\binOp .neq t a b=(do pure (.bool (!(<-Op.equal t a b)))):=by
 cases a<;>cases b<;>first
  | exact⟨rfl,rfl⟩
  | exact (h _ _ _ _ rfl rfl).elim
  | exact (h2 _ _ _ _ rfl rfl).elim
  | exact (h3 _ _ _ _ _ _ rfl rfl).elim
  | exact (h4 _ _ rfl rfl).elim
theorem JS {P:Program} {op:BinOp} {t:TypeId} {x y:AV} {k:AV->Rs} (h:xz P op t x y k=.ok):(∃v,k v=.ok/\Ff P op t x y v)/\¬(x=.nilIface/\y=.nilIface):=by
 unfold xz at h
 split at h
 · exact⟨Fg h,fun e=>by cases e.1⟩
 · exact⟨Fh h,fun e=>by cases e.1⟩
 · cases h
 · rename_i hnf hni hns
   have side:∀ι,binOp .eql t (aj ι x) (aj ι y)=(do pure (.bool (<-Op.equal t (aj ι x) (aj ι y))))/\binOp .neq t (aj ι x) (aj ι y)=(do pure (.bool (!(<-Op.equal t (aj ι x) (aj ι y))))):=by
    intro ι
    refine oQ (P:=P) ?_ ?_ ?_ ?_
    · intro k n k' n' hx hy
      cases x<;>simp [aj] at hx
      cases y<;>simp [aj] at hy
      exact hni _ _ _ _ rfl rfl
    · intro k n k' n' hx hy
      cases x<;>simp [aj] at hx
      exact hnf _ _ rfl
    · intro k n m k' n' m' hx hy
      cases x<;>simp [aj] at hx
    · intro s s' hx hy
      cases x<;>simp [aj] at hx
      cases y<;>simp [aj] at hy
      exact hns _ _ _ _ rfl rfl
   have nil:∀{kk:Bool->Rs},ku P 9 t x y kk=.ok->¬(x=.nilIface/\y=.nilIface):=by
    rintro kk hk ⟨rfl,rfl⟩
    unfold ku at hk
    split at hk<;>first | cases hk | skip
    all_goals simp_all
   split at h
   · obtain⟨b,h1,h2⟩:=mE P _ _ _ _ _ h
     refine⟨⟨_,h1,fun ι w=>?_⟩,nil h⟩
     rw [(side ι).1]
     simp [hX h2 ι w,aj]
   · obtain⟨b,h1,h2⟩:=mE P _ _ _ _ _ h
     rw [aU] at h1
     refine⟨⟨_,h1,fun ι w=>?_⟩,nil h⟩
     rw [(side ι).2]
     simp [hX h2 ι w,aj]
   · cases h
end Go.aQ
namespace Go.aQ
open Go.RowKit
theorem xQ {kd:IntKind} {z:Int} {k:Int->Rs} (h:k (kd.wrap z)=.ok):um kd z k=.ok:=by
 cases kd
 case i64 =>
  cases z with
  | ofNat m =>
    show bD (Nat.ble m 9223372036854775807) (bd m fun m=>k (.ofNat m)) (lF (IntKind.i64.wrap (.ofNat m)) k)=.ok
    by_cases hb:m<=9223372036854775807
    · rw [Go.IntWalk.i64_in _ ⟨by simp only [Int.ofNat_eq_natCast]; omega,by simp only [Int.ofNat_eq_natCast]; omega⟩] at h
      rw [Nat.ble_eq_true_of_le hb,xH,aI]; exact h
    · rw [show Nat.ble m 9223372036854775807=false by rw [<-Bool.not_eq_true,Nat.ble_eq]; exact hb,uz,ct]; exact h
  | negSucc m =>
    show bD (Nat.ble m 9223372036854775807) (bd m fun m=>k (.negSucc m)) (lF (IntKind.i64.wrap (.negSucc m)) k)=.ok
    by_cases hb:m<=9223372036854775807
    · rw [Go.IntWalk.i64_in _ ⟨by omega,by omega⟩] at h
      rw [Nat.ble_eq_true_of_le hb,xH,aI]; exact h
    · rw [show Nat.ble m 9223372036854775807=false by rw [<-Bool.not_eq_true,Nat.ble_eq]; exact hb,uz,ct]; exact h
 case i8=>exact (ct (IntKind.i8.wrap z) k).trans h
 case i16=>exact (ct (IntKind.i16.wrap z) k).trans h
 case i32=>exact (ct (IntKind.i32.wrap z) k).trans h
 case u8=>exact (ct (IntKind.u8.wrap z) k).trans h
 case u16=>exact (ct (IntKind.u16.wrap z) k).trans h
 case u32=>exact (ct (IntKind.u32.wrap z) k).trans h
 case u64=>exact (ct (IntKind.u64.wrap z) k).trans h
theorem lU {b:Bool} {x:Rs} {n:Nat} (hb:b=true) (h:x=.ok):bD b x (.bad n)=.ok:=by rw [hb]; exact h
theorem lV (kd:IntKind):decide (kd=kd)=true:=by simp
theorem JT {P:Program} {op:BinOp} {t:TypeId} {x y:AV} {k:AV->Rs} (h:(NZ P op t).run x y k=.ok):xz P op t x y k=.ok:=by
 cases op
 case add =>
  have h:pK x (.bad 39) (fun kd a=>asInt y fun kd' b=>bD (dO kd kd') (NX a b fun z=>rD kd z fun z=>k (.int kd z)) (.bad 31)) (fun l m=>jE y (.bad 39) fun l' m'=>xy .add l m l' m' k)=.ok:=h
  cases x<;>first | (cases h; done) | skip
  · obtain⟨kd',b,rfl,g⟩:=cy h
    obtain⟨hk,g2⟩:=aK g
    have:=fZ hk
    subst this
    rw [JQ] at g2
    exact lU (lV _) (xQ (rQ g2))
  · cases y<;>first | (cases h; done) | exact h
 case sub =>
  have h:asInt x (fun kd a=>asInt y fun kd' b=>bD (dO kd kd') (NY a b fun z=>rD kd z fun z=>k (.int kd z)) (.bad 31))=.ok:=h
  obtain⟨kd,a,rfl,g⟩:=cy h
  obtain⟨kd',b,rfl,g1⟩:=cy g
  obtain⟨hk,g2⟩:=aK g1
  have:=fZ hk
  subst this
  rw [JR] at g2
  exact lU (lV _) (xQ (rQ g2))
 case lss =>
  have h:asInt x (fun kd a=>asInt y fun kd' b=>bD (dO kd kd') (Ra a b fun b=>k (.bool b)) (.bad 31))=.ok:=h
  obtain⟨kd,a,rfl,g⟩:=cy h
  obtain⟨kd',b,rfl,g1⟩:=cy g
  obtain⟨hk,g2⟩:=aK g1
  have:=fZ hk
  subst this
  rw [Fb] at g2
  exact lU (lV _) (by rw [aU]; exact g2)
 case gtr =>
  have h:asInt x (fun kd a=>asInt y fun kd' b=>bD (dO kd kd') (Ra b a fun b=>k (.bool b)) (.bad 31))=.ok:=h
  obtain⟨kd,a,rfl,g⟩:=cy h
  obtain⟨kd',b,rfl,g1⟩:=cy g
  obtain⟨hk,g2⟩:=aK g1
  have:=fZ hk
  subst this
  rw [Fb] at g2
  exact lU (lV _) (by rw [aU]; exact g2)
 case leq =>
  have h:asInt x (fun kd a=>asInt y fun kd' b=>bD (dO kd kd') (JI a b fun b=>k (.bool b)) (.bad 31))=.ok:=h
  obtain⟨kd,a,rfl,g⟩:=cy h
  obtain⟨kd',b,rfl,g1⟩:=cy g
  obtain⟨hk,g2⟩:=aK g1
  have:=fZ hk
  subst this
  rw [Fc] at g2
  exact lU (lV _) (by rw [aU]; exact g2)
 case geq =>
  have h:asInt x (fun kd a=>asInt y fun kd' b=>bD (dO kd kd') (JI b a fun b=>k (.bool b)) (.bad 31))=.ok:=h
  obtain⟨kd,a,rfl,g⟩:=cy h
  obtain⟨kd',b,rfl,g1⟩:=cy g
  obtain⟨hk,g2⟩:=aK g1
  have:=fZ hk
  subst this
  rw [Fc] at g2
  exact lU (lV _) (by rw [aU]; exact g2)
 case eql =>
  have h:pK x (xz P .eql t x y k) (fun kd a=>asInt y fun kd' b=>bD (dO kd kd') (Rb a b fun b=>k (.bool b)) (.bad 31)) (fun l m=>jE y (.bad 39) fun l' m'=>lH l m l' m' fun b=>k (.bool b))=.ok:=h
  cases x<;>first | exact h | skip
  · obtain⟨kd',b,rfl,g⟩:=cy h
    obtain⟨hk,g2⟩:=aK g
    have:=fZ hk
    subst this
    rw [Fe] at g2
    exact lU (lV _) (by rw [aU]; exact g2)
  · cases y<;>first | (cases h; done) | skip
    rename_i l m l' m' _
    have h:lH l m l' m' (fun b=>k (.bool b))=.ok:=h
    rw [uH] at h
    show bY (aO l m l' m') (fun b=>k (.bool b))=.ok
    rw [aU]; exact h
 case neq =>
  have h:pK x (xz P .neq t x y k) (fun kd a=>asInt y fun kd' b=>bD (dO kd kd') (Rb a b (Du k)) (.bad 31)) (fun l m=>jE y (.bad 39) fun l' m'=>lH l m l' m' (Du k))=.ok:=h
  cases x<;>first | exact h | skip
  · obtain⟨kd',b,rfl,g⟩:=cy h
    obtain⟨hk,g2⟩:=aK g
    have:=fZ hk
    subst this
    rw [Fe,BB] at g2
    exact lU (lV _) (by rw [aU]; exact g2)
  · cases y<;>first | (cases h; done) | skip
    rename_i l m l' m' _
    have h:lH l m l' m' (Du k)=.ok:=h
    rw [uH,BB] at h
    show bY (!aO l m l' m') (fun b=>k (.bool b))=.ok
    rw [aU]; exact h
 all_goals exact h
end Go.aQ
namespace Go.aQ
open Go.RowKit
def En.at (ι:En) (nx:Pz) (b s κ:Nat):En:=⟨fun i=>if i=nx then b else ι.aR i,fun i=>if i=nx then s else ι.sh i,fun i=>if i=nx then κ else ι.jP i⟩
theorem gD (ι:En) (nx:Pz) (b s κ:Nat):al nx ι (ι.at nx b s κ):=by
 intro id hid
 have:id≠nx:=fun e=>by rw [e] at hid; omega
 simp [En.at,this]
theorem rS {nx:Pz} {ι ι':En} (h:al nx.succ ι ι'):al nx ι ι':=fun id hid=>h id (by rw [Pz.cb]; omega)
theorem dR {ι ι':En} {nx:Pz} {b s κ:Nat} (h:al nx.succ (ι.at nx b s κ) ι'):al nx ι ι'/\ι'.aR nx=b/\ι'.sh nx=s/\ι'.jP nx=κ:=by
 refine⟨(gD ι nx b s κ).trans (rS h) (Nat.le_refl _),?_,?_,?_⟩
 · rw [(h nx (by rw [Pz.cb]; omega)).1]; simp [En.at]
 · rw [(h nx (by rw [Pz.cb]; omega)).2.1]; simp [En.at]
 · rw [(h nx (by rw [Pz.cb]; omega)).2.2]; simp [En.at]
def Sat (B:Nat->Prop) (w0:World) (nt:Nat) (tm:Tm) (hp:Tr AO) (nx:Pz) (ι:En) (a:Act) (w:World):Prop :=
 Wf hp nx/\∀ι',al nx ι ι'->bG ι' nt tm a/\Core B w0 ι' hp w
def Fj (B:Nat->Prop) (w0:World) (ι:En) (nx:Pz) (k:AV->Tr AO->Pz->Rs) (next:Value->World->Prop):Prop :=
 ∀v hp' nx' ι2 cv w',k v hp' nx'=.ok->Wf hp' nx'->nx.num<=nx'.num->al nx ι ι2->(∀ι',al nx' ι2 ι'->Core B w0 ι' hp' w'/\cv=aj ι' v)->next cv w'
def fw (r:Option Nat):Fence:={ Fence.wide with round:=r }
def dk (P:Program) (s:Sem Next) (w:World) (G:Value->World->Prop):Prop :=
 (∃cv w',(s.run P w=.ok (.value cv) w'∨(s.run P w=.ok .skip w'/\cv=undef))/\G cv w') ∨
 (∃f args w',s.run P w=.ok (.enter f args) w'/\Calls P f args w' fun e w''=>∃cv,e=.returned cv/\G cv w'') ∨
 (∃l f tmps assign body w',s.run P w=.ok (.round l f tmps assign body) w'/\RoundIn Fence.wide 0 P l f tmps assign body w' fun e w''=>∃cv,e=.returned cv/\G cv w'')
theorem dk.mono {P:Program} {s:Sem Next} {w:World} {G G':Value->World->Prop} (h:dk P s w G) (hg:∀cv w',G cv w'->G' cv w'):dk P s w G':=by
 rcases h with ⟨cv,w',h1,h2⟩ | ⟨f,args,w',h1,h2⟩ | ⟨l,f,tmps,x,y,w',h1,h2⟩
 · exact .inl ⟨cv,w',h1,hg _ _ h2⟩
 · exact .inr (.inl ⟨f,args,w',h1,Calls.mono h2 fun e w'' ⟨cv,e1,e2⟩=>⟨cv,e1,hg _ _ e2⟩⟩)
 · exact .inr (.inr ⟨l,f,tmps,x,y,w',h1,RoundIn.mono h2 fun e w'' ⟨cv,e1,e2⟩=>⟨cv,e1,hg _ _ e2⟩⟩)
theorem dk.plain {P:Program} {o:Oper} {ρ:Operand->Value} {w:World} {G:Value->World->Prop} (h:dk P (execOp ρ o) w G):∀c,o.op≠.defer c:=by
 intro c hc
 have hr:∀n w',(execOp ρ o).run P w=.ok n w'->∃d,n=.defer d:=by
  intro n w' hr
  simp only [execOp,hc,Sem.run_bind] at hr
  cases hd:(resolve ρ c o.type).run P w with
  | ok d w2 =>
    rw [hd,Result.andThen_ok] at hr
    simp only [Sem.run_pure,Result.ok.injEq] at hr
    exact⟨_,hr.1.symm⟩
  | halt x w2=>rw [hd] at hr; cases hr
 rcases h with ⟨cv,w',h | ⟨h,_⟩,_⟩ | ⟨f,args,w',h,_⟩ | ⟨l,f,tmps,x,y,w',h,_⟩<;>(obtain⟨d,hd⟩:=hr _ _ h; cases hd)
theorem rT {r:Option Nat} {n:Nat}:(fw r).depth.isSome=true->1<=n:=fun h=>by simp [fw,Fence.wide] at h
theorem xR {P:Program} {f:FuncId} {args:Array Value} {w:World} {R:Ending->World->Prop} (h:Calls P f args w R) (r:Option Nat) (n:Nat):CallsIn (fw r) n P f args w R:=by
 have h:CallsIn Fence.wide n P f args w R:=callsIn_wide.2 h
 exact⟨trivial,fun cs _=>h.2 cs (room_wide _)⟩
theorem Fk {P:Program} {l:Nat} {f:FuncId} {tmps:Array Value} {x y:Code} {w:World} {R:Ending->World->Prop} (h:RoundIn Fence.wide 0 P l f tmps x y w R) (r:Option Nat) (n:Nat):RoundIn (fw r) n P l f tmps x y w R :=
 ⟨trivial,fun c cs _=>h.2 c cs (room_wide _)⟩
theorem dk.wp {P:Program} {r:Option Nat} {o:Oper} {a:Act} {w:World} {G:Value->World->Prop} (h:dk P (execOp a.eval o) w G) {next:Act->World->Prop} {Q:Exit->Act->World->Prop} (hn:∀cv w',G cv w'->next (a.put o.dst cv) w'):o.wpIn (fw r) 0 P a w next Q:=by
 refine⟨fun _ _=>trivial,?_⟩
 rw [Oper.semAt_eq _ _ _ h.plain]
 rcases h with ⟨cv,w',h | ⟨h,rfl⟩,hg⟩ | ⟨f,args,w',h,hc⟩ | ⟨l,f,tmps,x,y,w',h,hc⟩
 · rw [h]; exact hn _ _ hg
 · rw [h]; exact hn _ _ hg
 · rw [h,Oper.uponIn_enter]
   refine⟨rT,CallsIn.mono (xR hc r _) fun e w'' he=>?_⟩
   obtain⟨cv,rfl,hg⟩:=he
   exact hn _ _ hg
 · rw [h,Oper.uponIn_round]
   refine⟨rT,RoundIn.mono (Fk hc r _) fun e w'' he=>?_⟩
   obtain⟨cv,rfl,hg⟩:=he
   exact hn _ _ hg
def jo (P:Program) (o:Oper) (tm:Tm) (hp:Tr AO) (nx:Pz) (k:AV->Tr AO->Pz->Rs):Prop :=
 ∀B w0 nt a w ι,Sat B w0 nt tm hp nx ι a w->∀(G:Value->World->Prop),Fj B w0 ι nx k G->dk P (execOp a.eval o) w G
structure EK (P:Program) (o:Oper) (tm:Tm) (hp:Tr AO) (nx:Pz) (v:AV) (hp':Tr AO) (nx':Pz):Prop where
 le:nx.num<=nx'.num
 wf:Wf hp nx->Wf hp' nx'
 run:∀B w0 nt a w ι,Sat B w0 nt tm hp nx ι a w->∃ι2 cv w',al nx ι ι2/\((execOp a.eval o).run P w=.ok (.value cv) w'∨((execOp a.eval o).run P w=.ok .skip w'/\cv=undef)) /\
  ∀ι',al nx' ι2 ι'->Core B w0 ι' hp' w'/\cv=aj ι' v
section
variable {P:Program} {o:Oper} {tm:Tm} {hp hp':Tr AO} {nx nx':Pz} {k:AV->Tr AO->Pz->Rs} {v:AV}
theorem EK.to (h:EK P o tm hp nx v hp' nx') (hk:k v hp' nx'=.ok):jo P o tm hp nx k:=by
 intro B w0 nt a w ι hs G hn
 obtain⟨ι2,cv,w',h1,h2,h3⟩:=h.run B w0 nt a w ι hs
 exact .inl ⟨cv,w',h2,hn v hp' nx' ι2 cv w' hk (h.wf hs.1) h.le h1 h3⟩
def fT (P:Program) (o:Oper) (tm:Tm) (hp:Tr AO) (v:AV):Prop :=
 ∀B w0 ι nt a w,bG ι nt tm a->Core B w0 ι hp w->(execOp a.eval o).run P w=.ok (.value (aj ι v)) w
theorem fT.Dz (h:fT P o tm hp v) (nx:Pz):EK P o tm hp nx v hp nx:=by
 refine⟨Nat.le_refl _,fun hw=>hw,fun B w0 nt a w ι hs=>⟨ι,aj ι v,w,al.refl _ _,.inl ?_,fun ι' hι=>?_⟩⟩
 · obtain⟨h1,h2⟩:=hs.2 ι (al.refl _ _)
   exact h B w0 ι nt a w h1 h2
 · obtain⟨h1,h2⟩:=hs.2 ι (al.refl _ _)
   obtain⟨h3,h4⟩:=hs.2 ι' hι
   refine⟨h4,?_⟩
   have e1:=h B w0 ι nt a w h1 h2
   have e2:=h B w0 ι' nt a w h3 h4
   rw [e1] at e2
   simpa using e2
def cQ (P:Program) (o:Oper) (tm:Tm) (hp:Tr AO) (nx:Pz) (k:AV->Tr AO->Pz->Rs):Prop:=∃v,k v hp nx=.ok/\fT P o tm hp v
theorem cQ.to (h:cQ P o tm hp nx k):jo P o tm hp nx k:=by
 obtain⟨v,hk,hv⟩:=h
 exact (hv.Dz nx).to hk
def DA (P:Program) (o:Oper) (tm:Tm) (hp:Tr AO) (nx:Pz) (v:AV) (hp':Tr AO):Prop :=
 (Wf hp nx->Wf hp' nx)/\∀B w0 ι nt a w,Wf hp nx->bG ι nt tm a->Core B w0 ι hp w->∃w' cv,((execOp a.eval o).run P w=.ok (.value cv) w'∨((execOp a.eval o).run P w=.ok .skip w'/\cv=undef))/\cv=aj ι v/\Core B w0 ι hp' w'
theorem DA.Dz (h:DA P o tm hp nx v hp'):EK P o tm hp nx v hp' nx:=by
 refine⟨Nat.le_refl _,h.1,fun B w0 nt a w ι hs=>?_⟩
 obtain⟨h1,h2⟩:=hs.2 ι (al.refl _ _)
 obtain⟨w',cv,hr,Mg,hc⟩:=h.2 B w0 ι nt a w hs.1 h1 h2
 refine⟨ι,cv,w',al.refl _ _,hr,fun ι' hι=>?_⟩
 obtain⟨h3,h4⟩:=hs.2 ι' hι
 obtain⟨w'',cv',hr',hcv',hc'⟩:=h.2 B w0 ι' nt a w hs.1 h3 h4
 rcases hr with hr | ⟨hr,hu⟩
 · rcases hr' with hr' | ⟨hr',hu'⟩
   · rw [hr] at hr'
     simp only [Result.ok.injEq,Next.value.injEq] at hr'
     obtain⟨rfl,rfl⟩:=hr'
     exact⟨hc',hcv'⟩
   · rw [hr] at hr'; simp at hr'
 · rcases hr' with hr' | ⟨hr',hu'⟩
   · rw [hr] at hr'; simp at hr'
   · rw [hr] at hr'
     simp only [Result.ok.injEq,true_and] at hr'
     subst hr'
     exact⟨hc',by rw [hu,<-hu',hcv']⟩
theorem EK.new {x:AO} (hx1:gO x=none) (hx2:∀e s,x≠.cU e s)
  (h:∀B w0 ι nt a w,bG ι nt tm a->Core B w0 ι hp w->ι.aR nx=w.heap.size->ι.sh nx=0->∃y,(execOp a.eval o).run P w=.ok (.value (aj ι v)) (w.alloc y)/\iC ι (hp.set nx x) (w.alloc y) nx x) :
  EK P o tm hp nx v (hp.set nx x) nx.succ:=by
 refine⟨by rw [Pz.cb]; omega,fun hw=>rN hw hx1 hx2,fun B w0 nt a w ι hs=>?_⟩
 have hag:=gD ι nx w.heap.size 0 0
 obtain⟨h1,h2⟩:=hs.2 _ hag
 obtain⟨y,hr,_⟩:=h B w0 _ nt a w h1 h2 (by simp [En.at]) (by simp [En.at])
 refine⟨_,_,_,hag,.inl hr,fun ι' hι=>?_⟩
 obtain⟨ha,hb,hsh,_⟩:=dR hι
 obtain⟨h3,h4⟩:=hs.2 ι' ha
 obtain⟨y',hr',ho'⟩:=h B w0 ι' nt a w h3 h4 hb hsh
 rw [hr] at hr'
 simp only [Result.ok.injEq,Next.value.injEq] at hr'
 obtain⟨e1,e2⟩:=hr'
 rw [e2]
 exact⟨rM hs.1 h4 hb hx1 hx2 ho',e1⟩
def Mh (P:Program) (o:Oper) (tm:Tm) (nx:Pz) (v:AV) (x:AO):Prop :=
 gO x=none/\(∀e s,x≠.cU e s)/\∀ι nt a,bG ι nt tm a->ι.sh nx=0->∃y,(∀w,ι.aR nx=w.heap.size->(execOp a.eval o).run P w=.ok (.value (aj ι v)) (w.alloc y))/\∀hp w',w'.heap[ι.aR nx]?=some y->iC ι hp w' nx x
def qG (P:Program) (o:Oper) (tm:Tm) (hp:Tr AO) (nx:Pz) (k:AV->Tr AO->Pz->Rs):Prop:=∃v x,k v (hp.set nx x) nx.succ=.ok/\Mh P o tm nx v x
theorem bJ (w:World) (y:Obj):(w.alloc y).heap[w.heap.size]?=some y:=by
 show (w.heap.push y)[w.heap.size]?=some y
 simp
theorem qG.to (h:qG P o tm hp nx k):jo P o tm hp nx k:=by
 obtain⟨v,x,hk,hx1,hx2,hr⟩:=h
 refine (EK.new hx1 hx2 (fun B w0 ι nt a w ha hc hb hs=>?_)).to hk
 obtain⟨y,h1,h2⟩:=hr ι nt a ha hs
 exact⟨y,h1 w hb,h2 _ _ (by rw [hb]; exact bJ w y)⟩
end
theorem gS {B:Nat->Prop} {w0 w:World} {ι:En} {hp:Tr AO} (h:Core B w0 ι hp w):Core B w0 ι hp w.drew:=by
 refine⟨h.below.drew,h.room,fun i o hi=>?_,h.base,h.sep,h.ec⟩
 exact (h.obj i o hi).br (fun x=>x) (fun _=>rfl)
theorem cw (hp:Tr AO) (nx:Pz) (o:AO) (k:Pz->Tr AO->Pz->Rs):newObj hp nx o k=k nx (hp.set nx o) nx.succ:=by
 unfold newObj
 rw [Tr.cj,Pz.E5]
theorem mF (hp:Tr AO) (nx:Pz) (es n:Nat) (el:TypeId) (c:Tr (List AV)) (k:Pz->Tr AO->Pz->Rs):kq hp nx es n el c k=k nx (hp.set nx (.arr es n el c)) nx.succ:=cw _ _ _ _
theorem heap_alloc_new (w:World) (y:Obj):(w.alloc y).heap[w.heap.size]?=some y:=by
 show (w.heap.push y)[w.heap.size]?=some y
 simp
theorem rU {ι:En} {hp:Tr AO} {w:World} {nx:Pz} {l:List AV} {el:TypeId} (hb:w.heap[ι.aR nx]?=some (.cells (ao ι l).toArray el (0,0))) (hs:ι.sh nx=0):iC ι hp w nx (.arr l.length 1 el (one l)):=by
 refine⟨(ao ι l).toArray,(0,0),hb,hs,by simp [aq],?_,Or.inl rfl⟩
 intro q hq
 have:q=0:=by omega
 subst this
 refine⟨l,rfl,rfl,fun r hr=>?_⟩
 rw [Nat.zero_mul,Nat.zero_add,Nat.zero_add,List.getElem?_toArray,bo]
end Go.aQ
