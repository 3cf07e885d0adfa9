/- Part Xaa of the proof of ScopeEnds: no condition. -/
import Derived.Calls
import Derived.Below
import Derived.KernelRfl
import Derived.Orders
import Derived.Laws.Sem
import Derived.IntWalk
import Derived.Laws.Strings
import Derived.Laws.StructEq
import Derived.RangeFuncLeaves
set_option linter.unusedSimpArgs false
set_option linter.unusedVariables false
namespace Go.Rex
inductive Rs where | ok | bad (n:Nat)
inductive Pz where | h | o (p:Pz) | i (p:Pz)
 deriving DecidableEq
inductive Tr (α:Type) where | e | n (l:Tr α) (v:Option α) (r:Tr α)
inductive AV where
 | bool (b:Bool)
 | int (k:IntKind) (n:Int)
 | str (len n:Nat)
 | float (k:FloatKind) (bits:Nat)
 | ptr (id:Pz) (off:Nat)
 | nilp
 | slice (id:Pz) (off len cap:Nat)
 | oslice (id:Pz) (off len skip:Nat)
 | nils
 | map (id:Pz)
 | nilmap
 | func (fn:Fn) (first captured:List AV)
 | nilfunc
 | iface (t:TypeId) (v:AV)
 | nilIface
 | agg (cs:List AV)
 | tup (vs:List AV)
 | rsl (b o len cap:Nat)
 | rpt (b o:Nat)
 | rmp (b:Nat)
structure ME where
 key:AV
 val:AV
 born:Nat
structure Oct (α:Type) where
 a0:α
 a1:α
 a2:α
 a3:α
 a4:α
 a5:α
 a6:α
 a7:α
structure Tm where
 lo:Oct (Oct AV)
 hi:Tr AV
 ml:List Pz
inductive Ex where | nrm | ext (id:Nat) | ret
inductive LS where | ready | busy | done (e:Ex)
inductive AO where
 | arr (es n:Nat) (el:TypeId) (cells:Tr (List AV))
 | seg (fam:Pz) (ep:Nat) (tip:Bool) (es n:Nat) (el:TypeId) (cells:Tr (List AV))
 | fam (ep:Nat) (solo:Bool)
 | map (es:List ME) (clock:Nat)
 | iter (m:Pz) (since:Nat) (seen:List Nat) (clock:Nat)
 | loop (f nt:Nat) (tm:Tm) (ps:Array Tmp) (assign body:Code) (st:LS)
 | dmark
 | gone
noncomputable section
def Tr.getK {α:Type} (p:Pz):Tr α->Rs->(α->Rs)->Rs :=
 Pz.rec (motive:=fun _=>Tr α->Rs->(α->Rs)->Rs)
  (fun t z k=>Tr.rec (motive:=fun _=>Rs) z (fun _ v _ _ _=>Option.rec (motive:=fun _=>Rs) z k v) t)
  (fun _ ih t z k=>Tr.rec (motive:=fun _=>Rs) z (fun l _ _ _ _=>ih l z k) t)
  (fun _ ih t z k=>Tr.rec (motive:=fun _=>Rs) z (fun _ _ r _ _=>ih r z k) t) p
def Tr.setK {α:Type} (p:Pz):Tr α->α->(Tr α->Rs)->Rs :=
 Pz.rec (motive:=fun _=>Tr α->α->(Tr α->Rs)->Rs)
  (fun t v k=>Tr.rec (motive:=fun _=>Rs) (k (.n .e (some v) .e)) (fun l _ r _ _=>k (.n l (some v) r)) t)
  (fun _ ih t v k=>Tr.rec (motive:=fun _=>Rs) (ih .e v fun l=>k (.n l none .e)) (fun l x r _ _=>ih l v fun l=>k (.n l x r)) t)
  (fun _ ih t v k=>Tr.rec (motive:=fun _=>Rs) (ih .e v fun r=>k (.n .e none r)) (fun l x r _ _=>ih r v fun r=>k (.n l x r)) t) p
def Pz.succK (p:Pz):(Pz->Rs)->Rs :=
 Pz.rec (motive:=fun _=>(Pz->Rs)->Rs) (fun k=>k (.o .h)) (fun q _ k=>k (.i q)) (fun _ ih k=>ih fun q=>k (.o q)) p
def natPzF (f:Nat):Nat->Pz :=
 Nat.rec (motive:=fun _=>Nat->Pz) (fun _=>.h)
  (fun _ ih m=>Bool.rec (motive:=fun _=>Pz) (Bool.rec (motive:=fun _=>Pz) (.o (ih (Nat.div m 2))) (.i (ih (Nat.div m 2))) (Nat.beq (Nat.mod m 2) 1)) .h (Nat.ble m 1)) f
def natPz (n:Nat):Pz:=natPzF (n+1) (n+1)
def pzC (β:Type) (p:Pz):(Pz->β)->β :=
 Pz.rec (motive:=fun _=>(Pz->β)->β) (fun k=>k .h) (fun _ ih k=>ih fun q=>k (.o q)) (fun _ ih k=>ih fun q=>k (.i q)) p
def natPzC (β:Type) (n:Nat) (k:Pz->β):β:=pzC β (natPz n) k
structure G1 (α:Type) where run:Oct α->(α->Rs)->Rs
structure S1 (α:Type) where run:Oct α->(α->(α->Rs)->Rs)->(Oct α->Rs)->Rs
structure S2 (α:Type) where run:Oct α->α->(Oct α->Rs)->Rs
def g1 (α:Type) (d:Nat):G1 α :=
 match d with
 | 0=>⟨fun o=>Oct.rec (motive:=fun _=>(α->Rs)->Rs) (fun a0 _ _ _ _ _ _ _ k=>k a0) o⟩
 | 1=>⟨fun o=>Oct.rec (motive:=fun _=>(α->Rs)->Rs) (fun _ a1 _ _ _ _ _ _ k=>k a1) o⟩
 | 2=>⟨fun o=>Oct.rec (motive:=fun _=>(α->Rs)->Rs) (fun _ _ a2 _ _ _ _ _ k=>k a2) o⟩
 | 3=>⟨fun o=>Oct.rec (motive:=fun _=>(α->Rs)->Rs) (fun _ _ _ a3 _ _ _ _ k=>k a3) o⟩
 | 4=>⟨fun o=>Oct.rec (motive:=fun _=>(α->Rs)->Rs) (fun _ _ _ _ a4 _ _ _ k=>k a4) o⟩
 | 5=>⟨fun o=>Oct.rec (motive:=fun _=>(α->Rs)->Rs) (fun _ _ _ _ _ a5 _ _ k=>k a5) o⟩
 | 6=>⟨fun o=>Oct.rec (motive:=fun _=>(α->Rs)->Rs) (fun _ _ _ _ _ _ a6 _ k=>k a6) o⟩
 | _=>⟨fun o=>Oct.rec (motive:=fun _=>(α->Rs)->Rs) (fun _ _ _ _ _ _ _ a7 k=>k a7) o⟩
def s1 (α:Type) (d:Nat):S1 α :=
 match d with
 | 0=>⟨fun o=>Oct.rec (motive:=fun _=>(α->(α->Rs)->Rs)->(Oct α->Rs)->Rs) (fun a0 a1 a2 a3 a4 a5 a6 a7 f k=>f a0 fun x=>k ⟨x,a1,a2,a3,a4,a5,a6,a7⟩) o⟩
 | 1=>⟨fun o=>Oct.rec (motive:=fun _=>(α->(α->Rs)->Rs)->(Oct α->Rs)->Rs) (fun a0 a1 a2 a3 a4 a5 a6 a7 f k=>f a1 fun x=>k ⟨a0,x,a2,a3,a4,a5,a6,a7⟩) o⟩
 | 2=>⟨fun o=>Oct.rec (motive:=fun _=>(α->(α->Rs)->Rs)->(Oct α->Rs)->Rs) (fun a0 a1 a2 a3 a4 a5 a6 a7 f k=>f a2 fun x=>k ⟨a0,a1,x,a3,a4,a5,a6,a7⟩) o⟩
 | 3=>⟨fun o=>Oct.rec (motive:=fun _=>(α->(α->Rs)->Rs)->(Oct α->Rs)->Rs) (fun a0 a1 a2 a3 a4 a5 a6 a7 f k=>f a3 fun x=>k ⟨a0,a1,a2,x,a4,a5,a6,a7⟩) o⟩
 | 4=>⟨fun o=>Oct.rec (motive:=fun _=>(α->(α->Rs)->Rs)->(Oct α->Rs)->Rs) (fun a0 a1 a2 a3 a4 a5 a6 a7 f k=>f a4 fun x=>k ⟨a0,a1,a2,a3,x,a5,a6,a7⟩) o⟩
 | 5=>⟨fun o=>Oct.rec (motive:=fun _=>(α->(α->Rs)->Rs)->(Oct α->Rs)->Rs) (fun a0 a1 a2 a3 a4 a5 a6 a7 f k=>f a5 fun x=>k ⟨a0,a1,a2,a3,a4,x,a6,a7⟩) o⟩
 | 6=>⟨fun o=>Oct.rec (motive:=fun _=>(α->(α->Rs)->Rs)->(Oct α->Rs)->Rs) (fun a0 a1 a2 a3 a4 a5 a6 a7 f k=>f a6 fun x=>k ⟨a0,a1,a2,a3,a4,a5,x,a7⟩) o⟩
 | _=>⟨fun o=>Oct.rec (motive:=fun _=>(α->(α->Rs)->Rs)->(Oct α->Rs)->Rs) (fun a0 a1 a2 a3 a4 a5 a6 a7 f k=>f a7 fun x=>k ⟨a0,a1,a2,a3,a4,a5,a6,x⟩) o⟩
def s2 (α:Type) (d:Nat):S2 α :=
 match d with
 | 0=>⟨fun o=>Oct.rec (motive:=fun _=>α->(Oct α->Rs)->Rs) (fun _ a1 a2 a3 a4 a5 a6 a7 x k=>k ⟨x,a1,a2,a3,a4,a5,a6,a7⟩) o⟩
 | 1=>⟨fun o=>Oct.rec (motive:=fun _=>α->(Oct α->Rs)->Rs) (fun a0 _ a2 a3 a4 a5 a6 a7 x k=>k ⟨a0,x,a2,a3,a4,a5,a6,a7⟩) o⟩
 | 2=>⟨fun o=>Oct.rec (motive:=fun _=>α->(Oct α->Rs)->Rs) (fun a0 a1 _ a3 a4 a5 a6 a7 x k=>k ⟨a0,a1,x,a3,a4,a5,a6,a7⟩) o⟩
 | 3=>⟨fun o=>Oct.rec (motive:=fun _=>α->(Oct α->Rs)->Rs) (fun a0 a1 a2 _ a4 a5 a6 a7 x k=>k ⟨a0,a1,a2,x,a4,a5,a6,a7⟩) o⟩
 | 4=>⟨fun o=>Oct.rec (motive:=fun _=>α->(Oct α->Rs)->Rs) (fun a0 a1 a2 a3 _ a5 a6 a7 x k=>k ⟨a0,a1,a2,a3,x,a5,a6,a7⟩) o⟩
 | 5=>⟨fun o=>Oct.rec (motive:=fun _=>α->(Oct α->Rs)->Rs) (fun a0 a1 a2 a3 a4 _ a6 a7 x k=>k ⟨a0,a1,a2,a3,a4,x,a6,a7⟩) o⟩
 | 6=>⟨fun o=>Oct.rec (motive:=fun _=>α->(Oct α->Rs)->Rs) (fun a0 a1 a2 a3 a4 a5 _ a7 x k=>k ⟨a0,a1,a2,a3,a4,a5,x,a7⟩) o⟩
 | _=>⟨fun o=>Oct.rec (motive:=fun _=>α->(Oct α->Rs)->Rs) (fun a0 a1 a2 a3 a4 a5 a6 _ x k=>k ⟨a0,a1,a2,a3,a4,a5,a6,x⟩) o⟩
structure GetC where run:Tm->(AV->Rs)->Rs
structure SetC where run:Tm->AV->(Tm->Rs)->Rs
def undefA:AV:=.tup []
def getS (t:Nat):GetC :=
 match Nat.ble t 63 with
 | true=>⟨fun tm k=>Tm.rec (motive:=fun _=>(AV->Rs)->Rs) (fun lo _ _ k=>(g1 (Oct AV) (Nat.div t 8)).run lo fun o=>(g1 AV (Nat.mod t 8)).run o k) tm k⟩
 | false=>natPzC GetC t fun p=>⟨fun tm k=>Tm.rec (motive:=fun _=>(AV->Rs)->Rs) (fun _ hi _ k=>hi.getK p (k undefA) k) tm k⟩
def setS (t:Nat):SetC :=
 match Nat.ble t 63 with
 | true=>⟨fun tm v k=>Tm.rec (motive:=fun _=>AV->(Tm->Rs)->Rs) (fun lo hi ml v k=>(s1 (Oct AV) (Nat.div t 8)).run lo (fun o k=>(s2 AV (Nat.mod t 8)).run o v k) fun lo=>k ⟨lo,hi,ml⟩) tm v k⟩
 | false=>natPzC SetC t fun p=>⟨fun tm v k=>Tm.rec (motive:=fun _=>AV->(Tm->Rs)->Rs) (fun lo hi ml v k=>hi.setK p v fun hi=>k ⟨lo,hi,ml⟩) tm v k⟩
def octE {α:Type} (a:α):Oct α:=⟨a,a,a,a,a,a,a,a⟩
def Tm.e:Tm:=⟨⟨⟨.tup [],.tup [],.tup [],.tup [],.tup [],.tup [],.tup [],.tup []⟩,octE undefA,octE undefA,octE undefA,octE undefA,octE undefA,octE undefA,octE undefA⟩,.e,[]⟩
def ifK (b:Bool) (x y:Rs):Rs:=Bool.rec (motive:=fun _=>Rs) y x b
def natF (n:Nat) (k:Nat->Rs):Rs:=Nat.rec (motive:=fun _=>Rs) (k 0) (fun m _=>k (Nat.succ m)) n
def intF (z:Int) (k:Int->Rs):Rs:=Int.rec (motive:=fun _=>Rs) (fun m=>natF m fun m=>k (.ofNat m)) (fun m=>natF m fun m=>k (.negSucc m)) z
def boolF (b:Bool) (k:Bool->Rs):Rs:=Bool.rec (motive:=fun _=>Rs) (k false) (k true) b
def AV.cells (v:AV):List AV :=
 AV.rec (motive_1:=fun _=>List AV) (motive_2:=fun _=>Unit)
  (fun b=>[.bool b])
  (fun k n=>[.int k n])
  (fun l n=>[.str l n])
  (fun k n=>[.float k n])
  (fun p o=>[.ptr p o])
  ([.nilp])
  (fun p o l c=>[.slice p o l c])
  (fun p o l c=>[.oslice p o l c])
  ([.nils])
  (fun p=>[.map p])
  ([.nilmap])
  (fun f a b _ _=>[.func f a b])
  ([.nilfunc])
  (fun t v _=>[.iface t v])
  ([.nilIface])
  (fun cs _=>cs)
  (fun vs _=>[.tup vs])
  (fun b o l c=>[.rsl b o l c])
  (fun b o=>[.rpt b o])
  (fun b=>[.rmp b])
  () (fun _ _ _ _=>()) v
def asInt (v:AV):(IntKind->Int->Rs)->Rs :=
 AV.rec (motive_1:=fun _=>(IntKind->Int->Rs)->Rs) (motive_2:=fun _=>Unit)
  (fun _ _=>.bad 1)
  (fun k n kk=>kk k n)
  (fun _ _ _=>.bad 1)
  (fun _ _ _=>.bad 1)
  (fun _ _ _=>.bad 1)
  (fun _=>.bad 1)
  (fun _ _ _ _ _=>.bad 1)
  (fun _ _ _ _ _=>.bad 1)
  (fun _=>.bad 1)
  (fun _ _=>.bad 1)
  (fun _=>.bad 1)
  (fun _ _ _ _ _ _=>.bad 1)
  (fun _=>.bad 1)
  (fun _ _ _ _=>.bad 1)
  (fun _=>.bad 1)
  (fun _ _ _=>.bad 1)
  (fun _ _ _=>.bad 1)
  (fun _ _ _ _ _=>.bad 1)
  (fun _ _ _=>.bad 1)
  (fun _ _=>.bad 1)
  () (fun _ _ _ _=>()) v
def asBool (v:AV):(Bool->Rs)->Rs :=
 AV.rec (motive_1:=fun _=>(Bool->Rs)->Rs) (motive_2:=fun _=>Unit)
  (fun b kk=>kk b)
  (fun _ _ _=>.bad 2)
  (fun _ _ _=>.bad 2)
  (fun _ _ _=>.bad 2)
  (fun _ _ _=>.bad 2)
  (fun _=>.bad 2)
  (fun _ _ _ _ _=>.bad 2)
  (fun _ _ _ _ _=>.bad 2)
  (fun _=>.bad 2)
  (fun _ _=>.bad 2)
  (fun _=>.bad 2)
  (fun _ _ _ _ _ _=>.bad 2)
  (fun _=>.bad 2)
  (fun _ _ _ _=>.bad 2)
  (fun _=>.bad 2)
  (fun _ _ _=>.bad 2)
  (fun _ _ _=>.bad 2)
  (fun _ _ _ _ _=>.bad 2)
  (fun _ _ _=>.bad 2)
  (fun _ _=>.bad 2)
  () (fun _ _ _ _=>()) v
def asPtr (v:AV):(Pz->Nat->Rs)->Rs :=
 AV.rec (motive_1:=fun _=>(Pz->Nat->Rs)->Rs) (motive_2:=fun _=>Unit)
  (fun _ _=>.bad 3)
  (fun _ _ _=>.bad 3)
  (fun _ _ _=>.bad 3)
  (fun _ _ _=>.bad 3)
  (fun p o kk=>kk p o)
  (fun _=>.bad 3)
  (fun _ _ _ _ _=>.bad 3)
  (fun _ _ _ _ _=>.bad 3)
  (fun _=>.bad 3)
  (fun _ _=>.bad 3)
  (fun _=>.bad 3)
  (fun _ _ _ _ _ _=>.bad 3)
  (fun _=>.bad 3)
  (fun _ _ _ _=>.bad 3)
  (fun _=>.bad 3)
  (fun _ _ _=>.bad 3)
  (fun _ _ _=>.bad 3)
  (fun _ _ _ _ _=>.bad 3)
  (fun _ _ _=>.bad 3)
  (fun _ _=>.bad 3)
  () (fun _ _ _ _=>()) v
def selStr (v:AV):(Rs)->(Nat->Nat->Rs)->Rs :=
 AV.rec (motive_1:=fun _=>(Rs)->(Nat->Nat->Rs)->Rs) (motive_2:=fun _=>Unit)
  (fun _ z _=>z)
  (fun _ _ z _=>z)
  (fun l n _ kk=>kk l n)
  (fun _ _ z _=>z)
  (fun _ _ z _=>z)
  (fun z _=>z)
  (fun _ _ _ _ z _=>z)
  (fun _ _ _ _ z _=>z)
  (fun z _=>z)
  (fun _ z _=>z)
  (fun z _=>z)
  (fun _ _ _ _ _ z _=>z)
  (fun z _=>z)
  (fun _ _ _ z _=>z)
  (fun z _=>z)
  (fun _ _ z _=>z)
  (fun _ _ z _=>z)
  (fun _ _ _ _ z _=>z)
  (fun _ _ z _=>z)
  (fun _ z _=>z)
  () (fun _ _ _ _=>()) v
def selAgg (v:AV):(Rs)->(List AV->Rs)->Rs :=
 AV.rec (motive_1:=fun _=>(Rs)->(List AV->Rs)->Rs) (motive_2:=fun _=>Unit)
  (fun _ z _=>z)
  (fun _ _ z _=>z)
  (fun _ _ z _=>z)
  (fun _ _ z _=>z)
  (fun _ _ z _=>z)
  (fun z _=>z)
  (fun _ _ _ _ z _=>z)
  (fun _ _ _ _ z _=>z)
  (fun z _=>z)
  (fun _ z _=>z)
  (fun z _=>z)
  (fun _ _ _ _ _ z _=>z)
  (fun z _=>z)
  (fun _ _ _ z _=>z)
  (fun z _=>z)
  (fun cs _ _ kk=>kk cs)
  (fun _ _ z _=>z)
  (fun _ _ _ _ z _=>z)
  (fun _ _ z _=>z)
  (fun _ z _=>z)
  () (fun _ _ _ _=>()) v
def selTup (v:AV):(Rs)->(List AV->Rs)->Rs :=
 AV.rec (motive_1:=fun _=>(Rs)->(List AV->Rs)->Rs) (motive_2:=fun _=>Unit)
  (fun _ z _=>z)
  (fun _ _ z _=>z)
  (fun _ _ z _=>z)
  (fun _ _ z _=>z)
  (fun _ _ z _=>z)
  (fun z _=>z)
  (fun _ _ _ _ z _=>z)
  (fun _ _ _ _ z _=>z)
  (fun z _=>z)
  (fun _ z _=>z)
  (fun z _=>z)
  (fun _ _ _ _ _ z _=>z)
  (fun z _=>z)
  (fun _ _ _ z _=>z)
  (fun z _=>z)
  (fun _ _ z _=>z)
  (fun vs _ _ kk=>kk vs)
  (fun _ _ _ _ z _=>z)
  (fun _ _ z _=>z)
  (fun _ z _=>z)
  () (fun _ _ _ _=>()) v
def selSl (v:AV):(Rs)->(Rs)->(Pz->Nat->Nat->Nat->Rs)->(Pz->Nat->Nat->Nat->Rs)->Rs :=
 AV.rec (motive_1:=fun _=>(Rs)->(Rs)->(Pz->Nat->Nat->Nat->Rs)->(Pz->Nat->Nat->Nat->Rs)->Rs) (motive_2:=fun _=>Unit)
  (fun _ z _ _ _=>z)
  (fun _ _ z _ _ _=>z)
  (fun _ _ z _ _ _=>z)
  (fun _ _ z _ _ _=>z)
  (fun _ _ z _ _ _=>z)
  (fun z _ _ _=>z)
  (fun p o l c _ _ ks _=>ks p o l c)
  (fun p o l c _ _ _ ko=>ko p o l c)
  (fun _ zn _ _=>zn)
  (fun _ z _ _ _=>z)
  (fun z _ _ _=>z)
  (fun _ _ _ _ _ z _ _ _=>z)
  (fun z _ _ _=>z)
  (fun _ _ _ z _ _ _=>z)
  (fun z _ _ _=>z)
  (fun _ _ z _ _ _=>z)
  (fun _ _ z _ _ _=>z)
  (fun _ _ _ _ z _ _ _=>z)
  (fun _ _ z _ _ _=>z)
  (fun _ z _ _ _=>z)
  () (fun _ _ _ _=>()) v
def selNum (v:AV):(Rs)->(IntKind->Int->Rs)->(Nat->Nat->Rs)->Rs :=
 AV.rec (motive_1:=fun _=>(Rs)->(IntKind->Int->Rs)->(Nat->Nat->Rs)->Rs) (motive_2:=fun _=>Unit)
  (fun _ z _ _=>z)
  (fun k n _ ki _=>ki k n)
  (fun l n _ _ ks=>ks l n)
  (fun _ _ z _ _=>z)
  (fun _ _ z _ _=>z)
  (fun z _ _=>z)
  (fun _ _ _ _ z _ _=>z)
  (fun _ _ _ _ z _ _=>z)
  (fun z _ _=>z)
  (fun _ z _ _=>z)
  (fun z _ _=>z)
  (fun _ _ _ _ _ z _ _=>z)
  (fun z _ _=>z)
  (fun _ _ _ z _ _=>z)
  (fun z _ _=>z)
  (fun _ _ z _ _=>z)
  (fun _ _ z _ _=>z)
  (fun _ _ _ _ z _ _=>z)
  (fun _ _ z _ _=>z)
  (fun _ z _ _=>z)
  () (fun _ _ _ _=>()) v
def selFun (v:AV):(Rs)->(Fn->List AV->List AV->Rs)->Rs :=
 AV.rec (motive_1:=fun _=>(Rs)->(Fn->List AV->List AV->Rs)->Rs) (motive_2:=fun _=>Unit)
  (fun _ z _=>z)
  (fun _ _ z _=>z)
  (fun _ _ z _=>z)
  (fun _ _ z _=>z)
  (fun _ _ z _=>z)
  (fun z _=>z)
  (fun _ _ _ _ z _=>z)
  (fun _ _ _ _ z _=>z)
  (fun z _=>z)
  (fun _ z _=>z)
  (fun z _=>z)
  (fun f a b _ _ _ kk=>kk f a b)
  (fun z _=>z)
  (fun _ _ _ z _=>z)
  (fun z _=>z)
  (fun _ _ z _=>z)
  (fun _ _ z _=>z)
  (fun _ _ _ _ z _=>z)
  (fun _ _ z _=>z)
  (fun _ z _=>z)
  () (fun _ _ _ _=>()) v
def selPF (v:AV):(Rs)->(Pz->Nat->Rs)->(Fn->List AV->List AV->Rs)->Rs :=
 AV.rec (motive_1:=fun _=>(Rs)->(Pz->Nat->Rs)->(Fn->List AV->List AV->Rs)->Rs) (motive_2:=fun _=>Unit)
  (fun _ z _ _=>z)
  (fun _ _ z _ _=>z)
  (fun _ _ z _ _=>z)
  (fun _ _ z _ _=>z)
  (fun p o _ kp _=>kp p o)
  (fun z _ _=>z)
  (fun _ _ _ _ z _ _=>z)
  (fun _ _ _ _ z _ _=>z)
  (fun z _ _=>z)
  (fun _ z _ _=>z)
  (fun z _ _=>z)
  (fun f a b _ _ _ _ kf=>kf f a b)
  (fun z _ _=>z)
  (fun _ _ _ z _ _=>z)
  (fun z _ _=>z)
  (fun _ _ z _ _=>z)
  (fun _ _ z _ _=>z)
  (fun _ _ _ _ z _ _=>z)
  (fun _ _ z _ _=>z)
  (fun _ z _ _=>z)
  () (fun _ _ _ _=>()) v
def selBz (v:AV):(Rs)->(Bool->Rs)->Rs :=
 AV.rec (motive_1:=fun _=>(Rs)->(Bool->Rs)->Rs) (motive_2:=fun _=>Unit)
  (fun b _ kb=>kb b)
  (fun _ _ z _=>z)
  (fun _ _ z _=>z)
  (fun _ _ z _=>z)
  (fun _ _ z _=>z)
  (fun z _=>z)
  (fun _ _ _ _ z _=>z)
  (fun _ _ _ _ z _=>z)
  (fun z _=>z)
  (fun _ z _=>z)
  (fun z _=>z)
  (fun _ _ _ _ _ z _=>z)
  (fun z _=>z)
  (fun _ _ _ z _=>z)
  (fun z _=>z)
  (fun _ _ z _=>z)
  (fun _ _ z _=>z)
  (fun _ _ _ _ z _=>z)
  (fun _ _ z _=>z)
  (fun _ z _=>z)
  () (fun _ _ _ _=>()) v
def selMp (v:AV):(Rs)->(Rs)->(Pz->Rs)->Rs :=
 AV.rec (motive_1:=fun _=>(Rs)->(Rs)->(Pz->Rs)->Rs) (motive_2:=fun _=>Unit)
  (fun _ z _ _=>z)
  (fun _ _ z _ _=>z)
  (fun _ _ z _ _=>z)
  (fun _ _ z _ _=>z)
  (fun _ _ z _ _=>z)
  (fun z _ _=>z)
  (fun _ _ _ _ z _ _=>z)
  (fun _ _ _ _ z _ _=>z)
  (fun z _ _=>z)
  (fun p _ _ km=>km p)
  (fun _ zn _=>zn)
  (fun _ _ _ _ _ z _ _=>z)
  (fun z _ _=>z)
  (fun _ _ _ z _ _=>z)
  (fun z _ _=>z)
  (fun _ _ z _ _=>z)
  (fun _ _ z _ _=>z)
  (fun _ _ _ _ z _ _=>z)
  (fun _ _ z _ _=>z)
  (fun _ z _ _=>z)
  () (fun _ _ _ _=>()) v
def asNat (v:AV) (k:Nat->Rs):Rs:=asInt v fun _ n=>Int.rec (motive:=fun _=>Rs) k (fun _=>.bad 4) n
def nthK {α:Type} (r:Nat):List α->(α->Rs)->Rs :=
 Nat.rec (motive:=fun _=>List α->(α->Rs)->Rs) (fun l k=>List.rec (motive:=fun _=>Rs) (.bad 5) (fun v _ _=>k v) l)
  (fun _ ih l k=>List.rec (motive:=fun _=>Rs) (.bad 5) (fun _ t _=>ih t k) l) r
def overK (vs:List AV):List AV->(List AV->Rs)->Rs :=
 List.rec (motive:=fun _=>List AV->(List AV->Rs)->Rs) (fun l k=>k l)
  (fun v _ ih l k=>List.rec (motive:=fun _=>Rs) (.bad 6) (fun _ t _=>ih t fun t=>k (v::t)) l) vs
def spliceK (r:Nat) (vs:List AV):List AV->(List AV->Rs)->Rs :=
 Nat.rec (motive:=fun _=>List AV->(List AV->Rs)->Rs) (fun l k=>overK vs l k)
  (fun _ ih l k=>List.rec (motive:=fun _=>Rs) (.bad 6) (fun x t _=>ih t fun t=>k (x::t)) l) r
def takeK (n:Nat):List AV->(List AV->Rs)->Rs :=
 Nat.rec (motive:=fun _=>List AV->(List AV->Rs)->Rs) (fun _ k=>k [])
  (fun _ ih l k=>List.rec (motive:=fun _=>Rs) (.bad 7) (fun x t _=>ih t fun t=>k (x::t)) l) n
def dropK (n:Nat):List AV->(List AV->Rs)->Rs :=
 Nat.rec (motive:=fun _=>List AV->(List AV->Rs)->Rs) (fun l k=>k l)
  (fun _ ih l k=>List.rec (motive:=fun _=>Rs) (.bad 7) (fun _ t _=>ih t k) l) n
def absStr (l:List UInt8):Nat:=l.foldl (fun n b=>n*256+b.toNat) 0
def okFn:Fn->Bool
 | .yield _=>false
 | _=>true
def absV:Nat->Value->Option AV
 | 0,_=>none
 | _+1,.bool b=>some (.bool b)
 | _+1,.int k n=>some (.int k n)
 | _+1,.float k n=>some (.float k n)
 | _+1,.string s=>some (.str s.data.toList.length (absStr s.data.toList))
 | _+1,.pointer none=>some .nilp
 | _+1,.slice none 0 0=>some .nils
 | _+1,.map none=>some .nilmap
 | _+1,.nilFunc=>some .nilfunc
 | _+1,.nilIface=>some .nilIface
 | d+1,.func fn first captured =>
   match okFn fn,first.toList.mapM (absV d),captured.toList.mapM (absV d) with
   | true,some a,some b=>some (.func fn a b)
   | _,_,_=>none
 | d+1,.agg cs=>(cs.toList.mapM (absV d)).map .agg
 | d+1,.tuple cs=>(cs.toList.mapM (absV d)).map .tup
 | _,_=>none
def selFam (o:AO):(Nat->Bool->Rs)->Rs :=
 AO.rec (motive:=fun _=>(Nat->Bool->Rs)->Rs) (fun _ _ _ _ _=>.bad 12) (fun _ _ _ _ _ _ _ _=>.bad 12) (fun e s kk=>kk e s) (fun _ _ _=>.bad 12) (fun _ _ _ _ _=>.bad 12) (fun _ _ _ _ _ _ _ _=>.bad 12) (fun _=>.bad 12) (fun _=>.bad 12) o
def selRow (o:AO):(Nat->Nat->TypeId->Tr (List AV)->Rs)->(Pz->Nat->Bool->Nat->Nat->TypeId->Tr (List AV)->Rs)->Rs :=
 AO.rec (motive:=fun _=>(Nat->Nat->TypeId->Tr (List AV)->Rs)->(Pz->Nat->Bool->Nat->Nat->TypeId->Tr (List AV)->Rs)->Rs)
  (fun es n el c ka _=>ka es n el c) (fun f ep tip es n el c _ ks=>ks f ep tip es n el c) (fun _ _ _ _=>.bad 14) (fun _ _ _ _=>.bad 14) (fun _ _ _ _ _ _=>.bad 14) (fun _ _ _ _ _ _ _ _ _=>.bad 14) (fun _ _=>.bad 14) (fun _ _=>.bad 14) o
def selMap (o:AO):(List ME->Nat->Rs)->Rs :=
 AO.rec (motive:=fun _=>(List ME->Nat->Rs)->Rs) (fun _ _ _ _ _=>.bad 103) (fun _ _ _ _ _ _ _ _=>.bad 103) (fun _ _ _=>.bad 103) (fun es c kk=>kk es c) (fun _ _ _ _ _=>.bad 103) (fun _ _ _ _ _ _ _ _=>.bad 103) (fun _=>.bad 103) (fun _=>.bad 103) o
def selIter (o:AO):(Pz->Nat->List Nat->Nat->Rs)->Rs :=
 AO.rec (motive:=fun _=>(Pz->Nat->List Nat->Nat->Rs)->Rs) (fun _ _ _ _ _=>.bad 260) (fun _ _ _ _ _ _ _ _=>.bad 260) (fun _ _ _=>.bad 260) (fun _ _ _=>.bad 260) (fun m s l c kk=>kk m s l c) (fun _ _ _ _ _ _ _ _=>.bad 260) (fun _=>.bad 260) (fun _=>.bad 260) o
def selLoop (o:AO):(Nat->Nat->Tm->Array Tmp->Code->Code->LS->Rs)->Rs :=
 AO.rec (motive:=fun _=>(Nat->Nat->Tm->Array Tmp->Code->Code->LS->Rs)->Rs) (fun _ _ _ _ _=>.bad 290) (fun _ _ _ _ _ _ _ _=>.bad 290) (fun _ _ _=>.bad 290) (fun _ _ _=>.bad 290) (fun _ _ _ _ _=>.bad 290) (fun f nt tm ps a b st kk=>kk f nt tm ps a b st) (fun _=>.bad 290) (fun _=>.bad 290) o
def isMark (o:AO) (r:Rs):Rs :=
 AO.rec (motive:=fun _=>Rs) (fun _ _ _ _=>.bad 291) (fun _ _ _ _ _ _ _=>.bad 291) (fun _ _=>.bad 291) (fun _ _=>.bad 291) (fun _ _ _ _=>.bad 291) (fun _ _ _ _ _ _ _=>.bad 291) r (.bad 291) o
def liveK (hp:Tr AO) (f:Pz) (ep:Nat) (k:Bool->Rs):Rs :=
 hp.getK f (.bad 10) fun o=>selFam o fun e solo=>ifK (Nat.beq e ep) (k solo) (.bad 11)
def rowK (hp:Tr AO) (id:Pz) (k:Nat->Nat->Tr (List AV)->Rs):Rs :=
 hp.getK id (.bad 13) fun o=>selRow o (fun es n _ c=>k es n c) fun f ep _ es n _ c=>liveK hp f ep fun _=>k es n c
def elemK (es n:Nat) (c:Tr (List AV)) (off:Nat) (k:Nat->Nat->List AV->Rs):Rs :=
 natF (Nat.div off es) fun q=>natF (Nat.mod off es) fun r=>ifK (Nat.blt q n) (c.getK (natPz q) (.bad 15) fun l=>k q r l) (.bad 16)
def readCell (hp:Tr AO) (id:Pz) (off:Nat) (k:AV->Rs):Rs :=
 rowK hp id fun es n c=>elemK es n c off fun _ r l=>nthK r l k
def readCells (hp:Tr AO) (id:Pz) (off sz:Nat) (k:List AV->Rs):Rs :=
 rowK hp id fun es n c=>elemK es n c off fun _ r l =>
  ifK (Nat.beq sz es&&Nat.beq r 0) (k l) (dropK r l fun l=>takeK sz l k)
def oneB (v:AV):Bool :=
 AV.rec (motive_1:=fun _=>Bool) (motive_2:=fun _=>Unit)
  (fun _=>true)
  (fun _ _=>true)
  (fun _ _=>true)
  (fun _ _=>true)
  (fun _ _=>true)
  (true)
  (fun _ _ _ _=>true)
  (fun _ _ _ _=>true)
  (true)
  (fun _=>true)
  (true)
  (fun _ _ _ _ _=>true)
  (true)
  (fun _ _ _=>true)
  (true)
  (fun _ _=>false)
  (fun _ _=>false)
  (fun _ _ _ _=>true)
  (fun _ _=>true)
  (fun _=>true)
  () (fun _ _ _ _=>()) v
def flat (vs:List AV):Bool:=List.rec (motive:=fun _=>Bool) true (fun v _ ih=>Bool.rec (motive:=fun _=>Bool) false ih (oneB v)) vs
def writeCells (hp:Tr AO) (id:Pz) (off:Nat) (vs:List AV) (k:Tr AO->Rs):Rs :=
 ifK (flat vs) (hp.getK id (.bad 17) fun o=>selRow o (fun es n el c=>elemK es n c off fun q r l=>spliceK r vs l fun l=>c.setK (natPz q) l fun c=>hp.setK id (.arr es n el c) k)
     (fun f ep tip es n el c=>liveK hp f ep fun solo =>
      elemK es n c off fun q r l=>spliceK r vs l fun l=>c.setK (natPz q) l fun c =>
       ifK solo (hp.setK id (.seg f ep tip es n el c) k)
        (natF (ep+1) fun ep=>hp.setK f (.fam ep true) fun hp=>hp.setK id (.seg f ep tip es n el c) k))) (.bad 19)
def newObj (hp:Tr AO) (nx:Pz) (o:AO) (k:Pz->Tr AO->Pz->Rs):Rs :=
 hp.setK nx o fun hp=>nx.succK fun nx'=>k nx hp nx'
def newArr (hp:Tr AO) (nx:Pz) (es n:Nat) (el:TypeId) (c:Tr (List AV)) (k:Pz->Tr AO->Pz->Rs):Rs :=
 newObj hp nx (.arr es n el c) k
def one (l:List AV):Tr (List AV):=.n .e (some l) .e
def layK (ls:List (List AV)):Nat->Tr (List AV)->(Tr (List AV)->Rs)->Rs :=
 List.rec (motive:=fun _=>Nat->Tr (List AV)->(Tr (List AV)->Rs)->Rs) (fun _ c k=>k c)
  (fun l _ ih q c k=>c.setK (natPz q) l fun c=>natF (q+1) fun q=>ih q c k) ls
def readElems (hp:Tr AO) (id:Pz) (sz:Nat) (n:Nat):Nat->(List (List AV)->Rs)->Rs :=
 Nat.rec (motive:=fun _=>Nat->(List (List AV)->Rs)->Rs) (fun _ k=>k [])
  (fun _ ih off k=>readCells hp id off sz fun l=>natF (off+sz) fun off=>ih off fun r=>k (l::r)) n
def writeElems (id:Pz) (sz:Nat) (ls:List (List AV)):Nat->Tr AO->(Tr AO->Rs)->Rs :=
 List.rec (motive:=fun _=>Nat->Tr AO->(Tr AO->Rs)->Rs) (fun _ hp k=>k hp)
  (fun l _ ih off hp k=>ifK (Nat.beq l.length sz) (writeCells hp id off l fun hp=>natF (off+sz) fun off=>ih off hp k) (.bad 9)) ls
def szOf (P:Program) (t:TypeId):Nat:=((P.info? t).map (·.size)).getD 0
def zeroOf (P:Program) (t:TypeId):Option AV:=match P.info? t with | some i=>i.zero.bind (absV 8) | none=>none
def aggT (P:Program) (t:TypeId):Bool:=match P.underlying t with | some (.struct _) | some (.array _ _)=>true | _=>false
def knownT (P:Program) (t:TypeId):Bool:=(P.underlying t).isSome
structure EvB where run:Tm->(AV->Rs)->Rs
def evB (x:Operand):EvB :=
 match x with
 | .tmp t=>⟨(getS t).run⟩
 | .const v=>match absV 8 v with
   | some a=>⟨fun _ k=>k a⟩
   | none=>⟨fun _ _=>.bad 20⟩
 | .global _=>⟨fun _ _=>.bad 21⟩
 | .func f=>⟨fun _ k=>k (.func (.func f) [] [])⟩
def evsB (xs:List Operand):Tm->(List AV->Rs)->Rs :=
 List.rec (motive:=fun _=>Tm->(List AV->Rs)->Rs) (fun _ k=>k []) (fun x _ ih tm k=>(evB x).run tm fun v=>ih tm fun vs=>k (v::vs)) xs
structure CallT where
 run:Nat->List AV->Tr AO->Pz->(AV->Tr AO->Pz->Rs)->Rs
 code:Nat->Nat->Code->Tm->Tr AO->Pz->(Ex->Tm->Tr AO->Pz->Rs)->Rs
structure OB where run:CallT->Tm->Tr AO->Pz->(AV->Tr AO->Pz->Rs)->Rs
def badB (n:Nat):OB:=⟨fun _ _ _ _ _=>.bad n⟩
def pureB (f:Tm->(AV->Rs)->Rs):OB:=⟨fun _ tm hp nx k=>f tm fun v=>k v hp nx⟩
def conc (v:AV):Option Value :=
 match v with
 | .bool b=>some (.bool b)
 | .int k n=>some (.int k n)
 | .float k n=>some (.float k n)
 | _=>none
def scal (s:Sem Value) (k:AV->Rs):Rs :=
 match s with
 | .pure (.int kd n)=>intF n fun n=>k (.int kd n)
 | .pure (.bool b)=>boolF b fun b=>k (.bool b)
 | .pure (.float f b)=>natF b fun b=>k (.float f b)
 | _=>.bad 30
def wrapF (kd:IntKind) (z:Int) (k:Int->Rs):Rs :=
 match kd with
 | .i64=>Int.rec (motive:=fun _=>Rs) (fun m=>ifK (Nat.ble m 9223372036854775807) (natF m fun m=>k (.ofNat m)) (intF (IntKind.i64.wrap z) k))
   (fun m=>ifK (Nat.ble m 9223372036854775807) (natF m fun m=>k (.negSucc m)) (intF (IntKind.i64.wrap z) k)) z
 | kd=>intF (kd.wrap z) k
def intOp (op:BinOp) (t:TypeId) (kd:IntKind) (a:Int) (kd':IntKind) (b:Int) (k:AV->Rs):Rs :=
 match op with
 | .add=>ifK (decide (kd=kd')) (wrapF kd (Int.add a b) fun z=>k (.int kd z)) (.bad 31)
 | .sub=>ifK (decide (kd=kd')) (wrapF kd (Int.sub a b) fun z=>k (.int kd z)) (.bad 31)
 | .eql=>ifK (decide (kd=kd')) (boolF (a==b) fun b=>k (.bool b)) (.bad 31)
 | .neq=>ifK (decide (kd=kd')) (boolF (a != b) fun b=>k (.bool b)) (.bad 31)
 | .lss=>ifK (decide (kd=kd')) (boolF (decide (a<b)) fun b=>k (.bool b)) (.bad 31)
 | .leq=>ifK (decide (kd=kd')) (boolF (decide (a<=b)) fun b=>k (.bool b)) (.bad 31)
 | .gtr=>ifK (decide (kd=kd')) (boolF (decide (a > b)) fun b=>k (.bool b)) (.bad 31)
 | .geq=>ifK (decide (kd=kd')) (boolF (decide (a ≥ b)) fun b=>k (.bool b)) (.bad 31)
 | op=>scal (binOp op t (.int kd a) (.int kd' b)) k
def pow8 (n:Nat):Nat:=Nat.shiftLeft 1 (8*n)
def strNorm (len n:Nat):Nat:=Nat.mod n (pow8 len)
def strEq (l m l' m':Nat):Bool:=Nat.beq l l'&&Nat.beq (strNorm l m) (strNorm l' m')
def strOp (op:BinOp) (l m l' m':Nat) (k:AV->Rs):Rs :=
 match op with
 | .add=>natF (l+l') fun n=>ifK (Nat.ble n 4294967296) (natF (m*pow8 l'+strNorm l' m') fun x=>k (.str n x)) (.bad 32)
 | .eql=>boolF (strEq l m l' m') fun b=>k (.bool b)
 | .neq=>boolF (!strEq l m l' m') fun b=>k (.bool b)
 | _=>.bad 33
def eqvF (P:Program):Nat->TypeId->AV->AV->(Bool->Rs)->Rs
 | 0,_,_,_,_=>.bad 34
 | d+1,t,x,y,k =>
   match P.underlying t,x,y with
   | some .bool,.bool a,.bool b=>boolF (a==b) k
   | some (.int _),.int ka a,.int kb b=>ifK (decide (ka=kb)) (boolF (a==b) k) (.bad 35)
   | some .string,.str l m,.str l' m'=>boolF (strEq l m l' m') k
   | some (.pointer _),.nilp,.nilp=>k true
   | some (.pointer _),.nilp,.ptr _ _=>k false
   | some (.pointer _),.ptr _ _,.nilp=>k false
   | some (.slice _),.nils,.nils=>k true
   | some (.slice _),.nils,.slice _ _ _ _=>k false
   | some (.slice _),.nils,.oslice _ _ _ _=>k false
   | some (.slice _),.slice _ _ _ _,.nils=>k false
   | some (.slice _),.oslice _ _ _ _,.nils=>k false
   | some (.map _ _),.nilmap,.nilmap=>k true
   | some (.map _ _),.nilmap,.map _=>k false
   | some (.map _ _),.map _,.nilmap=>k false
   | some (.func _ _ _),.nilfunc,.nilfunc=>k true
   | some (.func _ _ _),.nilfunc,.func _ _ _=>k false
   | some (.func _ _ _),.func _ _ _,.nilfunc=>k false
   | some (.struct fields),.agg xs,.agg ys =>
     ifK (P.stoodInHeld t) (.bad 36)
      (List.rec (motive:=fun _=>(Bool->Rs)->Rs) (fun k=>k true)
       (fun f _ ih k=>ifK (f.name == "_") (ih k)
        (dropK f.offset xs fun a=>dropK f.offset ys fun b=>natF (szOf P f.type) fun sz=>takeK sz a fun a=>takeK sz b fun b =>
         ifK (aggT P f.type) (eqvF P d f.type (.agg a) (.agg b) fun e=>ifK e (ih k) (k false))
          (nthK 0 a fun a=>nthK 0 b fun b=>eqvF P d f.type a b fun e=>ifK e (ih k) (k false)))) fields.toList k)
   | _,_,_=>.bad 37
def binK (P:Program) (op:BinOp) (t:TypeId) (x y:AV) (k:AV->Rs):Rs :=
 match x,y with
 | .int kd a,.int kd' b=>intOp op t kd a kd' b k
 | .str l m,.str l' m'=>strOp op l m l' m' k
 | .float _ _,_=>.bad 38
 | x,y=>match op with
   | .eql=>eqvF P 9 t x y fun b=>k (.bool b)
   | .neq=>eqvF P 9 t x y fun b=>boolF (!b) fun b=>k (.bool b)
   | _=>.bad 39
def isEq (op:BinOp):Bool:=match op with | .eql | .neq=>true | _=>false
def eqOkT (P:Program) (op:BinOp) (t:TypeId):Bool:=!isEq op||!P.eqGuardType P.depth t
def kindEq (a:IntKind):IntKind->Bool :=
 IntKind.rec (motive:=fun _=>IntKind->Bool)
  (fun b=>IntKind.rec (motive:=fun _=>Bool) true false false false false false false false b)
  (fun b=>IntKind.rec (motive:=fun _=>Bool) false true false false false false false false b)
  (fun b=>IntKind.rec (motive:=fun _=>Bool) false false true false false false false false b)
  (fun b=>IntKind.rec (motive:=fun _=>Bool) false false false true false false false false b)
  (fun b=>IntKind.rec (motive:=fun _=>Bool) false false false false true false false false b)
  (fun b=>IntKind.rec (motive:=fun _=>Bool) false false false false false true false false b)
  (fun b=>IntKind.rec (motive:=fun _=>Bool) false false false false false false true false b)
  (fun b=>IntKind.rec (motive:=fun _=>Bool) false false false false false false false true b) a
def wrapS (mx:Nat) (kd:IntKind) (z:Int) (k:Int->Rs):Rs :=
 Int.rec (motive:=fun _=>Rs) (fun m=>ifK (Nat.ble m mx) (natF m fun m=>k (.ofNat m)) (intF (kd.wrap (.ofNat m)) k))
  (fun m=>ifK (Nat.ble m mx) (natF m fun m=>k (.negSucc m)) (intF (kd.wrap (.negSucc m)) k)) z
def wrapU (mx:Nat) (kd:IntKind) (z:Int) (k:Int->Rs):Rs :=
 Int.rec (motive:=fun _=>Rs) (fun m=>ifK (Nat.ble m mx) (natF m fun m=>k (.ofNat m)) (intF (kd.wrap (.ofNat m)) k))
  (fun m=>intF (kd.wrap (.negSucc m)) k) z
def wrapC (kd:IntKind):Int->(Int->Rs)->Rs :=
 IntKind.rec (motive:=fun _=>Int->(Int->Rs)->Rs) (wrapS 127 .i8) (wrapS 32767 .i16) (wrapS 2147483647 .i32) (wrapS 9223372036854775807 .i64) (wrapU 255 .u8) (wrapU 65535 .u16) (wrapU 4294967295 .u32) (wrapU 18446744073709551615 .u64) kd
def addK (a:Int):Int->(Int->Rs)->Rs :=
 Int.rec (motive:=fun _=>Int->(Int->Rs)->Rs)
  (fun m b k=>Int.rec (motive:=fun _=>Rs) (fun n=>natF (Nat.add m n) fun s=>k (.ofNat s)) (fun n=>intF (Int.add (.ofNat m) (.negSucc n)) k) b)
  (fun m b k=>intF (Int.add (.negSucc m) b) k) a
def subK (a:Int):Int->(Int->Rs)->Rs :=
 Int.rec (motive:=fun _=>Int->(Int->Rs)->Rs)
  (fun m b k=>Int.rec (motive:=fun _=>Rs) (fun n=>ifK (Nat.ble n m) (natF (Nat.sub m n) fun s=>k (.ofNat s)) (intF (Int.sub (.ofNat m) (.ofNat n)) k)) (fun n=>intF (Int.sub (.ofNat m) (.negSucc n)) k) b)
  (fun m b k=>intF (Int.sub (.negSucc m) b) k) a
def ltK (a:Int):Int->(Bool->Rs)->Rs :=
 Int.rec (motive:=fun _=>Int->(Bool->Rs)->Rs)
  (fun m b k=>Int.rec (motive:=fun _=>Rs) (fun n=>boolF (Nat.ble (Nat.succ m) n) k) (fun n=>boolF (decide (Int.ofNat m < .negSucc n)) k) b)
  (fun m b k=>boolF (decide (Int.negSucc m<b)) k) a
def leK (a:Int):Int->(Bool->Rs)->Rs :=
 Int.rec (motive:=fun _=>Int->(Bool->Rs)->Rs)
  (fun m b k=>Int.rec (motive:=fun _=>Rs) (fun n=>boolF (Nat.ble m n) k) (fun n=>boolF (decide (Int.ofNat m<=.negSucc n)) k) b)
  (fun m b k=>boolF (decide (Int.negSucc m<=b)) k) a
def eqK (a:Int):Int->(Bool->Rs)->Rs :=
 Int.rec (motive:=fun _=>Int->(Bool->Rs)->Rs)
  (fun m b k=>Int.rec (motive:=fun _=>Rs) (fun n=>boolF (Nat.beq m n) k) (fun n=>k false) b)
  (fun m b k=>Int.rec (motive:=fun _=>Rs) (fun n=>k false) (fun n=>boolF (Nat.beq m n) k) b) a
def strEqK (l m l' m':Nat) (k:Bool->Rs):Rs:=ifK (Nat.beq l l') (boolF (Nat.beq (strNorm l m) (strNorm l' m')) k) (k false)
structure BinC where run:AV->AV->(AV->Rs)->Rs
def notK (k:AV->Rs) (b:Bool):Rs:=Bool.rec (motive:=fun _=>Rs) (k (.bool true)) (k (.bool false)) b
def binS (P:Program) (op:BinOp) (t:TypeId):BinC :=
 match op with
 | .add=>⟨fun x y k=>selNum x (.bad 39) (fun kd a=>asInt y fun kd' b=>ifK (kindEq kd kd') (addK a b fun z=>wrapC kd z fun z=>k (.int kd z)) (.bad 31)) fun l m=>selStr y (.bad 39) fun l' m'=>strOp .add l m l' m' k⟩
 | .sub=>⟨fun x y k=>asInt x fun kd a=>asInt y fun kd' b=>ifK (kindEq kd kd') (subK a b fun z=>wrapC kd z fun z=>k (.int kd z)) (.bad 31)⟩
 | .lss=>⟨fun x y k=>asInt x fun kd a=>asInt y fun kd' b=>ifK (kindEq kd kd') (ltK a b fun b=>k (.bool b)) (.bad 31)⟩
 | .gtr=>⟨fun x y k=>asInt x fun kd a=>asInt y fun kd' b=>ifK (kindEq kd kd') (ltK b a fun b=>k (.bool b)) (.bad 31)⟩
 | .leq=>⟨fun x y k=>asInt x fun kd a=>asInt y fun kd' b=>ifK (kindEq kd kd') (leK a b fun b=>k (.bool b)) (.bad 31)⟩
 | .geq=>⟨fun x y k=>asInt x fun kd a=>asInt y fun kd' b=>ifK (kindEq kd kd') (leK b a fun b=>k (.bool b)) (.bad 31)⟩
 | .eql=>⟨fun x y k=>selNum x (binK P .eql t x y k) (fun kd a=>asInt y fun kd' b=>ifK (kindEq kd kd') (eqK a b fun b=>k (.bool b)) (.bad 31)) fun l m=>selStr y (.bad 39) fun l' m'=>strEqK l m l' m' fun b=>k (.bool b)⟩
 | .neq=>⟨fun x y k=>selNum x (binK P .neq t x y k) (fun kd a=>asInt y fun kd' b=>ifK (kindEq kd kd') (eqK a b (notK k)) (.bad 31)) fun l m=>selStr y (.bad 39) fun l' m'=>strEqK l m l' m' (notK k)⟩
 | op=>⟨fun x y k=>binK P op t x y k⟩
def fieldOff (P:Program) (t:TypeId) (f:Nat):Option (Nat × TypeId) :=
 match P.underlying t with
 | some (.struct fs)=>(fs[f]?).map fun f=>(f.offset,f.type)
 | _=>none
def fillK (place:Nat->Option (Nat × Nat)) (ps:List (Nat × Operand)):Tm->List AV->(List AV->Rs)->Rs :=
 List.rec (motive:=fun _=>Tm->List AV->(List AV->Rs)->Rs) (fun _ cs k=>k cs)
  (fun p _ ih tm cs k=>match place p.1 with
   | none=>.bad 40
   | some (off,size)=>(evB p.2).run tm fun v=>ifK (Nat.beq v.cells.length size) (spliceK off v.cells cs fun cs=>ih tm cs k) (.bad 41)) ps
def repl (n:Nat) (l:List AV):List AV:=Nat.rec (motive:=fun _=>List AV) [] (fun _ ih=>l++ih) n
def chunkK (sz:Nat) (n:Nat):List AV->Nat->Tr (List AV)->(Tr (List AV)->Rs)->Rs :=
 Nat.rec (motive:=fun _=>List AV->Nat->Tr (List AV)->(Tr (List AV)->Rs)->Rs) (fun _ _ c k=>k c)
  (fun _ ih cs q c k=>takeK sz cs fun l=>dropK sz cs fun r=>c.setK (natPz q) l fun c=>natF (q+1) fun q=>ih r q c k) n
def fullK (n:Nat) (l:List AV):Nat->Tr (List AV)->(Tr (List AV)->Rs)->Rs :=
 Nat.rec (motive:=fun _=>Nat->Tr (List AV)->(Tr (List AV)->Rs)->Rs) (fun _ c k=>k c)
  (fun _ ih q c k=>c.setK (natPz q) l fun c=>natF (q+1) fun q=>ih q c k) n
def optNat (x:Option EvB) (tm:Tm) (d:Nat) (k:Nat->Rs):Rs :=
 match x with
 | none=>k d
 | some e=>e.run tm fun v=>asNat v k
def sliceK (P:Program) (t:TypeId) (x:EvB) (lo hi mx:Option EvB):OB :=
 match P.underlying t with
 | some .string=>match mx with
   | none=>⟨fun _ tm hp nx k=>x.run tm fun v=>selStr v (.bad 51) fun len n=>optNat hi tm len fun h=>optNat lo tm 0 fun l=>ifK (Nat.ble l h&&Nat.ble h len) (natF (Nat.sub h l) fun ln=>natF (Nat.div n (pow8 (Nat.sub len h))) fun m=>k (.str ln m) hp nx) (.bad 50)⟩
   | some _=>badB 52
 | some (.slice el)=>match P.info? el,mx with
   | none,_=>badB 62
   | some _,some _=>badB 49
   | some _,none=>⟨fun _ tm hp nx k=>x.run tm fun v=>match v with
     | .slice id off len cap=>optNat hi tm len fun h=>optNat lo tm 0 fun l =>
       ifK (Nat.ble l h&&Nat.ble h cap)
        (natF (Nat.sub h l) fun ln=>natF (Nat.sub cap l) fun c=>ifK (Nat.beq cap l) (k (.slice id off ln c) hp nx) (natF (off+l*szOf P el) fun off=>k (.slice id off ln c) hp nx)) (.bad 53)
     | .oslice id off len skip=>optNat hi tm len fun h=>optNat lo tm 0 fun l =>
       hp.getK id (.bad 55) fun o=>match o with
       | .seg f ep tip es n el' c=>liveK hp f ep fun _=>ifK (Nat.ble l h&&Nat.ble (skip+h) n)
         (ifK (Nat.beq l 0&&Nat.blt 0 h) (k (.oslice id off h skip) hp nx)
          (ifK (Nat.blt (skip+l) n) (natF (Nat.sub h l) fun ln=>natF (off+l*szOf P el) fun off=>natF (skip+l) fun skip=>k (.oslice id off ln skip) hp nx)
           (ifK (Nat.beq es (szOf P el)&&Nat.beq off (skip*es))
             (hp.setK f (.fam ep false) fun hp=>hp.setK id (.seg f ep false es n el' c) fun hp =>
              newObj hp nx (.seg f ep tip es 0 el' .e) fun id hp nx=>k (.oslice id 0 0 0) hp nx) (.bad 56)))) (.bad 58)
       | _=>.bad 57
     | .nils=>optNat hi tm 0 fun h=>optNat lo tm 0 fun l=>ifK (Nat.beq h 0&&Nat.beq l 0) (k .nils hp nx) (.bad 59)
     | _=>.bad 60⟩
 | _=>badB 61
def grow (hp:Tr AO) (nx:Pz) (el:TypeId) (sz:Nat) (ls:List (List AV)) (k:AV->Tr AO->Pz->Rs):Rs :=
 natF ls.length fun n=>layK ls 0 .e fun c =>
  newObj hp nx (.fam 0 true) fun f hp nx=>newObj hp nx (.seg f 0 true sz n el c) fun id hp nx=>k (.oslice id 0 n 0) hp nx
def growOn (hp:Tr AO) (nx:Pz) (el:TypeId) (sz:Nat) (c0:Tr (List AV)) (len:Nat) (ls:List (List AV)) (k:AV->Tr AO->Pz->Rs):Rs :=
 natF (len+ls.length) fun n=>layK ls len c0 fun c =>
  newObj hp nx (.fam 0 true) fun f hp nx=>newObj hp nx (.seg f 0 true sz n el c) fun id hp nx=>k (.oslice id 0 n 0) hp nx
def tailK (hp:Tr AO) (nx id f:Pz) (ep:Nat) (tip:Bool) (es need n0:Nat) (el:TypeId) (c c':Tr (List AV)) (k:AV->Tr AO->Pz->Rs):Rs :=
 natF (Bool.rec (motive:=fun _=>Nat) (ep+1) ep tip) fun ep=>natF n0 fun n0 =>
  hp.setK f (.fam ep false) fun hp=>hp.setK id (.seg f ep false es n0 el c) fun hp =>
   newObj hp nx (.seg f ep true es need el c') fun id hp nx=>k (.oslice id 0 need 0) hp nx
def smallRow (n sz:Nat):Bool:=Nat.ble n 1000000&&Nat.ble sz 10000
def evenK (sz:Nat) (ls:List (List AV)):Bool:=List.rec (motive:=fun _=>Bool) true (fun l _ ih=>Bool.rec (motive:=fun _=>Bool) false ih (Nat.beq l.length sz&&flat l)) ls
def appendK (hp:Tr AO) (nx:Pz) (el:TypeId) (sz:Nat) (s:AV) (ls:List (List AV)) (k:AV->Tr AO->Pz->Rs):Rs :=
 ifK (evenK sz ls) (natF ls.length fun m=>match s with
 | .nils=>ifK (Nat.beq m 0) (k .nils hp nx) (ifK (smallRow m sz) (grow hp nx el sz ls k) (.bad 70))
 | .slice id off len cap=>natF (len+m) fun need =>
   ifK (Nat.ble need cap) (writeElems id sz ls (off+len*sz) hp fun hp=>k (.slice id off need cap) hp nx)
    (ifK (smallRow need sz) (rowK hp id fun es n c =>
     ifK (Nat.beq off 0&&(Nat.beq es sz&&Nat.ble len n)) (growOn hp nx el sz c len ls k)
      (readElems hp id sz len off fun old=>grow hp nx el sz (old++ls) k)) (.bad 71))
 | .oslice id off len skip=>natF (len+m) fun need=>hp.getK id (.bad 72) fun o=>match o with
   | .seg f ep tip es n el' c=>ifK (smallRow need sz&&(Nat.beq es sz&&(Nat.beq off (skip*es)&&(Nat.ble (skip+len) n&&Nat.beq el' el))))
     (liveK hp f ep fun _=>ifK (Nat.ble (skip+need) n) (writeElems id sz ls (off+len*sz) hp fun hp=>k (.oslice id off need skip) hp nx)
       (ifK (Nat.beq skip 0) (layK ls len c fun c'=>tailK hp nx id f ep (tip&&Nat.beq (skip+len) n) es need (skip+len) el' c c' k)
        (readElems hp id sz len off fun old=>layK (old++ls) 0 .e fun c'=>tailK hp nx id f ep (tip&&Nat.beq (skip+len) n) es need (skip+len) el' c c' k))) (.bad 74)
   | _=>.bad 75
 | _=>.bad 76) (.bad 77)
end
end Go.Rex
namespace Go.Rex
noncomputable section
def lenK (P:Program) (t:TypeId) (hp:Tr AO) (v:AV) (k:Nat->Rs):Rs :=
 match P.underlying t,v with
 | some .string,.str l _=>k l
 | some (.array n _),_=>k n
 | some (.slice _),.slice _ _ n _=>k n
 | some (.slice _),.oslice _ _ n _=>k n
 | some (.slice _),.nils=>k 0
 | some (.map _ _),.nilmap=>k 0
 | some (.map _ _),.map id=>hp.getK id (.bad 80) fun o=>match o with
   | .map es _=>k es.length
   | _=>.bad 81
 | _,_=>.bad 82
structure LenC where run:Tr AO->AV->(Nat->Rs)->Rs
def lenS (P:Program) (t:TypeId):LenC :=
 match P.underlying t with
 | some .string=>⟨fun _ v k=>selStr v (.bad 82) fun l _=>k l⟩
 | some (.slice _)=>⟨fun _ v k=>selSl v (.bad 82) (k 0) (fun _ _ n _=>k n) fun _ _ n _=>k n⟩
 | _=>⟨fun hp v k=>lenK P t hp v k⟩
def strElems (len:Nat) (n:Nat):List (List AV)->(List (List AV)->Rs)->Rs :=
 Nat.rec (motive:=fun _=>Nat->List (List AV)->(List (List AV)->Rs)->Rs) (fun _ acc k=>k acc)
  (fun _ ih n acc k=>natF (Nat.mod n 256) fun b=>natF (Nat.div n 256) fun n=>ih n ([.int .u8 (.ofNat b)]::acc) k) len n
def elemsOf (hp:Tr AO) (sz:Nat) (v:AV) (k:List (List AV)->Rs):Rs :=
 match v with
 | .nils=>k []
 | .slice id off len _=>readElems hp id sz len off k
 | .oslice id off len _=>readElems hp id sz len off k
 | .str l n=>ifK (Nat.beq sz 1) (strElems l n [] k) (.bad 83)
 | _=>.bad 84
def bytesStr (ls:List (List AV)):Nat->(Nat->Rs)->Rs :=
 List.rec (motive:=fun _=>Nat->(Nat->Rs)->Rs) (fun n k=>k n)
  (fun l _ ih n k=>nthK 0 l fun v=>match v with | .int .u8 (.ofNat b)=>ifK (Nat.blt b 256) (natF (n*256+b) fun n=>ih n k) (.bad 85) | _=>.bad 85) ls
def convB (P:Program) (src dst:TypeId) (x:EvB):OB :=
 match P.underlying src,P.underlying dst with
 | some (.int _),some (.int kd)=>pureB fun tm k=>x.run tm fun v=>asInt v fun _ n=>wrapC kd n fun n=>k (.int kd n)
 | some .string,some .string=>pureB fun tm k=>x.run tm fun v=>match v with | .str l n=>k (.str l n) | _=>.bad 90
 | some .string,some (.slice e)=>match P.underlying e with
   | some (.int .u8)=>⟨fun _ tm hp nx k=>x.run tm fun v=>match v with
     | .str l n=>strElems l n [] fun ls=>ifK (smallRow l 1) (grow hp nx e 1 ls k) (.bad 91)
     | _=>.bad 92⟩
   | _=>badB 95
 | some (.slice _),some (.slice e)=>match P.underlying e with
   | some (.int .u8)=>⟨fun _ tm hp nx k=>x.run tm fun v=>match v with
     | .slice id off len cap=>ifK (Nat.beq src dst) (hp.getK id (.bad 230) fun o=>match o with
       | .arr _ _ _ _=>k (.slice id off len cap) hp nx
       | _=>.bad 231) (.bad 232)
     | _=>.bad 233⟩
   | _=>badB 234
 | some (.slice e),some .string=>match P.underlying e with
   | some (.int .u8)=>⟨fun _ tm hp nx k=>x.run tm fun v=>match v with
     | .str _ _=>.bad 98
     | v=>elemsOf hp 1 v fun ls=>natF ls.length fun l=>bytesStr ls 0 fun n=>k (.str l n) hp nx⟩
   | _=>badB 96
 | _,_=>badB 97
def findE (P:Program) (t:TypeId) (k:AV) (es:List ME):Nat->Rs->(Nat->ME->Rs)->Rs :=
 List.rec (motive:=fun _=>Nat->Rs->(Nat->ME->Rs)->Rs) (fun _ z _=>z)
  (fun e _ ih i z kk=>eqvF P 9 t k e.key fun b=>ifK b (kk i e) (natF (i+1) fun i=>ih i z kk)) es
def keyF (P:Program):Nat->TypeId->AV->Bool
 | 0,_,_=>false
 | d+1,t,v=>match P.underlying t with
   | some .bool | some (.int _) | some .string=>true
   | some (.struct fs)=>match v with
     | .agg cs=>fs.toList.all fun f=>match aggT P f.type with
       | true=>keyF P d f.type (.agg ((cs.drop f.offset).take (szOf P f.type)))
       | false=>match cs[f.offset]? with
         | some v=>keyF P d f.type v
         | none=>false
     | _=>false
   | _=>false
def keyChk (P:Program) (t:TypeId) (v:AV) (r:Rs):Rs :=
 match P.underlying t with
 | some .bool | some (.int _) | some .string=>r
 | some (.struct _)=>ifK (keyF P 4 t v) r (.bad 220)
 | _=>.bad 222
def bits1 (a b:AV):Bool :=
 match a,b with
 | .bool a,.bool b=>a==b
 | .int j a,.int k b=>decide (j=k)&&a==b
 | .str l m,.str l' m'=>strEq l m l' m'
 | _,_=>false
def bitsL:List AV->List AV->Bool
 | [],[]=>true
 | a::as,b::bs=>bits1 a b&&bitsL as bs
 | _,_=>false
def bitsF (a b:AV):Bool :=
 match a,b with
 | .agg xs,.agg ys=>bitsL xs ys
 | a,b=>bits1 a b
def setValK (v:AV) (i:Nat):List ME->(List ME->Rs)->Rs :=
 Nat.rec (motive:=fun _=>List ME->(List ME->Rs)->Rs) (fun l k=>List.rec (motive:=fun _=>Rs) (.bad 100) (fun e t _=>k (⟨e.key,v,e.born⟩::t)) l)
  (fun _ ih l k=>List.rec (motive:=fun _=>Rs) (.bad 100) (fun e t _=>ih t fun t=>k (e::t)) l) i
def snocK (e:ME) (l:List ME):(List ME->Rs)->Rs :=
 List.rec (motive:=fun _=>(List ME->Rs)->Rs) (fun k=>k [e]) (fun x _ ih k=>ih fun t=>k (x::t)) l
def dropE (i:Nat):List ME->(List ME->Rs)->Rs :=
 Nat.rec (motive:=fun _=>List ME->(List ME->Rs)->Rs) (fun l k=>List.rec (motive:=fun _=>Rs) (.bad 101) (fun _ t _=>k t) l)
  (fun _ ih l k=>List.rec (motive:=fun _=>Rs) (.bad 101) (fun e t _=>ih t fun t=>k (e::t)) l) i
def mapK (hp:Tr AO) (v:AV) (k:Pz->List ME->Nat->Rs):Rs :=
 selMp v (.bad 104) (.bad 104) fun id=>hp.getK id (.bad 102) fun o=>selMap o fun es c=>k id es c
def lookupB (P:Program) (t:TypeId) (m i:EvB) (ok:Bool):OB :=
 match P.underlying t with
 | some (.map kt et)=>match zeroOf P et with
   | some z =>
     let out (v:AV) (b:Bool) (k:AV->Rs):Rs:=Bool.rec (motive:=fun _=>Rs) (k v) (k (.tup [v,.bool b])) ok
     ⟨fun _ tm hp nx k=>m.run tm fun m=>i.run tm fun i=>keyChk P kt i (match m with
      | .nilmap=>out z false fun v=>k v hp nx
      | m=>mapK hp m fun _ es _=>findE P kt i es 0 (out z false fun v=>k v hp nx) fun _ e=>out e.val true fun v=>k v hp nx)⟩
   | none=>badB 105
 | _=>badB 106
def updateB (P:Program) (t:TypeId) (m i x:EvB):OB :=
 match P.underlying t with
 | some (.map kt _)=>⟨fun _ tm hp nx k=>m.run tm fun m=>i.run tm fun i=>x.run tm fun x=>keyChk P kt i (mapK hp m fun id es c =>
       findE P kt i es 0 (snocK ⟨i,x,c⟩ es fun es=>natF (c+1) fun c=>hp.setK id (.map es c) fun hp=>k undefA hp nx)
        fun j e=>ifK (bitsF e.key i) (setValK x j es fun es=>hp.setK id (.map es c) fun hp=>k undefA hp nx) (.bad 107))⟩
 | _=>badB 108
def entryB (P:Program) (t:TypeId) (m i:EvB):OB :=
 match P.underlying t with
 | some (.map kt et)=>match zeroOf P et with
   | some z=>⟨fun _ tm hp nx k=>m.run tm fun m=>i.run tm fun i=>keyChk P kt i (mapK hp m fun id es c =>
     findE P kt i es 0 (snocK ⟨i,z,c⟩ es fun es=>natF (c+1) fun c'=>hp.setK id (.map es c') fun hp=>k (.tup [z,.int .i64 (.ofNat c)]) hp nx)
      fun _ e=>ifK (bitsF e.key i) (hp.setK id (.map es c) fun hp=>k (.tup [e.val,.int .i64 (.ofNat e.born)]) hp nx) (.bad 107))⟩
   | none=>badB 109
 | _=>badB 110
def bornE (b:Nat) (es:List ME):Nat->(Nat->Rs)->Rs :=
 List.rec (motive:=fun _=>Nat->(Nat->Rs)->Rs) (fun _ _=>.bad 111) (fun e _ ih i k=>ifK (Nat.beq e.born b) (k i) (natF (i+1) fun i=>ih i k)) es
def entryStoreB (m s x:EvB):OB :=
 ⟨fun _ tm hp nx k=>m.run tm fun m=>s.run tm fun s=>x.run tm fun x=>mapK hp m fun id es c=>asNat s fun b =>
  bornE b es 0 fun j=>setValK x j es fun es=>hp.setK id (.map es c) fun hp=>k undefA hp nx⟩
def deleteB (P:Program) (t:TypeId) (m i:EvB):OB :=
 match P.underlying t with
 | some (.map kt _)=>⟨fun _ tm hp nx k=>m.run tm fun m=>i.run tm fun i=>keyChk P kt i (match m with
       | .nilmap=>k undefA hp nx
       | m=>mapK hp m fun id es c=>findE P kt i es 0 (hp.setK id (.map es c) fun hp=>k undefA hp nx) fun j _=>dropE j es fun es=>hp.setK id (.map es c) fun hp=>k undefA hp nx)⟩
 | _=>badB 113
def andK (a b:Rs):Rs:=Rs.rec (motive:=fun _=>Rs) b (fun n=>.bad n) a
def inK (b:Nat) (l:List Nat):Bool:=List.rec (motive:=fun _=>Bool) false (fun x _ ih=>Bool.rec (motive:=fun _=>Bool) ih true (Nat.beq x b)) l
def eachLeft (seen:List Nat) (es:List ME) (z:Rs) (k:ME->Rs):Bool->Rs :=
 List.rec (motive:=fun _=>Bool->Rs) (fun some=>Bool.rec (motive:=fun _=>Rs) z .ok some)
  (fun e _ ih some=>Bool.rec (motive:=fun _=>Rs) (andK (k e) (ih true)) (ih some) (inK e.born seen)) es
def oldK (since:Nat) (es:List ME):Bool:=List.rec (motive:=fun _=>Bool) true (fun e _ ih=>Bool.rec (motive:=fun _=>Bool) false ih (Nat.blt e.born since)) es
def rangeB (P:Program) (t:TypeId) (x:EvB):OB :=
 match P.underlying t with
 | some (.map _ _)=>⟨fun _ tm hp nx k=>x.run tm fun v=>selMp v (.bad 261) (.bad 262) fun m=>hp.getK m (.bad 263) fun o=>selMap o fun es c=>newObj hp nx (.iter m c [] c) fun id hp nx=>k (.ptr id 0) hp nx⟩
 | _=>badB 264
def nextB (it:EvB):OB :=
 ⟨fun _ tm hp nx k=>it.run tm fun v=>asPtr v fun id off=>ifK (Nat.beq off 0) (hp.getK id (.bad 265) fun o=>selIter o fun m since seen at'=>hp.getK m (.bad 266) fun o=>selMap o fun es c =>
  ifK (oldK since es&&Nat.ble since at') (eachLeft seen es (k (.tup [.bool false]) hp nx) (fun e=>hp.setK id (.iter m since (e.born::seen) c) fun hp=>k (.tup [.bool true,e.key,e.val]) hp nx) false) (.bad 267)) (.bad 268)⟩
def bornF (b:Nat) (es:List ME):(ME->Rs)->Rs :=
 List.rec (motive:=fun _=>(ME->Rs)->Rs) (fun _=>.bad 269) (fun e _ ih k=>ifK (Nat.beq e.born b) (k e) (ih k)) es
def entryAtB (it:EvB):OB :=
 ⟨fun _ tm hp nx k=>it.run tm fun v=>asPtr v fun id off=>ifK (Nat.beq off 0) (hp.getK id (.bad 265) fun o=>selIter o fun m since seen at'=>hp.getK m (.bad 266) fun o=>selMap o fun es c =>
  ifK (Nat.beq c at') (List.rec (motive:=fun _=>Rs) (.bad 270) (fun b _ _=>bornF b es fun e=>k (.tup [e.key,e.val]) hp nx) seen) (.bad 271)) (.bad 268)⟩
def minK (mx:Bool) (v y:AV) (k:AV->Rs):Rs :=
 asInt v fun ka a=>asInt y fun kb b=>ifK (decide (ka=kb)) (ifK (Bool.rec (motive:=fun _=>Bool) (decide (b<a)) (decide (b > a)) mx) (k (.int ka b)) (k (.int ka a))) (.bad 114)
def builtinB (P:Program) (b:Builtin) (ats:List TypeId) (args:List Operand):OB :=
 match b,ats,args with
 | .len,t::_,[x]=>⟨fun _ tm hp nx k=>(evB x).run tm fun v=>(lenS P t).run hp v fun n=>k (.int .i64 (.ofNat n)) hp nx⟩
 | .append,[ts,tx],[s,x]=>match P.underlying ts,P.underlying tx with
   | some (.slice _),some (.int _)=>badB 117
   | some (.slice e),some _=>match zeroOf P e with
     | some z=>match Nat.ble (P.bytesOf e) 1000000&&(Nat.beq z.cells.length (szOf P e)&&Nat.blt 0 (szOf P e)) with
       | true=>⟨fun _ tm hp nx k=>(evB s).run tm fun s=>(evB x).run tm fun x=>elemsOf hp (szOf P e) x fun ls=>appendK hp nx e (szOf P e) s ls k⟩
       | false=>badB 204
     | none=>badB 205
   | _,_=>badB 118
 | .min,_,[x,y]=>pureB fun tm k=>(evB x).run tm fun a=>(evB y).run tm fun b=>minK false a b k
 | .max,_,[x,y]=>pureB fun tm k=>(evB x).run tm fun a=>(evB y).run tm fun b=>minK true a b k
 | .delete,t::_,[m,i]=>deleteB P t (evB m) (evB i)
 | _,_,_=>badB 121
def catL (a:List AV) (b:List AV):List AV:=List.rec (motive:=fun _=>List AV) b (fun x _ ih=>x::ih) a
def pzNum (p:Pz):Nat:=Pz.rec (motive:=fun _=>Nat) 1 (fun _ ih=>Nat.mul 2 ih) (fun _ ih=>Nat.succ (Nat.mul 2 ih)) p
def noRF:Code->Bool
 | .seq a b=>noRF a&&noRF b
 | .cond _ a b=>noRF a&&noRF b
 | .block _ b=>noRF b
 | .loop b=>noRF b
 | .scope b=>noRF b
 | .rangeFunc _ _ _ _=>false
 | _=>true
def paramsK (nt:Nat) (ps:List Tmp):List AV->Tm->(Tm->Rs)->Rs :=
 List.rec (motive:=fun _=>List AV->Tm->(Tm->Rs)->Rs) (fun vs tm k=>List.rec (motive:=fun _=>Rs) (k tm) (fun _ _ _=>.bad 285) vs)
  (fun p _ ih vs tm k=>List.rec (motive:=fun _=>Rs) (.bad 285) (fun v vs _=>ifK (Nat.blt p nt) ((setS p).run tm v fun tm=>ih vs tm k) (.bad 286)) vs) ps
def loopSet (id:Pz) (st:LS) (hp:Tr AO) (k:Tr AO->Rs):Rs :=
 hp.getK id (.bad 284) fun o=>selLoop o fun f nt tm ps x y _=>hp.setK id (.loop f nt tm ps x y st) k
def isReady (st:LS) (r:Rs):Rs:=LS.rec (motive:=fun _=>Rs) r (.bad 287) (fun _=>.bad 287) st
def yieldB (call:CallT) (j:Nat) (args:List AV) (hp:Tr AO) (nx:Pz) (k:AV->Tr AO->Pz->Rs):Rs :=
 hp.getK (natPz (Nat.pred j)) (.bad 284) fun o=>selLoop o fun f nt tm ps x y st=>ifK (noRF x&&noRF y) (paramsK nt ps.toList args tm fun tm =>
  call.code f nt x tm hp nx fun e tm hp nx=>Ex.rec (motive:=fun _=>Rs)
   (hp.getK (natPz (Nat.pred j)) (.bad 284) fun o=>selLoop o fun _ _ _ _ _ _ st=>isReady st (loopSet (natPz (Nat.pred j)) .busy hp fun hp =>
    call.code f nt y tm hp nx fun e _ hp nx=>Ex.rec (motive:=fun _=>Rs)
     (loopSet (natPz (Nat.pred j)) .ready hp fun hp=>k (.bool true) hp nx)
     (fun i=>loopSet (natPz (Nat.pred j)) (.done (.ext i)) hp fun hp=>k (.bool false) hp nx)
     (loopSet (natPz (Nat.pred j)) (.done .ret) hp fun hp=>k (.bool false) hp nx) e))
   (fun _=>.bad 288) (.bad 288) e) (.bad 289)
def callB (P:Program) (c:Call):OB :=
 match c.callee with
 | .builtin b=>builtinB P b c.argTypes.toList c.args.toList
 | .value f=>⟨fun call tm hp nx k=>(evB f).run tm fun fv=>evsB c.args.toList tm fun vs=>selFun fv (.bad 122) fun f first captured=>match f with
   | .func g=>call.run g (catL first (catL vs captured)) hp nx k
   | .yield j=>List.rec (motive:=fun _=>Rs) (List.rec (motive:=fun _=>Rs) (yieldB call j vs hp nx k) (fun _ _ _=>.bad 122) captured) (fun _ _ _=>.bad 122) first
   | _=>.bad 122⟩
 | .invoke _ _=>badB 123
def unK (op:UnOp) (v:AV) (k:AV->Rs):Rs :=
 match op,v with
 | .not,.bool b=>boolF (!b) fun b=>k (.bool b)
 | .neg,.int kd n=>wrapF kd (Int.sub 0 n) fun n=>k (.int kd n)
 | op,v=>match conc v with
   | some c=>scal (Op.unary op c) k
   | none=>.bad 138
def opB (P:Program) (o:Oper):OB :=
 match o.op with
 | .move x | .assign x=>pureB (evB x).run
 | .pick c a b=>pureB fun tm k=>(evB c).run tm fun c=>asBool c fun c=>Bool.rec (motive:=fun _=>Rs) ((evB b).run tm k) ((evB a).run tm k) c
 | .alloc e=>match zeroOf P e with
   | some z=>⟨fun _ tm hp nx k=>natF z.cells.length fun es=>newArr hp nx es 1 e (one z.cells) fun id hp nx=>k (.ptr id 0) hp nx⟩
   | none=>badB 130
 | .box e x=>⟨fun _ tm hp nx k=>(evB x).run tm fun v=>natF v.cells.length fun es=>newArr hp nx es 1 e (one v.cells) fun id hp nx=>k (.ptr id 0) hp nx⟩
 | .build t ps=>match zeroOf P t,P.underlying t with
   | some z,some (.struct fs)=>match fs.toList.mapM (fun f=>(P.info? f.type).map fun i=>(f.offset,i.size)) with
     | some places=>pureB fun tm k=>fillK (fun i=>places[i]?) (ps.toList) tm z.cells fun cs=>k (.agg cs)
     | none=>badB 202
   | some z,some (.array _ e)=>match P.info? e with
     | some _=>pureB fun tm k=>fillK (fun i=>some (i*szOf P e,szOf P e)) (ps.toList) tm z.cells fun cs=>k (.agg cs)
     | none=>badB 203
   | _,_=>badB 131
 | .buildSlice t len ps=>match P.underlying t with
   | some (.slice e)=>match zeroOf P e with
     | some z=>match Nat.ble len 10000&&(Nat.ble (szOf P e) 1000&&(Nat.beq z.cells.length (szOf P e)&&Nat.blt 0 (szOf P e))) with
       | true=>⟨fun _ tm hp nx k=>fillK (fun i=>some (i*szOf P e,szOf P e)) (ps.toList) tm (repl len z.cells) fun cs=>chunkK (szOf P e) len cs 0 .e fun c =>
         newArr hp nx (szOf P e) len e c fun id hp nx=>k (.slice id 0 len len) hp nx⟩
       | false=>badB 132
     | none=>badB 133
   | _=>badB 134
 | .load t a=>match knownT P t,aggT P t with
   | true,true=>⟨fun _ tm hp nx k=>(evB a).run tm fun v=>asPtr v fun id off=>readCells hp id off (szOf P t) fun cs=>k (.agg cs) hp nx⟩
   | true,false=>⟨fun _ tm hp nx k=>(evB a).run tm fun v=>asPtr v fun id off=>readCell hp id off fun v=>k v hp nx⟩
   | false,_=>badB 198
 | .store t a x=>match P.info? t with
   | some _=>⟨fun _ tm hp nx k=>(evB a).run tm fun p=>(evB x).run tm fun v=>asPtr p fun id off =>
     ifK (Nat.beq v.cells.length (szOf P t)) (writeCells hp id off v.cells fun hp=>k undefA hp nx) (.bad 135)⟩
   | none=>badB 135
 | .nilCheck x=>pureB fun tm k=>(evB x).run tm fun v=>selPF v (.bad 136) (fun p o=>k (.ptr p o)) fun f a b=>match f with
   | .func f=>k (.func (.func f) a b)
   | _=>.bad 136
 | .binOp op t x y _=>match eqOkT P op t with
   | true=>pureB fun tm k=>(evB x).run tm fun a=>(evB y).run tm fun b=>(binS P op t).run a b k
   | false=>badB 137
 | .unOp op _ x=>pureB fun tm k=>(evB x).run tm fun v=>unK op v k
 | .convert src dst x=>convB P src dst (evB x)
 | .makeFunc fn first captured=>match okFn fn with
   | true=>pureB fun tm k=>evsB first.toList tm fun a=>evsB captured.toList tm fun b=>k (.func fn a b)
   | false=>badB 282
 | .makeMap t none=>⟨fun _ tm hp nx k=>newObj hp nx (.map [] 0) fun id hp nx=>k (.map id) hp nx⟩
 | .makeMap t (some r)=>badB 139
 | .makeSlice t l c=>match P.underlying t with
   | some (.slice e)=>match zeroOf P e with
     | some z=>match Nat.beq z.cells.length (szOf P e)&&(Nat.ble (szOf P e) 1000&&(Nat.blt 0 (szOf P e)&&Nat.ble (P.bytesOf e) 1000000)) with
       | true=>⟨fun _ tm hp nx k=>(evB l).run tm fun l=>(evB c).run tm fun c=>asNat l fun l=>asNat c fun c=>ifK (Nat.ble l c&&Nat.ble c 10000)
         (fullK c z.cells 0 .e fun cs=>newArr hp nx (szOf P e) c e cs fun id hp nx=>k (.slice id 0 l c) hp nx) (.bad 140)⟩
       | false=>badB 141
     | none=>badB 142
   | _=>badB 143
 | .slice t x lo hi mx=>sliceK P t (evB x) (lo.map evB) (hi.map evB) (mx.map evB)
 | .fieldAddr t x f=>match fieldOff P t f with
   | some (off,ft)=>match Nat.beq (szOf P ft) 0 with
     | false=>pureB fun tm k=>(evB x).run tm fun v=>asPtr v fun id o=>natF (o+off) fun o=>k (.ptr id o)
     | true=>badB 144
   | none=>badB 145
 | .field t x f=>match fieldOff P t f with
   | some (off,ft)=>match knownT P ft,aggT P ft with
     | false,_=>badB 199
     | true,true=>pureB fun tm k=>(evB x).run tm fun v=>selAgg v (.bad 146) fun cs=>dropK off cs fun cs=>takeK (szOf P ft) cs fun cs=>k (.agg cs)
     | true,false=>pureB fun tm k=>(evB x).run tm fun v=>selAgg v (.bad 147) fun cs=>nthK off cs k
   | none=>badB 148
 | .indexAddr t x i=>match P.underlying t with
   | some (.slice e)=>match P.info? e with
     | some _=>pureB fun tm k=>(evB x).run tm fun v=>(evB i).run tm fun i=>asNat i fun i=>selSl v (.bad 151) (.bad 151)
       (fun id off len _=>ifK (Nat.blt i len) (natF (off+i*szOf P e) fun o=>k (.ptr id o)) (.bad 149))
       (fun id off len _=>ifK (Nat.blt i len) (natF (off+i*szOf P e) fun o=>k (.ptr id o)) (.bad 150))
     | none=>badB 153
   | some (.array n e)=>match P.info? e with
     | some _=>pureB fun tm k=>(evB x).run tm fun v=>(evB i).run tm fun i=>asNat i fun i=>asPtr v fun id off =>
       ifK (Nat.blt i n) (natF (off+i*szOf P e) fun o=>k (.ptr id o)) (.bad 152)
     | none=>badB 153
   | _=>badB 153
 | .index t x i=>match P.underlying t with
   | some .string=>pureB fun tm k=>(evB x).run tm fun v=>(evB i).run tm fun i=>asNat i fun i=>selStr v (.bad 155) fun l n=>ifK (Nat.blt i l) (natF (Nat.mod (Nat.shiftRight n (Nat.mul 8 (Nat.sub l (Nat.succ i)))) 256) fun b=>k (.int .u8 (.ofNat b))) (.bad 154)
   | _=>badB 160
 | .lookup t m i ok=>lookupB P t (evB m) (evB i) ok
 | .mapUpdate t m i x | .insert t m i x=>updateB P t (evB m) (evB i) (evB x)
 | .mapEntry t m i=>entryB P t (evB m) (evB i)
 | .entryStore _ m s x=>entryStoreB (evB m) (evB s) (evB x)
 | .makeInterface t x=>match P.underlying t with
   | some (.interface _)=>badB 161
   | some _=>pureB fun tm k=>(evB x).run tm fun v=>k (.iface t v)
   | none=>badB 162
 | .extract x i=>pureB fun tm k=>(evB x).run tm fun v=>selTup v (.bad 163) fun vs=>nthK i vs k
 | .call c=>callB P c
 | .range t x=>rangeB P t (evB x)
 | .next it false=>nextB (evB it)
 | .entry it=>entryAtB (evB it)
 | _=>badB 164
structure SB where run:CallT->Tm->Tr AO->Pz->(Tm->Tr AO->Pz->Rs)->Rs
def putB (nt:Nat) (d:Option Tmp) (b:OB):SB :=
 match d with
 | none=>⟨fun call tm hp nx k=>b.run call tm hp nx fun _ hp nx=>k tm hp nx⟩
 | some t=>match Nat.blt t nt with
   | true=>⟨fun call tm hp nx k=>b.run call tm hp nx fun v hp nx=>(setS t).run tm v fun tm=>k tm hp nx⟩
   | false=>⟨fun _ _ _ _ _=>.bad 170⟩
def boolEq (a b:Bool):Bool:=Bool.rec (motive:=fun _=>Bool) (Bool.rec (motive:=fun _=>Bool) true false b) (Bool.rec (motive:=fun _=>Bool) false true b) a
def yielded? (ops:Array Oper) (nt:Nat) (j:Nat):Option Tmp :=
 match (ops[j]?).bind (·.dst) with
 | some d=>if Nat.blt d nt then some d else none
 | none=>none
def stepB (P:Program) (nt:Nat) (ops:Array Oper) (o:Oper):SB :=
 match o.guard with
 | none=>putB nt o.dst (opB P o)
 | some (j,want)=>match yielded? ops nt j with
   | none=>⟨fun _ _ _ _ _=>.bad 171⟩
   | some d=>⟨fun call tm hp nx k=>(getS d).run tm fun v=>selBz v ((putB nt o.dst (pureB fun _ k=>k undefA)).run call tm hp nx k) fun b =>
     ifK (boolEq b want) ((putB nt o.dst (opB P o)).run call tm hp nx k) ((putB nt o.dst (pureB fun _ k=>k undefA)).run call tm hp nx k)⟩
def regionB (P:Program) (nt:Nat) (ops:Array Oper) (l:List Oper):SB :=
 List.rec (motive:=fun _=>SB) ⟨fun _ tm hp nx k=>k tm hp nx⟩ (fun o _ ih=>⟨fun call tm hp nx k=>(stepB P nt ops o).run call tm hp nx fun tm hp nx=>ih.run call tm hp nx k⟩) l
def lightK (P:Program) (o:Oper):Bool :=
 match o.op with
 | .move _ | .assign _ | .pick .. | .build .. | .load .. | .nilCheck _ | .binOp .. | .unOp .. | .makeFunc .. | .fieldAddr .. | .field .. | .indexAddr .. | .index .. | .lookup .. | .makeInterface .. | .extract ..=>true
 | .convert src dst _=>match P.underlying src,P.underlying dst with
   | some (.int _),some (.int _)=>true
   | some .string,some .string=>true
   | some (.slice _),some .string=>true
   | _,_=>false
 | .slice t _ _ _ none=>match P.underlying t with | some .string=>true | _=>false
 | .call c=>match c.callee with
   | .builtin .len | .builtin .min | .builtin .max=>true
   | _=>false
 | _=>false
def pureK (P:Program) (o:Oper):Bool :=
 match o.op with
 | .move _ | .assign _ | .pick .. | .build .. | .nilCheck _ | .binOp .. | .unOp .. | .makeFunc .. | .fieldAddr .. | .field .. | .indexAddr .. | .index .. | .makeInterface .. | .extract ..=>true
 | .convert src dst _=>match P.underlying src,P.underlying dst with
   | some (.int _),some (.int _)=>true
   | some .string,some .string=>true
   | _,_=>false
 | _=>false
def newK (P:Program) (o:Oper):Bool :=
 match o.op with
 | .alloc _ | .box .. | .buildSlice .. | .makeMap ..=>true
 | _=>false
structure Ph where
 es:List Nat
 rs:List Nat
 sp:List Nat
 fs:List Nat
 h:Option Nat
 h2:Option (Nat × List Nat × List Nat)
def pzEq (p:Pz):Pz->Bool :=
 Pz.rec (motive:=fun _=>Pz->Bool) (fun q=>Pz.rec (motive:=fun _=>Bool) true (fun _ _=>false) (fun _ _=>false) q)
  (fun _ ih q=>Pz.rec (motive:=fun _=>Bool) false (fun q _=>ih q) (fun _ _=>false) q)
  (fun _ ih q=>Pz.rec (motive:=fun _=>Bool) false (fun _ _=>false) (fun q _=>ih q) q) p
def eq1 (a b:AV):Bool :=
 match a,b with
 | .bool a,.bool b=>a==b
 | .int j a,.int k b=>decide (j=k)&&a==b
 | .str l m,.str l' m'=>Nat.beq l l'&&Nat.beq m m'
 | .float j a,.float k b=>decide (j=k)&&Nat.beq a b
 | .ptr p o,.ptr q o'=>pzEq p q&&Nat.beq o o'
 | .nilp,.nilp=>true
 | .slice p o l c,.slice q o' l' c'=>pzEq p q&&(Nat.beq o o'&&(Nat.beq l l'&&Nat.beq c c'))
 | .oslice p o l c,.oslice q o' l' c'=>pzEq p q&&(Nat.beq o o'&&(Nat.beq l l'&&Nat.beq c c'))
 | .nils,.nils=>true
 | .map p,.map q=>pzEq p q
 | .nilmap,.nilmap=>true
 | .nilfunc,.nilfunc=>true
 | .nilIface,.nilIface=>true
 | _,_=>false
def eqL (f:AV->AV->Bool) (a:List AV):List AV->Bool :=
 List.rec (motive:=fun _=>List AV->Bool) (fun b=>List.rec (motive:=fun _=>Bool) true (fun _ _ _=>false) b)
  (fun x _ ih b=>List.rec (motive:=fun _=>Bool) false (fun y t _=>Bool.rec (motive:=fun _=>Bool) false (ih t) (f x y)) b) a
def eq2 (a b:AV):Bool :=
 match a,b with
 | .agg x,.agg y=>eqL eq1 x y
 | a,b=>eq1 a b
def eqA (a b:AV):Bool :=
 match a,b with
 | .tup x,.tup y=>eqL eq2 x y
 | a,b=>eq2 a b
def opAt (ops:Array Oper) (i:Nat):Oper:=ops.getD i default
def sBad (n:Nat):SB:=⟨fun _ _ _ _ _=>.bad n⟩
def againB (P:Program) (nt:Nat) (ops:Array Oper) (o:Oper):SB :=
 match o.dst with
 | none=>⟨fun call tm hp nx K=>(stepB P nt ops o).run call tm hp nx fun _ _ _=>K tm hp nx⟩
 | some d=>⟨fun call tm hp nx K=>(stepB P nt ops o).run call tm hp nx fun tm' _ _=>(getS d).run tm' fun v=>(getS d).run tm fun u=>ifK (eqA v u) (K tm hp nx) (.bad 213)⟩
def againAll (P:Program) (nt:Nat) (ops:Array Oper) (l:List Oper):SB :=
 List.rec (motive:=fun _=>SB) ⟨fun _ tm hp nx k=>k tm hp nx⟩ (fun o _ ih=>⟨fun call tm hp nx k=>(againB P nt ops o).run call tm hp nx fun tm hp nx=>ih.run call tm hp nx k⟩) l
mutual
def eqV:AV->AV->Bool
 | .bool a,.bool b=>a==b
 | .int j a,.int k b=>decide (j=k)&&a==b
 | .str l m,.str l' m'=>Nat.beq l l'&&Nat.beq m m'
 | .float j a,.float k b=>decide (j=k)&&Nat.beq a b
 | .ptr p o,.ptr q o'=>pzEq p q&&Nat.beq o o'
 | .nilp,.nilp=>true
 | .slice p o l c,.slice q o' l' c'=>pzEq p q&&(Nat.beq o o'&&(Nat.beq l l'&&Nat.beq c c'))
 | .oslice p o l c,.oslice q o' l' c'=>pzEq p q&&(Nat.beq o o'&&(Nat.beq l l'&&Nat.beq c c'))
 | .nils,.nils=>true
 | .map p,.map q=>pzEq p q
 | .nilmap,.nilmap=>true
 | .func f a b,.func g c d=>decide (f=g)&&(eqVL a c&&eqVL b d)
 | .nilfunc,.nilfunc=>true
 | .iface t v,.iface u x=>Nat.beq t u&&eqV v x
 | .nilIface,.nilIface=>true
 | .agg xs,.agg ys=>eqVL xs ys
 | .tup xs,.tup ys=>eqVL xs ys
 | _,_=>false
def eqVL:List AV->List AV->Bool
 | [],[]=>true
 | x::xs,y::ys=>eqV x y&&eqVL xs ys
 | _,_=>false
end
def eqT:Tr (List AV)->Tr (List AV)->Bool
 | .e,.e=>true
 | .n l none r,.n l' none r'=>eqT l l'&&eqT r r'
 | .n l (some v) r,.n l' (some v') r'=>eqVL v v'&&(eqT l l'&&eqT r r')
 | _,_=>false
def eqE:List ME->List ME->Bool
 | [],[]=>true
 | x::xs,y::ys=>eqV x.key y.key&&(eqV x.val y.val&&(Nat.beq x.born y.born&&eqE xs ys))
 | _,_=>false
def eqO:AO->AO->Bool
 | .arr es n el c,.arr es' n' el' c'=>Nat.beq es es'&&(Nat.beq n n'&&(Nat.beq el el'&&eqT c c'))
 | .seg f ep tp es n el c,.seg f' ep' tp' es' n' el' c'=>pzEq f f'&&(Nat.beq ep ep'&&(boolEq tp tp'&&(Nat.beq es es'&&(Nat.beq n n'&&(Nat.beq el el'&&eqT c c')))))
 | .fam ep s,.fam ep' s'=>Nat.beq ep ep'&&boolEq s s'
 | .map es c,.map es' c'=>Nat.beq c c'&&eqE es es'
 | .dmark,.dmark=>true
 | .gone,.gone=>true
 | .iter m s l c,.iter m' s' l' c'=>pzEq m m'&&(Nat.beq s s'&&(decide (l=l')&&Nat.beq c c'))
 | _,_=>false
def subH:Tr AO->Tr AO->Bool
 | .e,_=>true
 | .n l none r,.n l' _ r'=>subH l l'&&subH r r'
 | .n l (some v) r,.n l' (some v') r'=>eqO v v'&&(subH l l'&&subH r r')
 | .n _ _ _,_=>false
def eqOct {α:Type} (f:α->α->Bool) (a b:Oct α):Bool :=
 f a.a0 b.a0&&(f a.a1 b.a1&&(f a.a2 b.a2&&(f a.a3 b.a3&&(f a.a4 b.a4&&(f a.a5 b.a5&&(f a.a6 b.a6&&f a.a7 b.a7))))))
def eqTr {α:Type} (f:α->α->Bool):Tr α->Tr α->Bool
 | .e,.e=>true
 | .n l none r,.n l' none r'=>eqTr f l l'&&eqTr f r r'
 | .n l (some v) r,.n l' (some v') r'=>f v v'&&(eqTr f l l'&&eqTr f r r')
 | _,_=>false
def eqPzL:List Pz->List Pz->Bool
 | [],[]=>true
 | x::xs,y::ys=>pzEq x y&&eqPzL xs ys
 | _,_=>false
def eqTm (a b:Tm):Bool:=eqOct (eqOct eqV) a.lo b.lo&&(eqTr eqV a.hi b.hi&&eqPzL a.ml b.ml)
def phN (P:Program) (nt:Nat) (ops:Array Oper) (es rs sp fs:List Nat) (rest:SB) (h:Option Nat):SB :=
 ⟨fun call tm hp nx K =>
  (regionB P nt ops (es.map (opAt ops))).run call tm hp nx fun tm hp nx =>
  (againAll P nt ops (rs.map (opAt ops))).run call tm hp nx fun tm hp nx =>
  (regionB P nt ops (sp.map (opAt ops))).run call tm hp nx fun _ _ _ =>
  (regionB P nt ops (fs.map (opAt ops))).run call tm hp nx fun tm hp nx =>
  Option.rec (motive:=fun _=>Rs) (K tm hp nx) (fun h=>(stepB P nt ops (opAt ops h)).run call tm hp nx fun tm hp nx=>rest.run call tm hp nx K) h⟩
def lastB (P:Program) (nt:Nat) (ops:Array Oper) (h:Nat) (rs:List Nat):SB :=
 phN P nt ops [] rs [] [] (phN P nt ops [] [] [] [] (sBad 210) none) (some h)
def forkKB (K:Tm->Tr AO->Pz->Rs) (tmA:Tm) (hpA:Tr AO) (nxA:Pz) (tmB:Tm) (hpB:Tr AO) (nxB:Pz):Rs :=
 ifK (eqTm tmA tmB) (ifK (pzEq nxA nxB) (ifK (subH hpA hpB) (K tmA hpA nxA) (.bad 252)) (.bad 251)) (.bad 250)
def forkKA (P:Program) (nt:Nat) (ops:Array Oper) (hA hB:Nat) (rsB:List Nat) (call:CallT) (tm:Tm) (hp:Tr AO) (nx:Pz) (K:Tm->Tr AO->Pz->Rs) (tmA:Tm) (hpA:Tr AO) (nxA:Pz):Rs :=
 (stepB P nt ops (opAt ops hB)).run call tm hp nx fun tm hp nx=>(lastB P nt ops hA rsB).run call tm hp nx (forkKB K tmA hpA nxA)
def forkB (P:Program) (nt:Nat) (ops:Array Oper) (hA hB:Nat) (rsA rsB:List Nat) (call:CallT) (tm:Tm) (hp:Tr AO) (nx:Pz) (K:Tm->Tr AO->Pz->Rs):Rs :=
 (stepB P nt ops (opAt ops hA)).run call tm hp nx fun tm' hp' nx'=>(lastB P nt ops hB rsA).run call tm' hp' nx' (forkKA P nt ops hA hB rsB call tm hp nx K)
def phB (P:Program) (nt:Nat) (ops:Array Oper) (ph:Ph) (rest:SB):SB :=
 match ph.h2 with
 | none=>phN P nt ops ph.es ph.rs ph.sp ph.fs rest ph.h
 | some (hB,rsA,rsB)=>match ph.h with
   | some hA=>⟨fun call tm hp nx K=>(regionB P nt ops (ph.es.map (opAt ops))).run call tm hp nx fun tm hp nx =>
     (againAll P nt ops (ph.rs.map (opAt ops))).run call tm hp nx fun tm hp nx=>forkB P nt ops hA hB rsA rsB call tm hp nx K⟩
   | none=>sBad 253
def drawB (P:Program) (nt:Nat) (ops:Array Oper) (plan:List Ph):SB :=
 List.rec (motive:=fun _=>SB) (sBad 210) (fun ph _ ih=>phB P nt ops ph ih) plan
def lk (ops:Array Oper) (i j:Nat):Bool:=match (opAt ops j).dst with | some d=>((opAt ops i).looksAt ops).contains d | none=>false
def bit (b:Array Nat) (j i:Nat):Bool:=(b.getD j 0).testBit i
def seqE (ops:Array Oper) (E F CF:List Nat):List Nat->List Nat->Bool
 | [],_=>true
 | i::l,CE=>E.contains i&&!CE.contains i&&(F.all fun f=>!(lk ops i f)||CF.contains f)&&(E.all fun e=>!(lk ops i e)||CE.contains e)&&seqE ops E F CF l (i::CE)
def seqF (ops:Array Oper) (E F CE:List Nat):List Nat->List Nat->Bool
 | [],_=>true
 | f::l,CF=>F.contains f&&!CF.contains f&&(F.all fun g=>!(lk ops f g)||CF.contains g)&&(E.all fun e=>!(lk ops f e)||CE.contains e)&&seqF ops E F CE l (f::CF)
def storeO (o:Oper):Bool:=(match o.op with | .store ..=>true | _=>false)&&(o.dst.isNone&&o.guard.isNone)
def lastPh (h:Nat) (rs:List Nat):List Ph:=[⟨[],rs,[],[],some h,none⟩,⟨[],[],[],[],none,none⟩]
def tailOk (ops:Array Oper) (b:Array Nat) (E F H:List Nat) (h:Nat) (rs:List Nat) (CE CF CH:List Nat):Bool :=
 (rs.all fun i=>CE.contains i&&(F.all fun f=>!(lk ops i f)||CF.contains f)) &&
 (E.all fun i=>CE.contains i)&&(F.all fun f=>CF.contains f)&&(H.all fun i=>(h::CH).contains i)&&(H.contains h&&!CH.contains h) &&
 (E.all fun i=>rs.contains i||bit b i h||(CH.any fun h=>bit b h i))&&(E.all fun i=>(h::CH).any fun h=>bit b h i)
def phsOk (ops:Array Oper) (b:Array Nat) (E F H:List Nat):List Ph->List Nat->List Nat->List Nat->Bool
 | [],_,_,_=>false
 | ph::rest,CE,CF,CH =>
   seqE ops E F CF ph.es CE &&
   (ph.rs.all fun i=>CE.contains i&&(F.all fun f=>!(lk ops i f)||CF.contains f)) &&
   (E.all fun i=>ph.es.contains i||ph.rs.contains i||(H.any fun h=>!CH.contains h&&bit b i h)||(CH.any fun h=>bit b h i)) &&
   (F.all fun f=>CF.contains f||ph.sp.contains f||(H.any fun h=>!CH.contains h&&bit b f h)) &&
   seqF ops E F (ph.es.reverse++CE) ph.sp CF &&
   seqF ops E F (ph.es.reverse++CE) ph.fs CF &&
   match ph.h,ph.h2 with
   | some h,none=>H.contains h&&!CH.contains h&&(H.all fun h'=>CH.contains h'||h'==h||bit b h' h)&&(F.all fun f=>!(lk ops h f)||(ph.fs.reverse++CF).contains f) &&
     (F.all fun f=>(ph.fs.reverse++CF).contains f||!(lk ops f h)||bit b f h)&&(ph.fs.all fun f=>bit b h f)&&phsOk ops b E F H rest (ph.es.reverse++CE) (ph.fs.reverse++CF) (h::CH)
   | some h,some (h2,rsA,rsB)=>(ph.sp.isEmpty&&ph.fs.isEmpty&&rest.isEmpty)&&(H.contains h&&!CH.contains h)&&(H.contains h2&&!CH.contains h2)&&(!(h==h2))&&(H.all fun h'=>CH.contains h'||h'==h||h'==h2)&&(F.all fun f=>CF.contains f) &&
     storeO (opAt ops h)&&storeO (opAt ops h2)&&tailOk ops b E F H h2 rsA (ph.es.reverse++CE) CF (h::CH)&&tailOk ops b E F H h rsB (ph.es.reverse++CE) CF (h2::CH)
   | none,_=>(E.all fun i=>(ph.es.reverse++CE).contains i)&&(F.all fun i=>(ph.fs.reverse++CF).contains i)&&(H.all fun i=>CH.contains i)
def notSel (o:Oper):Bool:=match o.op with | .select ..=>false | _=>true
def kindF (P:Program) (o:Oper):Bool:=pureK P o||(newK P o&&o.guard.isNone&&o.dst.isSome)
def hsOf (ph:Ph):List Nat:=ph.h.toList++(ph.h2.map (·.1)).toList
def planOk (P:Program) (ops:Array Oper) (plan:List Ph):Bool :=
 let b:=Region.before ops
 let rg:=List.range ops.size
 let E:=plan.flatMap (·.es)
 let F:=plan.flatMap (·.fs)
 let H:=plan.flatMap hsOf
 (rg.all fun i=>(E.contains i&&!F.contains i&&!H.contains i)||(!E.contains i&&F.contains i&&!H.contains i)||(!E.contains i&&!F.contains i&&H.contains i)) &&
 (E.all fun i=>decide (i<ops.size))&&(F.all fun i=>decide (i<ops.size))&&(H.all fun i=>decide (i<ops.size)) &&
 (rg.all fun i=>(opAt ops i).after.toList.all fun e=>!(Region.binds .any e)||decide (e.on<i)) &&
 (E.all fun i=>lightK P (opAt ops i))&&(F.all fun i=>kindF P (opAt ops i))&&(rg.all fun i=>notSel (opAt ops i)) &&
 (rg.all fun i=>(E++F).all fun j=>(!(lk ops i j)||bit b i j)&&(i==j||(opAt ops j).dst.isNone||(opAt ops i).dst != (opAt ops j).dst)) &&
 phsOk ops b E F H plan [] [] []
def planGood (P:Program) (ops:Array Oper) (plan:List Ph):Bool:=plan.isEmpty||planOk P ops plan
structure CB where run:Nat->CallT->Tm->Tr AO->Pz->(Ex->Tm->Tr AO->Pz->Rs)->Rs
def bodied (P:Program) (g:Nat):Bool:=match P.funcs[g]? with | some fn=>!fn.body.isNone&&!(fn.name == "runtime.NumGoroutine") | none=>false
def rangeFuncB (P:Program) (fid nt:Nat) (g:Operand) (ps:Array Tmp) (x y:Code) (call:CallT) (tm:Tm) (hp:Tr AO) (nx:Pz) (K:Ex->Tm->Tr AO->Pz->Rs):Rs :=
 (evB g).run tm fun fv=>selFun fv (.bad 281) fun f first captured=>match f,first with
  | .func gf,[]=>ifK (bodied P gf) (newObj hp nx .dmark fun idD hp nx=>newObj hp nx (.loop fid nt ⟨tm.lo,tm.hi,[]⟩ ps x y .ready) fun idL hp nx =>
    call.run gf (.func (.yield (pzNum idL)) [] []::captured) hp nx fun _ hp nx =>
     hp.getK idL (.bad 284) fun o=>selLoop o fun _ _ _ _ _ _ st=>hp.setK idL .gone fun hp =>
      LS.rec (motive:=fun _=>Rs) (K .nrm ⟨tm.lo,tm.hi,idD::tm.ml⟩ hp nx) (.bad 287) (fun e=>Ex.rec (motive:=fun _=>Rs) (.bad 287) (fun i=>K (.ext i) ⟨tm.lo,tm.hi,idD::tm.ml⟩ hp nx) (K .ret ⟨tm.lo,tm.hi,idD::tm.ml⟩ hp nx) e) st) (.bad 283)
  | _,_=>.bad 281
def codeB (P:Program) (fid nt:Nat) (pl:Nat->List Ph) (c:Code):CB :=
 Code.rec (motive:=fun _=>CB)
  ⟨fun _ _ tm hp nx K=>K .nrm tm hp nx⟩
  (fun id ops draw=>match draw with
   | false=>⟨fun _ call tm hp nx K=>(regionB P nt ops ops.toList).run call tm hp nx fun tm hp nx=>K .nrm tm hp nx⟩
   | true=>⟨fun _ call tm hp nx K=>(drawB P nt ops (pl id)).run call tm hp nx fun tm hp nx=>K .nrm tm hp nx⟩)
  (fun _ _ a b=>⟨fun fu call tm hp nx K=>a.run fu call tm hp nx fun e tm hp nx=>Ex.rec (motive:=fun _=>Rs) (b.run fu call tm hp nx K) (fun id=>K (.ext id) tm hp nx) (K .ret tm hp nx) e⟩)
  (fun c _ _ a b=>⟨fun fu call tm hp nx K=>(evB c).run tm fun v=>asBool v fun v=>Bool.rec (motive:=fun _=>Rs) (b.run fu call tm hp nx K) (a.run fu call tm hp nx K) v⟩)
  (fun id _ b=>⟨fun fu call tm hp nx K=>b.run fu call tm hp nx fun e tm hp nx=>Ex.rec (motive:=fun _=>Rs) (K .nrm tm hp nx) (fun j=>ifK (Nat.beq j id) (K .nrm tm hp nx) (K (.ext j) tm hp nx)) (K .ret tm hp nx) e⟩)
  (fun _ b=>⟨fun fu call tm hp nx K=>(Nat.rec (motive:=fun _=>Tm->Tr AO->Pz->Rs) (fun _ _ _=>.bad 180)
   (fun _ ih tm hp nx=>b.run fu call tm hp nx fun e tm hp nx=>Ex.rec (motive:=fun _=>Rs) (ih tm hp nx) (fun j=>K (.ext j) tm hp nx) (K .ret tm hp nx) e) fu) tm hp nx⟩)
  (fun g ps x y _ _=>⟨fun _ call tm hp nx K=>rangeFuncB P fid nt g ps x y call tm hp nx K⟩)
  (fun id=>⟨fun _ _ tm hp nx K=>K (.ext id) tm hp nx⟩)
  (fun _ b=>b)
  (fun _=>⟨fun _ _ tm hp nx K=>K .nrm tm hp nx⟩)
  (fun _=>⟨fun _ _ _ _ _ _=>.bad 182⟩)
  ⟨fun _ _ tm hp nx K=>K .ret tm hp nx⟩
  (fun _=>⟨fun _ _ _ _ _ _=>.bad 183⟩)
  c
def plansOk (P:Program) (pl:Nat->List Ph):Code->Bool
 | .region id ops true=>planGood P ops (pl id)
 | .seq a b=>plansOk P pl a&&plansOk P pl b
 | .cond _ a b=>plansOk P pl a&&plansOk P pl b
 | .block _ b=>plansOk P pl b
 | .loop b=>plansOk P pl b
 | .scope b=>plansOk P pl b
 | .rangeFunc _ _ x y=>noRF x&&noRF y
 | _=>true
structure FB where run:Nat->CallT->List AV->Tr AO->Pz->(AV->Tr AO->Pz->Rs)->Rs
def laidArgs (vs:List AV):Nat->Tm->(Tm->Rs)->Rs :=
 List.rec (motive:=fun _=>Nat->Tm->(Tm->Rs)->Rs) (fun _ t k=>k t) (fun v _ ih i t k=>(setS i).run t v fun t=>natF (Nat.succ i) fun i=>ih i t k) vs
def resOne (P:Program) (r:ResultVar) (tm:Tm) (hp:Tr AO) (k:AV->Rs):Rs :=
 match r with
 | .tmp t=>(getS t).run tm k
 | .cell a t=>(getS a).run tm fun v=>asPtr v fun id off =>
   match knownT P t,aggT P t with
   | false,_=>.bad 200
   | true,true=>readCells hp id off (szOf P t) fun cs=>k (.agg cs)
   | true,false=>readCell hp id off k
def resAll (P:Program) (rs:List ResultVar):Tm->Tr AO->(List AV->Rs)->Rs :=
 List.rec (motive:=fun _=>Tm->Tr AO->(List AV->Rs)->Rs) (fun _ _ k=>k []) (fun r _ ih tm hp k=>resOne P r tm hp fun v=>ih tm hp fun vs=>k (v::vs)) rs
def endK (l:List Pz):Tr AO->(Tr AO->Rs)->Rs :=
 List.rec (motive:=fun _=>Tr AO->(Tr AO->Rs)->Rs) (fun hp k=>k hp) (fun id _ ih hp k=>hp.getK id (.bad 292) fun o=>isMark o (hp.setK id .gone fun hp=>ih hp k)) l
def resK (vs:List AV) (k:AV->Rs):Rs :=
 match vs with
 | [v]=>k v
 | vs=>k (.tup vs)
def fnB (P:Program) (Pl:Nat->Nat->List Ph) (f:Nat):FB :=
 match P.funcs[f]? with
 | some fn=>match fn.body with
   | some c=>match fn.name == "runtime.NumGoroutine" with
     | false=>⟨fun fu call args hp nx k=>ifK (Nat.ble args.length fn.ntmps) (laidArgs args 0 .e fun tm=>(codeB P f fn.ntmps (Pl f) c).run fu call tm hp nx fun e tm hp nx =>
       Ex.rec (motive:=fun _=>Rs) (endK tm.ml hp fun hp=>resAll P fn.results.toList tm hp fun vs=>resK vs fun v=>k v hp nx) (fun _=>.bad 191) (endK tm.ml hp fun hp=>resAll P fn.results.toList tm hp fun vs=>resK vs fun v=>k v hp nx) e) (.bad 192)⟩
     | true=>⟨fun _ _ _ _ _ _=>.bad 193⟩
   | none=>match fn.name == "math.Float64frombits"&&(fn.origin == "math.Float64frombits"||fn.origin == "") with
     | true=>⟨fun _ _ args hp nx k=>(match args with
       | [.int .u64 (.ofNat n)]=>k (.float .f64 n) hp nx
       | _=>.bad 197)⟩
     | false=>⟨fun _ _ _ _ _ _=>.bad 194⟩
 | none=>⟨fun _ _ _ _ _ _=>.bad 195⟩
def codeN (P:Program) (Pl:Nat->Nat->List Ph) (fu:Nat) (ih:CallT) (f nt:Nat) (c:Code) (tm:Tm) (hp:Tr AO) (nx:Pz) (K:Ex->Tm->Tr AO->Pz->Rs):Rs :=
 ifK (plansOk P (Pl f) c) ((codeB P f nt (Pl f) c).run fu ih tm hp nx K) (.bad 293)
end
end Go.Rex
namespace Go.Rex
open Go.RowKit
def Tr.get {α:Type}:Tr α->Pz->Option α
 | .e,_=>none
 | .n _ v _,.h=>v
 | .n l _ _,.o p=>l.get p
 | .n _ _ r,.i p=>r.get p
def Tr.set {α:Type}:Tr α->Pz->α->Tr α
 | .e,.h,x=>.n .e (some x) .e
 | .e,.o p,x=>.n (Tr.e.set p x) none .e
 | .e,.i p,x=>.n .e none (Tr.e.set p x)
 | .n l _ r,.h,x=>.n l (some x) r
 | .n l v r,.o p,x=>.n (l.set p x) v r
 | .n l v r,.i p,x=>.n l v (r.set p x)
theorem Tr.get_e {α:Type} (p:Pz):(Tr.e:Tr α).get p=none:=by cases p<;>rfl
theorem Tr.getK_eq {α:Type} (p:Pz):∀(t:Tr α) (z:Rs) (k:α->Rs),t.getK p z k=match t.get p with | some v=>k v | none=>z:=by
 induction p with
 | h=>intro t z k; cases t with
   | e=>rfl
   | n l v r=>cases v<;>rfl
 | o p ih=>intro t z k; cases t with
   | e=>rfl
   | n l v r=>exact ih l z k
 | i p ih=>intro t z k; cases t with
   | e=>rfl
   | n l v r=>exact ih r z k
theorem Tr.setK_eq {α:Type} (p:Pz):∀(t:Tr α) (x:α) (k:Tr α->Rs),t.setK p x k=k (t.set p x):=by
 induction p with
 | h=>intro t x k; cases t<;>rfl
 | o p ih=>intro t x k; cases t with
   | e=>exact ih .e x _
   | n l v r=>exact ih l x _
 | i p ih=>intro t x k; cases t with
   | e=>exact ih .e x _
   | n l v r=>exact ih r x _
theorem Tr.get_set {α:Type} (p:Pz):∀(t:Tr α) (x:α) (q:Pz),(t.set p x).get q=if q=p then some x else t.get q:=by
 induction p with
 | h=>intro t x q; cases t<;>cases q<;>simp [Tr.set,Tr.get,Tr.get_e]
 | o p ih=>intro t x q; cases t<;>cases q<;>simp [Tr.set,Tr.get,Tr.get_e,ih]
 | i p ih=>intro t x q; cases t<;>cases q<;>simp [Tr.set,Tr.get,Tr.get_e,ih]
theorem Tr.get_set_same {α:Type} (p:Pz) (t:Tr α) (x:α):(t.set p x).get p=some x:=by rw [Tr.get_set,if_pos rfl]
theorem Tr.get_set_ne {α:Type} {p q:Pz} (h:q≠p) (t:Tr α) (x:α):(t.set p x).get q=t.get q:=by rw [Tr.get_set,if_neg h]
theorem getK_ok {α:Type} {p:Pz} {t:Tr α} {n:Nat} {k:α->Rs} (h:t.getK p (.bad n) k=.ok):∃v,t.get p=some v/\k v=.ok:=by
 rw [Tr.getK_eq] at h
 cases hg:t.get p with
 | none=>rw [hg] at h; cases h
 | some v=>rw [hg] at h; exact⟨v,rfl,h⟩
def Pz.num:Pz->Nat
 | .h=>1
 | .o p=>2*p.num
 | .i p=>2*p.num+1
theorem Pz.num_pos (p:Pz):1<=p.num:=by induction p<;>simp [Pz.num]<;>omega
theorem Pz.num_inj:∀{p q:Pz},p.num=q.num->p=q:=by
 intro p
 induction p with
 | h=>intro q; cases q with
   | h=>intro _; rfl
   | o q=>intro h; have:=q.num_pos; simp only [Pz.num] at h; omega
   | i q=>intro h; have:=q.num_pos; simp only [Pz.num] at h; omega
 | o p ih=>intro q; have:=p.num_pos; cases q with
   | h=>intro h; simp only [Pz.num] at h; omega
   | o q=>intro h; simp only [Pz.num] at h; rw [ih (by omega:p.num=q.num)]
   | i q=>intro h; simp only [Pz.num] at h; omega
 | i p ih=>intro q; have:=p.num_pos; cases q with
   | h=>intro h; simp only [Pz.num] at h; omega
   | o q=>intro h; simp only [Pz.num] at h; omega
   | i q=>intro h; simp only [Pz.num] at h; rw [ih (by omega:p.num=q.num)]
def Pz.succ:Pz->Pz
 | .h=>.o .h
 | .o p=>.i p
 | .i p=>.o p.succ
theorem Pz.succK_eq (p:Pz):∀k:Pz->Rs,p.succK k=k p.succ:=by
 induction p with
 | h=>intro k; rfl
 | o p _=>intro k; rfl
 | i p ih=>intro k; exact ih _
theorem Pz.num_succ (p:Pz):p.succ.num=p.num+1:=by
 induction p with
 | h=>rfl
 | o p _=>rfl
 | i p ih=>simp only [Pz.succ,Pz.num,ih]; omega
theorem natPzF_num:∀(f m:Nat),1<=m->m<=f->(natPzF f m).num=m:=by
 intro f
 induction f with
 | zero=>intro m h1 h2; omega
 | succ f ih =>
   intro m h1 h2
   show (Bool.rec (motive:=fun _=>Pz) (Bool.rec (motive:=fun _=>Pz) (.o (natPzF f (Nat.div m 2))) (.i (natPzF f (Nat.div m 2))) (Nat.beq (Nat.mod m 2) 1)) .h (Nat.ble m 1)).num=m
   cases hb:Nat.ble m 1 with
   | true=>have:=Nat.le_of_ble_eq_true hb; simp only [Pz.num]; omega
   | false =>
     have hm:¬m<=1:=fun h=>by rw [Nat.ble_eq_true_of_le h] at hb; cases hb
     have hd:1<=m/2:=by omega
     have hr:=ih (m/2) hd (by omega)
     cases hc:Nat.beq (Nat.mod m 2) 1 with
     | true=>have h3:m%2=1:=Nat.eq_of_beq_eq_true hc; show 2*(natPzF f (m/2)).num+1=m; rw [hr]; omega
     | false =>
       have h3:¬m%2=1:=fun h=>by have:Nat.beq (m%2) 1=true:=by rw [h]; rfl
                                 rw [show Nat.beq (Nat.mod m 2) 1=Nat.beq (m%2) 1 from rfl,this] at hc; cases hc
       show 2*(natPzF f (m/2)).num=m
       rw [hr]; omega
theorem natPz_inj {a b:Nat} (h:natPz a=natPz b):a=b:=by
 have ha:=natPzF_num (a+1) (a+1) (by omega) (by omega)
 have hb:=natPzF_num (b+1) (b+1) (by omega) (by omega)
 have:(natPz a).num=(natPz b).num:=by rw [h]
 unfold natPz at this
 omega
theorem natPz_ne {a b:Nat} (h:a≠b):natPz a≠natPz b:=fun e=>h (natPz_inj e)
theorem pzC_eq (β:Type) (p:Pz):∀k:Pz->β,pzC β p k=k p:=by
 induction p with
 | h=>intro k; rfl
 | o p ih=>intro k; exact ih _
 | i p ih=>intro k; exact ih _
theorem natPzC_eq (β:Type) (n:Nat) (k:Pz->β):natPzC β n k=k (natPz n):=pzC_eq _ _ _
noncomputable def o8 {α:Type} (d:Nat) (o:Oct α):α:=match d with | 0=>o.a0 | 1=>o.a1 | 2=>o.a2 | 3=>o.a3 | 4=>o.a4 | 5=>o.a5 | 6=>o.a6 | _=>o.a7
noncomputable def p8 {α:Type} (d:Nat) (x:α) (o:Oct α):Oct α:=match d with
 | 0=>{ o with a0:=x } | 1=>{ o with a1:=x } | 2=>{ o with a2:=x } | 3=>{ o with a3:=x } | 4=>{ o with a4:=x } | 5=>{ o with a5:=x } | 6=>{ o with a6:=x } | _=>{ o with a7:=x }
theorem d8 {d:Nat} (h:d<8):d=0∨d=1∨d=2∨d=3∨d=4∨d=5∨d=6∨d=7:=by omega
theorem o8_p8 {α:Type} {d e:Nat} (hd:d<8) (he:e<8) (x:α) (o:Oct α):o8 d (p8 e x o)=if d=e then x else o8 d o:=by
 rcases d8 hd with rfl | rfl | rfl | rfl | rfl | rfl | rfl | rfl<;>rcases d8 he with rfl | rfl | rfl | rfl | rfl | rfl | rfl | rfl<;>rfl
theorem g1_eq {α:Type} (d:Nat) (o:Oct α) (k:α->Rs):(g1 α d).run o k=k (o8 d o):=by
 match d with
 | 0=>rfl
 | 1=>rfl
 | 2=>rfl
 | 3=>rfl
 | 4=>rfl
 | 5=>rfl
 | 6=>rfl
 | n+7=>rfl
theorem s1_eq {α:Type} (d:Nat) (o:Oct α) (f:α->(α->Rs)->Rs) (g:α->α) (hf:∀x k,f x k=k (g x)) (k:Oct α->Rs):(s1 α d).run o f k=k (p8 d (g (o8 d o)) o):=by
 match d with
 | 0=>exact hf _ _
 | 1=>exact hf _ _
 | 2=>exact hf _ _
 | 3=>exact hf _ _
 | 4=>exact hf _ _
 | 5=>exact hf _ _
 | 6=>exact hf _ _
 | n+7=>exact hf _ _
theorem s2_eq {α:Type} (d:Nat) (o:Oct α) (x:α) (k:Oct α->Rs):(s2 α d).run o x k=k (p8 d x o):=by
 match d with
 | 0=>rfl
 | 1=>rfl
 | 2=>rfl
 | 3=>rfl
 | 4=>rfl
 | 5=>rfl
 | 6=>rfl
 | n+7=>rfl
noncomputable def Tm.at (tm:Tm) (t:Nat):AV:=if t<=63 then o8 (t%8) (o8 (t/8) tm.lo) else (tm.hi.get (natPz t)).getD undefA
noncomputable def Tm.put (tm:Tm) (t:Nat) (v:AV):Tm:=if t<=63 then { tm with lo:=p8 (t/8) (p8 (t%8) v (o8 (t/8) tm.lo)) tm.lo } else { tm with hi:=tm.hi.set (natPz t) v }
theorem getS_eq (t:Nat) (tm:Tm) (k:AV->Rs):(getS t).run tm k=k (tm.at t):=by
 unfold getS Tm.at
 cases h:Nat.ble t 63 with
 | true =>
   rw [if_pos (Nat.le_of_ble_eq_true h)]
   show (g1 (Oct AV) (Nat.div t 8)).run tm.lo (fun o=>(g1 AV (Nat.mod t 8)).run o k)=_
   rw [g1_eq,g1_eq]; rfl
 | false =>
   rw [if_neg (fun h'=>by rw [Nat.ble_eq_true_of_le h'] at h; cases h)]
   simp only [natPzC_eq]
   show tm.hi.getK (natPz t) (k undefA) k=_
   rw [Tr.getK_eq]
   cases tm.hi.get (natPz t)<;>rfl
theorem setS_eq (t:Nat) (tm:Tm) (v:AV) (k:Tm->Rs):(setS t).run tm v k=k (tm.put t v):=by
 unfold setS Tm.put
 cases h:Nat.ble t 63 with
 | true =>
   rw [if_pos (Nat.le_of_ble_eq_true h)]
   show (s1 (Oct AV) (Nat.div t 8)).run tm.lo (fun o k=>(s2 AV (Nat.mod t 8)).run o v k) (fun lo=>k ⟨lo,tm.hi,tm.ml⟩)=_
   rw [s1_eq _ _ _ (fun o=>p8 (Nat.mod t 8) v o) (fun x k=>s2_eq _ _ _ _)]; rfl
 | false =>
   rw [if_neg (fun h'=>by rw [Nat.ble_eq_true_of_le h'] at h; cases h)]
   simp only [natPzC_eq]
   show tm.hi.setK (natPz t) v (fun hi=>k ⟨tm.lo,hi,tm.ml⟩)=_
   rw [Tr.setK_eq]
theorem Tm.put_ml (tm:Tm) (t:Nat) (v:AV):(tm.put t v).ml=tm.ml:=by
 unfold Tm.put
 split<;>rfl
theorem Tm.at_put (tm:Tm) (t:Nat) (v:AV) (u:Nat):(tm.put t v).at u=if u=t then v else tm.at u:=by
 unfold Tm.put Tm.at
 by_cases ht:t<=63
 · by_cases hu:u<=63
   · simp only [if_pos ht,if_pos hu]
     rw [o8_p8 (by omega) (by omega)]
     by_cases h1:u/8=t/8
     · rw [if_pos h1,o8_p8 (by omega) (by omega)]
       by_cases h2:u%8=t%8
       · rw [if_pos h2,if_pos (by omega)]
       · rw [if_neg h2,if_neg (by omega),h1]
     · rw [if_neg h1,if_neg (by omega)]
   · simp only [if_pos ht,if_neg hu]
     rw [if_neg (by omega)]
 · by_cases hu:u<=63
   · simp only [if_neg ht,if_pos hu]
     rw [if_neg (by omega)]
   · simp only [if_neg ht,if_neg hu]
     rw [Tr.get_set]
     by_cases h:u=t
     · subst h; rw [if_pos rfl,if_pos rfl]; rfl
     · rw [if_neg (natPz_ne h),if_neg h]
theorem Tm.at_put_same (tm:Tm) (t:Nat) (v:AV):(tm.put t v).at t=v:=by rw [Tm.at_put,if_pos rfl]
theorem Tm.at_put_ne {t u:Nat} (h:u≠t) (tm:Tm) (v:AV):(tm.put t v).at u=tm.at u:=by rw [Tm.at_put,if_neg h]
theorem Tm.at_e (t:Nat):Tm.e.at t=undefA:=by
 unfold Tm.at
 by_cases h:t<=63
 · rw [if_pos h]
   have h1:t/8<8:=by omega
   have h2:t%8<8:=by omega
   generalize t/8=a at h1
   generalize t%8=b at h2
   rcases d8 h1 with rfl | rfl | rfl | rfl | rfl | rfl | rfl | rfl<;>rcases d8 h2 with rfl | rfl | rfl | rfl | rfl | rfl | rfl | rfl<;>rfl
 · rw [if_neg h]
   show ((Tr.e:Tr AV).get (natPz t)).getD undefA=undefA
   rw [Tr.get_e]; rfl
theorem ifK_true (x y:Rs):ifK true x y=x:=rfl
theorem ifK_false (x y:Rs):ifK false x y=y:=rfl
theorem ifK_ok {b:Bool} {x:Rs} {n:Nat} (h:ifK b x (.bad n)=.ok):b=true/\x=.ok:=by
 cases b with
 | true=>exact⟨rfl,h⟩
 | false=>cases h
theorem ifK_two {b:Bool} {x y:Rs} (h:ifK b x y=.ok):(b=true/\x=.ok)∨(b=false/\y=.ok):=by
 cases b with
 | true=>exact .inl ⟨rfl,h⟩
 | false=>exact .inr ⟨rfl,h⟩
theorem natF_eq (n:Nat) (k:Nat->Rs):natF n k=k n:=by cases n<;>rfl
theorem intF_eq (z:Int) (k:Int->Rs):intF z k=k z:=by
 cases z with
 | ofNat m=>exact natF_eq m fun m=>k (.ofNat m)
 | negSucc m=>exact natF_eq m fun m=>k (.negSucc m)
theorem boolF_eq (b:Bool) (k:Bool->Rs):boolF b k=k b:=by cases b<;>rfl
theorem asInt_ok {v:AV} {k:IntKind->Int->Rs} (h:asInt v k=.ok):∃kd n,v=.int kd n/\k kd n=.ok:=by
 cases v<;>first | exact⟨_,_,rfl,h⟩ | cases h
theorem asBool_ok {v:AV} {k:Bool->Rs} (h:asBool v k=.ok):∃b,v=.bool b/\k b=.ok:=by
 cases v<;>first | exact⟨_,rfl,h⟩ | cases h
theorem asPtr_ok {v:AV} {k:Pz->Nat->Rs} (h:asPtr v k=.ok):∃p o,v=.ptr p o/\k p o=.ok:=by
 cases v<;>first | exact⟨_,_,rfl,h⟩ | cases h
theorem asNat_ok {v:AV} {k:Nat->Rs} (h:asNat v k=.ok):∃kd n,v=.int kd (.ofNat n)/\k n=.ok:=by
 obtain⟨kd,n,rfl,h⟩:=asInt_ok h
 cases n with
 | ofNat n=>exact⟨kd,n,rfl,h⟩
 | negSucc n=>cases h
theorem beq_ok {a b:Nat} (h:Nat.beq a b=true):a=b:=Nat.eq_of_beq_eq_true h
theorem ble_ok {a b:Nat} (h:Nat.ble a b=true):a<=b:=Nat.le_of_ble_eq_true h
theorem blt_ok {a b:Nat} (h:Nat.blt a b=true):a<b:=Nat.le_of_ble_eq_true h
theorem ble_no {a b:Nat} (h:Nat.ble a b=false):b<a:=by
 rcases Nat.lt_or_ge b a with h' | h'
 · exact h'
 · rw [Nat.ble_eq_true_of_le h'] at h; cases h
theorem blt_no {a b:Nat} (h:Nat.blt a b=false):b<=a:=by have:=ble_no (a:=a.succ) (b:=b) h; omega
theorem beq_no {a b:Nat} (h:Nat.beq a b=false):a≠b:=fun e=>by rw [e,Nat.beq_refl] at h; cases h
theorem nthK_ok {α:Type} (r:Nat):∀{l:List α} {k:α->Rs},nthK r l k=.ok->∃v,l[r]?=some v/\k v=.ok:=by
 induction r with
 | zero=>intro l k h; cases l with
   | nil=>cases h
   | cons x t=>exact⟨x,rfl,h⟩
 | succ r ih=>intro l k h; cases l with
   | nil=>cases h
   | cons x t=>obtain⟨v,h1,h2⟩:=ih h; exact⟨v,by simpa using h1,h2⟩
theorem takeK_ok (n:Nat):∀{l:List AV} {k:List AV->Rs},takeK n l k=.ok->n<=l.length/\k (l.take n)=.ok:=by
 induction n with
 | zero=>intro l k h; exact⟨Nat.zero_le _,by rw [List.take_zero]; exact h⟩
 | succ n ih=>intro l k h; cases l with
   | nil=>cases h
   | cons x t=>obtain⟨h1,h2⟩:=ih h; exact⟨by simpa using h1,by simpa using h2⟩
theorem dropK_ok (n:Nat):∀{l:List AV} {k:List AV->Rs},dropK n l k=.ok->n<=l.length/\k (l.drop n)=.ok:=by
 induction n with
 | zero=>intro l k h; exact⟨Nat.zero_le _,by rw [List.drop_zero]; exact h⟩
 | succ n ih=>intro l k h; cases l with
   | nil=>cases h
   | cons x t=>obtain⟨h1,h2⟩:=ih h; exact⟨by simpa using h1,by simpa using h2⟩
theorem overK_ok (vs:List AV):∀{l:List AV} {k:List AV->Rs},overK vs l k=.ok->vs.length<=l.length/\k (vs++l.drop vs.length)=.ok:=by
 induction vs with
 | nil=>intro l k h; exact⟨Nat.zero_le _,h⟩
 | cons v vs ih=>intro l k h; cases l with
   | nil=>cases h
   | cons x t=>obtain⟨h1,h2⟩:=ih h; exact⟨by simpa using h1,by simpa using h2⟩
def splice (r:Nat) (vs l:List AV):List AV:=l.take r++vs++l.drop (r+vs.length)
theorem spliceK_ok (r:Nat):∀{vs l:List AV} {k:List AV->Rs},spliceK r vs l k=.ok->r+vs.length<=l.length/\k (splice r vs l)=.ok:=by
 induction r with
 | zero=>intro vs l k h; obtain⟨h1,h2⟩:=overK_ok vs h; exact⟨by omega,by simpa [splice] using h2⟩
 | succ r ih=>intro vs l k h; cases l with
   | nil=>cases h
   | cons x t =>
     obtain⟨h1,h2⟩:=ih (vs:=vs) (l:=t) (k:=fun t=>k (x::t)) h
     exact⟨by simp only [List.length_cons]; omega,by simpa [splice,Nat.add_right_comm] using h2⟩
theorem selStr_eq (v:AV) (z:Rs) (kk:Nat->Nat->Rs):selStr v z kk=(match v with | .str l n=>kk l n | _=>z):=by cases v<;>rfl
theorem selTup_eq (v:AV) (z:Rs) (kk:List AV->Rs):selTup v z kk=(match v with | .tup vs=>kk vs | _=>z):=by cases v<;>rfl
theorem kindEq_ok {a b:IntKind} (h:kindEq a b=true):a=b:=by cases a<;>cases b<;>first | rfl | cases h
def bytesOf:Nat->Nat->List UInt8
 | 0,_=>[]
 | l+1,n=>bytesOf l (n/256)++[UInt8.ofNat (n%256)]
theorem bytesOf_length:∀l n,(bytesOf l n).length=l
 | 0,_=>rfl
 | l+1,n=>by simp [bytesOf,bytesOf_length l]
structure En where
 blk:Pz->Nat
 sh:Pz->Nat
 kap:Pz->Nat
noncomputable def renFn (ι:En):Fn->Fn
 | .yield j=>.yield (ι.blk (natPz (j-1)))
 | f=>f
theorem renFn_ok {f:Fn} (h:okFn f=true) (ι:En):renFn ι f=f:=by cases f<;>first | rfl | cases h
def pairAt:Nat->Nat × Nat
 | 0=>(0,0)
 | n+1=>match pairAt n with
   | (0,b)=>(b+1,0)
   | (a+1,b)=>(a,b+1)
theorem pairAt_onto (s b a:Nat) (h:a+b=s):∃n,pairAt n=(a,b):=by
 match b,a with
 | 0,0=>exact⟨0,rfl⟩
 | 0,a+1=>obtain⟨n,hn⟩:=pairAt_onto a a 0 (by omega); exact⟨n+1,by simp [pairAt,hn]⟩
 | b+1,a=>obtain⟨n,hn⟩:=pairAt_onto s b (a+1) (by omega); exact⟨n+1,by simp [pairAt,hn]⟩
 termination_by (s,b)
def radr (b o len cap:Nat):Addr:=if len=0/\cap=0 then ⟨b,(pairAt o).1,match (pairAt o).2 with | 0=>none | s+1=>some s⟩ else ⟨b,o,none⟩
theorem radr_pos {b o len cap:Nat} (h:¬(len=0/\cap=0)):radr b o len cap=⟨b,o,none⟩:=if_neg h
theorem radr_zero (b len cap:Nat):radr b 0 len cap=⟨b,0,none⟩:=by unfold radr; split<;>rfl
theorem radr_onto (a:Addr):∃o,radr a.block o 0 0=a:=by
 obtain⟨b,o,s⟩:=a
 cases s with
 | none=>obtain⟨n,hn⟩:=pairAt_onto _ 0 o rfl; exact⟨n,by simp [radr,hn]⟩
 | some s=>obtain⟨n,hn⟩:=pairAt_onto _ (s+1) o rfl; exact⟨n,by simp [radr,hn]⟩
mutual
noncomputable def ren (ι:En):AV->Value
 | .bool b=>.bool b
 | .int k n=>.int k n
 | .str l n=>.string ⟨(bytesOf l n).toArray⟩
 | .float k b=>.float k b
 | .ptr id off=>.pointer (some ⟨ι.blk id,ι.sh id+off,none⟩)
 | .nilp=>.pointer none
 | .slice id off len cap=>.slice (some ⟨ι.blk id,ι.sh id+off,none⟩) len cap
 | .oslice id off len skip=>.slice (some ⟨ι.blk id,ι.sh id+off,none⟩) len (ι.kap id-skip)
 | .nils=>.slice none 0 0
 | .map id=>.map (some (ι.blk id))
 | .nilmap=>.map none
 | .func fn first captured=>.func (renFn ι fn) (renL ι first).toArray (renL ι captured).toArray
 | .nilfunc=>.nilFunc
 | .iface t v=>.iface t (ren ι v)
 | .nilIface=>.nilIface
 | .agg cs=>.agg (renL ι cs).toArray
 | .tup vs=>.tuple (renL ι vs).toArray
 | .rsl b o len cap=>.slice (some (radr b o len cap)) len cap
 | .rpt b o=>.pointer (some ⟨b,o,none⟩)
 | .rmp b=>.map (some b)
noncomputable def renL (ι:En):List AV->List Value
 | []=>[]
 | v::vs=>ren ι v::renL ι vs
end
theorem renL_eq (ι:En):∀l,renL ι l=l.map (ren ι)
 | []=>by simp [renL]
 | v::vs=>by simp [renL,renL_eq ι vs]
theorem renL_length (ι:En) (l:List AV):(renL ι l).length=l.length:=by rw [renL_eq]; simp
theorem renL_append (ι:En) (a b:List AV):renL ι (a++b)=renL ι a++renL ι b:=by simp [renL_eq]
theorem renL_take (ι:En) (n:Nat) (a:List AV):renL ι (a.take n)=(renL ι a).take n:=by simp [renL_eq]
theorem renL_drop (ι:En) (n:Nat) (a:List AV):renL ι (a.drop n)=(renL ι a).drop n:=by simp [renL_eq]
theorem renL_get (ι:En) (a:List AV) (i:Nat):(renL ι a)[i]?=(a[i]?).map (ren ι):=by simp [renL_eq]
theorem ren_undef (ι:En):ren ι undefA=undef:=by simp [undefA,ren,renL,undef]
theorem ren_cells (ι:En) (v:AV):(ren ι v).cells=(renL ι v.cells).toArray:=by
 cases v<;>simp [AV.cells,Value.cells,ren,renL]
theorem bytesOf_mod:∀(l n:Nat),bytesOf l (n%256 ^ l)=bytesOf l n
 | 0,_=>rfl
 | l+1,n=>by
   have h1:n%256 ^ (l+1)/256=n/256%256 ^ l:=by rw [Nat.pow_succ,Nat.mul_comm,Nat.mod_mul_right_div_self]
   have h2:n%256 ^ (l+1)%256=n%256:=by rw [Nat.pow_succ,Nat.mul_comm,Nat.mod_mul_right_mod]
   simp only [bytesOf]
   rw [h1,h2,bytesOf_mod l]
theorem bytesOf_snoc (l n b:Nat) (hb:b<256):bytesOf (l+1) (n*256+b)=bytesOf l n++[UInt8.ofNat b]:=by
 simp only [bytesOf]
 rw [show (n*256+b)/256=n by omega,show (n*256+b)%256=b by omega]
theorem bytesOf_fold:∀(l:List UInt8) (k n:Nat),bytesOf (k+l.length) (l.foldl (fun n b=>n*256+b.toNat) n)=bytesOf k n++l
 | [],k,n=>by simp
 | b::l,k,n=>by
   have h:=bytesOf_fold l (k+1) (n*256+b.toNat)
   rw [bytesOf_snoc _ _ _ b.toNat_lt] at h
   simp only [List.foldl_cons,List.length_cons]
   rw [show k+(l.length+1)=k+1+l.length by omega,h]
   simp
theorem bytesOf_absStr (l:List UInt8):bytesOf l.length (absStr l)=l:=by
 have:=bytesOf_fold l 0 0
 simpa [absStr,bytesOf] using this
theorem bytesOf_inj:∀(l m n:Nat),bytesOf l m=bytesOf l n->m%256 ^ l=n%256 ^ l
 | 0,m,n,_=>by simp [Nat.mod_one]
 | l+1,m,n,h=>by
   simp only [bytesOf] at h
   have hl:(bytesOf l (m/256)).length=(bytesOf l (n/256)).length:=by rw [bytesOf_length,bytesOf_length]
   obtain⟨h1,h2⟩:=List.append_inj h hl
   have hi:=bytesOf_inj l _ _ h1
   have h3:m%256=n%256:=by
    have h4:(UInt8.ofNat (m%256)).toNat=(UInt8.ofNat (n%256)).toNat:=by rw [List.cons.inj h2 |>.1]
    simp only [UInt8.toNat_ofNat'] at h4
    omega
   have e1:m%256 ^ (l+1)=256*(m/256%256 ^ l)+m%256:=by
    rw [Nat.pow_succ,Nat.mul_comm,Nat.mod_mul]; omega
   have e2:n%256 ^ (l+1)=256*(n/256%256 ^ l)+n%256:=by
    rw [Nat.pow_succ,Nat.mul_comm,Nat.mod_mul]; omega
   rw [e1,e2,hi,h3]
theorem pow8_eq (n:Nat):pow8 n=256 ^ n:=by
 unfold pow8
 rw [show Nat.shiftLeft 1 (8*n)=1 <<< (8*n) from rfl,Nat.shiftLeft_eq,Nat.one_mul,Nat.pow_mul]
theorem strEq_iff (l m l' m':Nat):strEq l m l' m'=(bytesOf l m==bytesOf l' m'):=by
 unfold strEq strNorm
 rw [pow8_eq,pow8_eq,Bool.eq_iff_iff]
 simp only [Bool.and_eq_true,beq_iff_eq]
 constructor
 · rintro⟨h1,h2⟩
   have h1:=beq_ok h1
   have h2:=beq_ok h2
   subst h1
   have h3:m%256 ^ l=m'%256 ^ l:=h2
   rw [<-bytesOf_mod l m,h3,bytesOf_mod]
 · intro h
   have hl:l=l':=by rw [<-bytesOf_length l m,h,bytesOf_length]
   subst hl
   have h3:=bytesOf_inj l m m' h
   exact⟨Nat.beq_refl _,by show Nat.beq (m%256 ^ l) (m'%256 ^ l)=true; rw [h3]; exact Nat.beq_refl _⟩
theorem bytesOf_append:∀(l' l m m':Nat),bytesOf (l+l') (m*256 ^ l'+m'%256 ^ l')=bytesOf l m++bytesOf l' m'
 | 0,l,m,m'=>by simp [bytesOf,Nat.mod_one]
 | l'+1,l,m,m'=>by
   have e:m'%256 ^ (l'+1)=256*(m'/256%256 ^ l')+m'%256:=by rw [Nat.pow_succ,Nat.mul_comm,Nat.mod_mul]; omega
   have e2:m*256 ^ (l'+1)+m'%256 ^ (l'+1)=(m*256 ^ l'+m'/256%256 ^ l')*256+m'%256:=by
    rw [e,Nat.pow_succ,Nat.add_mul,Nat.mul_assoc]; omega
   rw [e2,show l+(l'+1)=(l+l')+1 by omega,bytesOf_snoc _ _ _ (Nat.mod_lt _ (by decide)),bytesOf_append l' l m]
   simp [bytesOf]
theorem bytesOf_take:∀(d l n:Nat),bytesOf l (n/256 ^ d)=(bytesOf (l+d) n).take l
 | 0,l,n=>by
   rw [Nat.pow_zero,Nat.div_one,Nat.add_zero,List.take_of_length_le (by rw [bytesOf_length]; exact Nat.le_refl _)]
 | d+1,l,n=>by
   have h:=bytesOf_take d l (n/256)
   rw [Nat.div_div_eq_div_mul,<-Nat.pow_succ'] at h
   rw [h,show l+(d+1)=(l+d)+1 by omega]
   simp only [bytesOf]
   rw [List.take_append_of_le_length (by rw [bytesOf_length]; omega)]
theorem bytesOf_drop:∀(l d n:Nat),bytesOf l n=(bytesOf (d+l) n).drop d
 | 0,d,n=>by
   rw [List.drop_of_length_le (by rw [bytesOf_length]; exact Nat.le_refl _)]; rfl
 | l+1,d,n=>by
   rw [show d+(l+1)=(d+l)+1 by omega]
   simp only [bytesOf]
   rw [List.drop_append_of_le_length (by rw [bytesOf_length]; omega),<-bytesOf_drop l d]
theorem bytesOf_get:∀(l n i:Nat),i<l->(bytesOf l n)[i]?=some (UInt8.ofNat (n/256 ^ (l-(i+1))%256))
 | 0,_,_,h=>by omega
 | l+1,n,i,h=>by
   simp only [bytesOf]
   by_cases hi:i<l
   · rw [List.getElem?_append_left (by rw [bytesOf_length]; exact hi),bytesOf_get l (n/256) i hi,Nat.div_div_eq_div_mul,<-Nat.pow_succ',show (l-(i+1)).succ=l+1-(i+1) by omega]
   · have:i=l:=by omega
     subst this
     rw [List.getElem?_append_right (by rw [bytesOf_length]; exact Nat.le_refl _),bytesOf_length]
     simp
end Go.Rex
namespace Go.Rex
open Go.RowKit
def Agree (nx:Pz) (ι ι':En):Prop:=∀id:Pz,id.num<nx.num->ι'.blk id=ι.blk id/\ι'.sh id=ι.sh id/\ι'.kap id=ι.kap id
theorem Agree.refl (nx:Pz) (ι:En):Agree nx ι ι:=fun _ _=>⟨rfl,rfl,rfl⟩
theorem Agree.trans {nx nx':Pz} {a b c:En} (h:Agree nx a b) (h':Agree nx' b c) (hle:nx.num<=nx'.num):Agree nx a c:=fun id hid =>
 ⟨(h' id (by omega)).1.trans (h id hid).1,(h' id (by omega)).2.1.trans (h id hid).2.1,(h' id (by omega)).2.2.trans (h id hid).2.2⟩
def cellsAt (ι:En) (C:Array Value) (base es n:Nat) (c:Tr (List AV)):Prop :=
 ∀q,q<n->∃l,c.get (natPz q)=some l/\l.length=es/\∀r,r<es->C[base+(q*es+r)]?=(l[r]?).map (ren ι)
def live (hp:Tr AO) (f:Pz) (ep:Nat):Prop:=∃solo,hp.get f=some (.fam ep solo)
def own (hp:Tr AO):AO->Prop
 | .seg f ep _ _ _ _ _=>live hp f ep
 | .fam _ _=>False
 | _=>True
def unfrozen (fz:Nat × Nat) (m:Nat):Prop:=fz.1=fz.2∨m<=fz.1
theorem unfrozen.no {fz:Nat × Nat} {m:Nat} (h:unfrozen fz m) (o:Nat) (ho:o<m):¬(fz.1<=o/\o<fz.2):=by
 rcases h with h | h<;>omega
noncomputable def entR (ι:En) (e:ME):MapEntry:=⟨ren ι e.key,ren ι e.val,e.born⟩
def exCode:Ex->Option Code
 | .nrm=>none
 | .ext id=>some (.exit id)
 | .ret=>some .ret
def stOf:LS->LoopState
 | .ready=>.ready
 | .busy=>.busy
 | .done _=>.done
def pendOf:LS->Option Code
 | .done e=>exCode e
 | _=>none
def ObjOk (ι:En) (hp:Tr AO) (w:World) (id:Pz):AO->Prop
 | .arr es n el c=>∃C fz,w.heap[ι.blk id]?=some (.cells C el fz)/\ι.sh id=0/\C.size=n*es/\cellsAt ι C 0 es n c/\unfrozen fz C.size
 | .seg f ep _ es n el c=>live hp f ep->∃C fz,w.heap[ι.blk id]?=some (.cells C el fz)/\ι.sh id+ι.kap id*es<=C.size/\n<=ι.kap id/\cellsAt ι C (ι.sh id) es n c/\unfrozen fz C.size
 | .fam _ _=>True
 | .map es clock=>∃E:Array MapEntry,w.heap[ι.blk id]?=some (.map E clock)/\E.toList=es.map (entR ι)
 | .loop _ nt tm ps x y st=>∃fn tmps D,w.heap[ι.blk id]?=some (.loop { state:=stOf st,pending:=pendOf st,fn,tmps,params:=ps,assign:=x,body:=y,defers:=D })/\tmps.size=nt/\tm.ml=[]/\∀t,tmps.getD t undef=ren ι (tm.at t)
 | .dmark=>w.heap[ι.blk id]?=some (.deferred (some []))
 | .gone=>(w.heap[ι.blk id]?).isSome=true
 | .iter m since seen clock=>w.heap[ι.blk id]?=some (.mapIter (some (ι.blk m)) since seen.reverse.toArray clock)/\ι.sh id=0
def famOf:AO->Option Pz
 | .seg f _ _ _ _ _ _=>some f
 | _=>none
structure Kept (B:Nat->Prop) (w w':World):Prop where
 os:w'.os=w.os
 tape:w'.tape=w.tape
 output:w'.output=w.output
 size:w.heap.size<=w'.heap.size
 block:∀k,B k->w'.heap[k]?=w.heap[k]?
theorem Kept.refl (B:Nat->Prop) (w:World):Kept B w w:=⟨rfl,rfl,rfl,Nat.le_refl _,fun _ _=>rfl⟩
theorem Kept.trans {B:Nat->Prop} {a b c:World} (h:Kept B a b) (k:Kept B b c):Kept B a c :=
 ⟨k.os.trans h.os,k.tape.trans h.tape,k.output.trans h.output,Nat.le_trans h.size k.size,fun i hi=>(k.block i hi).trans (h.block i hi)⟩
theorem Kept.mono {B B':Nat->Prop} {a b:World} (h:Kept B a b) (hB:∀k,B' k->B k):Kept B' a b:=⟨h.os,h.tape,h.output,h.size,fun k hk=>h.block k (hB k hk)⟩
theorem Kept.drew {B:Nat->Prop} {a w:World} (h:Kept B a w):Kept B a w.drew:=⟨h.os,h.tape,h.output,h.size,h.block⟩
theorem Kept.alloc {B:Nat->Prop} {a w:World} (h:Kept B a w) (hB:∀k,B k->k<w.heap.size) (o:Obj):Kept B a (w.alloc o) :=
 h.trans ⟨rfl,rfl,rfl,by simp,fun k hk=>Below.heap_alloc _ _ _ (hB k hk)⟩
theorem Kept.setCell {B:Nat->Prop} {a w:World} (h:Kept B a w) {p:Addr} (hp:¬B p.block) (u:Value):Kept B a (w.setCell p u) :=
 h.trans ⟨rfl,rfl,rfl,by simp [World.setCell],fun k hk=>Below.heap_setCell _ _ _ _ (fun e=>hp (e▸hk))⟩
structure Core (B:Nat->Prop) (w0:World) (ι:En) (hp:Tr AO) (w:World):Prop where
 below:Kept B w0 w
 room:∀k,B k->k<w.heap.size
 obj:∀id o,hp.get id=some o->ObjOk ι hp w id o
 base:∀id o,hp.get id=some o->own hp o->¬B (ι.blk id)
 sep:∀id id' o o',id≠id'->hp.get id=some o->hp.get id'=some o'->own hp o->own hp o'->ι.blk id=ι.blk id'->∃f,famOf o=some f/\famOf o'=some f
 tip:∀id id' f ep es n el c f' ep' tp' es' n' el' c',id≠id'->hp.get id=some (.seg f ep true es n el c)->hp.get id'=some (.seg f' ep' tp' es' n' el' c')->live hp f ep->live hp f' ep' ->
  (f=f'->tp'=false)/\(ι.blk id=ι.blk id'->n<ι.kap id->ι.sh id'+n'*es'<=ι.sh id+n*es)
structure Wf (hp:Tr AO) (nx:Pz):Prop where
 lt:∀id o,hp.get id=some o->id.num<nx.num
 fam:∀id f ep tp es n el c,hp.get id=some (.seg f ep tp es n el c)->f.num<nx.num
 ep:∀id f ep tp es n el c e s,hp.get id=some (.seg f ep tp es n el c)->hp.get f=some (.fam e s)->ep<=e
 solo:∀f e id id' tp es n el c tp' es' n' el' c',hp.get f=some (.fam e true)->hp.get id=some (.seg f e tp es n el c)->hp.get id'=some (.seg f e tp' es' n' el' c')->id=id'
theorem addr_add (b o n:Nat):(⟨b,o,none⟩:Addr).add n=⟨b,o+n,none⟩:=by
 unfold Addr.add
 split
 · rename_i h; subst h; rfl
 · rfl
theorem cell_of {w:World} {b:Nat} {C:Array Value} {el:TypeId} {fz:Nat × Nat} (h:w.heap[b]?=some (.cells C el fz)) (o:Nat):w.cell? ⟨b,o,none⟩=C[o]?:=by
 simp [World.cell?,h]
theorem frozen_of {w:World} {b:Nat} {C:Array Value} {el:TypeId} {fz:Nat × Nat} (h:w.heap[b]?=some (.cells C el fz)) (o:Nat):w.frozen? ⟨b,o,none⟩=(decide (fz.1<=o)&&decide (o<fz.2)):=by
 obtain⟨lo,hi⟩:=fz
 simp [World.frozen?,h]
theorem liveK_ok {hp:Tr AO} {f:Pz} {ep:Nat} {k:Bool->Rs} (h:liveK hp f ep k=.ok):∃solo,hp.get f=some (.fam ep solo)/\k solo=.ok:=by
 obtain⟨o,ho,h⟩:=getK_ok h
 cases o with
 | fam e solo =>
   obtain⟨he,hk⟩:=ifK_ok h
   have:=beq_ok he
   subst this
   exact⟨solo,ho,hk⟩
 | arr=>cases h
 | seg=>cases h
 | map=>cases h
 | iter=>cases h
 | loop=>cases h
 | dmark=>cases h
 | gone=>cases h
def RowAt (ι:En) (w:World) (id:Pz) (es n:Nat) (c:Tr (List AV)):Prop :=
 ∃C el fz,w.heap[ι.blk id]?=some (.cells C el fz)/\ι.sh id+n*es<=C.size/\cellsAt ι C (ι.sh id) es n c/\unfrozen fz C.size
theorem rowK_ok {hp:Tr AO} {id:Pz} {k:Nat->Nat->Tr (List AV)->Rs} (h:rowK hp id k=.ok) :
  ∃es n c,k es n c=.ok/\(∃o,hp.get id=some o/\own hp o)/\∀B w0 ι w,Core B w0 ι hp w->RowAt ι w id es n c:=by
 obtain⟨o,ho,h⟩:=getK_ok h
 cases o with
 | arr es n el c =>
   refine⟨es,n,c,h,⟨_,ho,trivial⟩,fun B w0 ι w hc=>?_⟩
   obtain⟨C,fz,h1,h2,h3,h4,h5⟩:=hc.obj _ _ ho
   exact⟨C,el,fz,h1,by rw [h2,h3]; omega,by rw [h2]; exact h4,h5⟩
 | seg f ep tp es n el c =>
   obtain⟨solo,hf,h⟩:=liveK_ok h
   refine⟨es,n,c,h,⟨_,ho,⟨solo,hf⟩⟩,fun B w0 ι w hc=>?_⟩
   obtain⟨C,fz,h1,h2,h3,h4,h5⟩:=hc.obj _ _ ho ⟨solo,hf⟩
   exact⟨C,el,fz,h1,Nat.le_trans (Nat.add_le_add_left (Nat.mul_le_mul_right _ h3) _) h2,h4,h5⟩
 | fam=>cases h
 | map=>cases h
 | iter=>cases h
 | loop=>cases h
 | dmark=>cases h
 | gone=>cases h
theorem elemK_ok {es n:Nat} {c:Tr (List AV)} {off:Nat} {k:Nat->Nat->List AV->Rs} (h:elemK es n c off k=.ok) :
  ∃l,off/es<n/\c.get (natPz (off/es))=some l/\k (off/es) (off%es) l=.ok:=by
 unfold elemK at h
 rw [natF_eq,natF_eq] at h
 obtain⟨h1,h⟩:=ifK_ok h
 obtain⟨l,h2,h⟩:=getK_ok h
 exact⟨l,blt_ok h1,h2,h⟩
theorem RowAt.cell {ι:En} {w:World} {id:Pz} {es n:Nat} {c:Tr (List AV)} (h:RowAt ι w id es n c) {off:Nat} {l:List AV} (hq:off/es<n) (hl:c.get (natPz (off/es))=some l) (i:Nat) (hi:off%es+i<l.length) :
  w.cell? ⟨ι.blk id,ι.sh id+(off+i),none⟩=(l[off%es+i]?).map (ren ι):=by
 obtain⟨C,el,fz,h1,h2,h3,h4⟩:=h
 obtain⟨l',hl',hlen,hr⟩:=h3 _ hq
 rw [hl] at hl'
 cases hl'
 rw [cell_of h1,<-hr _ (by omega)]
 congr 2
 have:=Nat.div_add_mod off es
 rw [Nat.mul_comm] at this
 omega
theorem readCell_ok {hp:Tr AO} {id:Pz} {off:Nat} {k:AV->Rs} (h:readCell hp id off k=.ok) :
  ∃v,k v=.ok/\∀B w0 ι w,Core B w0 ι hp w->w.cell? ⟨ι.blk id,ι.sh id+off,none⟩=some (ren ι v):=by
 obtain⟨es,n,c,h,_,hrow⟩:=rowK_ok h
 obtain⟨l,hq,hl,h⟩:=elemK_ok h
 obtain⟨v,hv,h⟩:=nthK_ok _ h
 refine⟨v,h,fun B w0 ι w hc=>?_⟩
 have hlt:off%es<l.length:=by
  rcases Nat.lt_or_ge (off%es) l.length with h' | h'
  · exact h'
  · rw [List.getElem?_eq_none h'] at hv; cases hv
 have:=(hrow B w0 ι w hc).cell hq hl 0 (by omega)
 rw [Nat.add_zero,Nat.add_zero,hv] at this
 exact this
def CellsAre (ι:En) (w:World) (id:Pz) (off:Nat) (l:List AV):Prop:=∀i,i<l.length->w.cell? ⟨ι.blk id,ι.sh id+(off+i),none⟩=(l[i]?).map (ren ι)
theorem readCells_ok {hp:Tr AO} {id:Pz} {off sz:Nat} {k:List AV->Rs} (h:readCells hp id off sz k=.ok) :
  ∃l,k l=.ok/\∀B w0 ι w,Core B w0 ι hp w->l.length=sz/\CellsAre ι w id off l:=by
 obtain⟨es,n,c,h,_,hrow⟩:=rowK_ok h
 obtain⟨l,hq,hl,h⟩:=elemK_ok h
 rcases ifK_two h with ⟨hb,h⟩ | ⟨hb,h⟩
 · rw [Bool.and_eq_true] at hb
   have h1:=beq_ok hb.1
   have h2:off%es=0:=beq_ok hb.2
   refine⟨l,h,fun B w0 ι w hc=>⟨?_,fun i hi=>?_⟩⟩
   · obtain⟨C,el,fz,_,_,h3,_⟩:=hrow B w0 ι w hc
     obtain⟨l',hl',hlen,_⟩:=h3 _ hq
     rw [hl] at hl'
     cases hl'
     rw [hlen,h1]
   · have:=(hrow B w0 ι w hc).cell hq hl i (by omega)
     rw [h2,Nat.zero_add] at this
     exact this
 · obtain⟨h1,h⟩:=dropK_ok _ h
   obtain⟨h2,h⟩:=takeK_ok _ h
   rw [List.length_drop] at h2
   refine⟨(l.drop (off%es)).take sz,h,fun B w0 ι w hc=>⟨by rw [List.length_take,List.length_drop]; omega,fun i hi=>?_⟩⟩
   rw [List.length_take,List.length_drop] at hi
   rw [(hrow B w0 ι w hc).cell hq hl i (by omega),List.getElem?_take,if_pos (by omega),List.getElem?_drop]
end Go.Rex
namespace Go.Rex
open Go.RowKit
def putCells (w:World) (b o:Nat):List Value->World
 | []=>w
 | v::vs=>putCells (w.setCell ⟨b,o,none⟩ v) b (o+1) vs
def arrayPut (C:Array Value) (o:Nat):List Value->Array Value
 | []=>C
 | v::vs=>arrayPut (C.setIfInBounds o v) (o+1) vs
theorem arrayPut_size:∀(vs:List Value) (C:Array Value) (o:Nat),(arrayPut C o vs).size=C.size
 | [],_,_=>rfl
 | v::vs,C,o=>by simp only [arrayPut]; rw [arrayPut_size vs]; simp
theorem arrayPut_get:∀(vs:List Value) (C:Array Value) (o i:Nat),o+vs.length<=C.size->(arrayPut C o vs)[i]?=if o<=i/\i<o+vs.length then vs[i-o]? else C[i]?
 | [],C,o,i,_=>by simp only [arrayPut,List.length_nil]; rw [if_neg (by omega)]
 | v::vs,C,o,i,h=>by
   simp only [arrayPut]
   simp only [List.length_cons] at h
   rw [arrayPut_get vs _ _ _ (by simp; omega)]
   simp only [List.length_cons]
   by_cases h1:o+1<=i/\i<o+1+vs.length
   · rw [if_pos h1,if_pos (by omega),show i-o=(i-(o+1))+1 by omega,List.getElem?_cons_succ]
   · rw [if_neg h1,Array.getElem?_setIfInBounds]
     by_cases h2:o=i
     · subst h2
       rw [if_pos rfl,if_pos (by omega),if_pos (by omega),Nat.sub_self]; rfl
     · rw [if_neg h2,if_neg (by omega)]
theorem setCell_block {w:World} {b o:Nat} {v:Value} {C:Array Value} {el:TypeId} {fz:Nat × Nat} (h:w.heap[b]?=some (.cells C el fz)) :
  (w.setCell ⟨b,o,none⟩ v).heap[b]?=some (.cells (C.setIfInBounds o v) el fz):=by
 simp [World.setCell,Array.getElem?_modify,h]
theorem putCells_block:∀(vs:List Value) (w:World) (b o:Nat) (C:Array Value) (el:TypeId) (fz:Nat × Nat),w.heap[b]?=some (.cells C el fz) ->
  (putCells w b o vs).heap[b]?=some (.cells (arrayPut C o vs) el fz)
 | [],_,_,_,_,_,_,h=>h
 | v::vs,w,b,o,C,el,fz,h=>putCells_block vs _ b (o+1) _ el fz (setCell_block h)
theorem putCells_ne:∀(vs:List Value) (w:World) (b o k:Nat),k≠b->(putCells w b o vs).heap[k]?=w.heap[k]?
 | [],_,_,_,_,_=>rfl
 | v::vs,w,b,o,k,h=>by
   simp only [putCells]
   rw [putCells_ne vs _ b (o+1) k h]
   exact Below.heap_setCell w ⟨b,o,none⟩ v k h
theorem putCells_size:∀(vs:List Value) (w:World) (b o:Nat),(putCells w b o vs).heap.size=w.heap.size
 | [],_,_,_=>rfl
 | v::vs,w,b,o=>by simp only [putCells]; rw [putCells_size vs]; simp [World.setCell]
theorem putCells_below {B:Nat->Prop} {w0:World}:∀(vs:List Value) (w:World) (b o:Nat),¬B b->Kept B w0 w->Kept B w0 (putCells w b o vs)
 | [],_,_,_,_,h=>h
 | v::vs,w,b,o,hb,h=>putCells_below vs _ b (o+1) hb (h.setCell (p:=⟨b,o,none⟩) hb v)
theorem flat_cons {v:AV} {vs:List AV} (h:flat (v::vs)=true):oneB v=true/\flat vs=true:=by
 unfold flat at h
 cases hb:oneB v with
 | true=>simp only [hb] at h; exact⟨rfl,h⟩
 | false=>simp only [hb] at h; cases h
def oneV:Value->Bool
 | .agg _=>false
 | .tuple _=>false
 | _=>true
theorem ren_one (ι:En) {v:AV} (h:oneB v=true):oneV (ren ι v)=true:=by
 cases v<;>first | (simp [ren,oneV]; done) | cases h
theorem gone_lt {w:World} {b:Nat} (h:(w.heap[b]?).isSome=true):b<w.heap.size:=by
 rcases Nat.lt_or_ge b w.heap.size with h' | h'
 · exact h'
 · rw [Array.getElem?_eq_none h'] at h; cases h
theorem ObjOk.keep {ι:En} {hp hp':Tr AO} {w w':World} {id:Pz} {o:AO} (h:ObjOk ι hp w id o) (ho:own hp' o->own hp o) (hb:own hp' o->w'.heap[ι.blk id]?=w.heap[ι.blk id]?):ObjOk ι hp' w' id o:=by
 cases o with
 | arr es n el c =>
   obtain⟨C,fz,h1,h2⟩:=h
   exact⟨C,fz,by rw [hb trivial]; exact h1,h2⟩
 | seg f ep tp es n el c =>
   intro hl
   obtain⟨C,fz,h1,h2⟩:=h (ho hl)
   exact⟨C,fz,by rw [hb hl]; exact h1,h2⟩
 | fam=>trivial
 | map es c =>
   obtain⟨E,h1,h2⟩:=h
   exact⟨E,by rw [hb trivial]; exact h1,h2⟩
 | iter=>exact⟨by rw [hb trivial]; exact h.1,h.2⟩
 | loop=>obtain⟨fn,tmps,D,h1,h2⟩:=h; exact⟨fn,tmps,D,by rw [hb trivial]; exact h1,h2⟩
 | dmark=>show w'.heap[ι.blk id]?=_; rw [hb trivial]; exact h
 | gone=>show (w'.heap[ι.blk id]?).isSome=true; rw [hb trivial]; exact h
theorem splice_get (r:Nat) (vs l:List AV) (h:r+vs.length<=l.length) (i:Nat):(splice r vs l)[i]?=if r<=i/\i<r+vs.length then vs[i-r]? else l[i]?:=by
 unfold splice
 by_cases h1:i<r
 · rw [if_neg (by omega),List.append_assoc,List.getElem?_append_left (by rw [List.length_take]; omega),List.getElem?_take,if_pos h1]
 · rw [List.append_assoc,List.getElem?_append_right (by rw [List.length_take]; omega),List.length_take,Nat.min_eq_left (by omega)]
   by_cases h2:i<r+vs.length
   · rw [if_pos ⟨by omega,h2⟩,List.getElem?_append_left (by omega)]
   · rw [if_neg (by omega),List.getElem?_append_right (by omega),List.getElem?_drop]
     congr 1
     omega
theorem splice_length (r:Nat) (vs l:List AV) (h:r+vs.length<=l.length):(splice r vs l).length=l.length:=by
 unfold splice
 simp only [List.length_append,List.length_take,List.length_drop]
 omega
theorem cellsAt_put {ι:En} {C:Array Value} {base es n:Nat} {c:Tr (List AV)} (h:cellsAt ι C base es n c) {off:Nat} {l vs:List AV} (hq:off/es<n) (hl:c.get (natPz (off/es))=some l)
  (hr:off%es+vs.length<=l.length) (hC:base+n*es<=C.size):cellsAt ι (arrayPut C (base+off) (renL ι vs)) base es n (c.set (natPz (off/es)) (splice (off%es) vs l)):=by
 have hdm:off/es*es+off%es=off:=by have:=Nat.div_add_mod off es; rw [Nat.mul_comm] at this; exact this
 obtain⟨l0,hl0,hlen,hget⟩:=h _ hq
 rw [hl] at hl0
 cases hl0
 have hmul:off/es*es+es<=n*es:=by
  have:=Nat.mul_le_mul_right es (Nat.succ_le_of_lt hq)
  rw [Nat.succ_mul] at this
  exact this
 have hb:base+off+(renL ι vs).length<=C.size:=by rw [renL_length]; omega
 intro q hqn
 by_cases hqq:q=off/es
 · subst hqq
   refine⟨_,Tr.get_set_same _ _ _,by rw [splice_length _ _ _ hr,hlen],fun r hr'=>?_⟩
   rw [arrayPut_get _ _ _ _ hb,splice_get _ _ _ hr,renL_length]
   by_cases hx:off%es<=r/\r<off%es+vs.length
   · rw [if_pos (by omega),if_pos hx,renL_get]
     congr 2
     omega
   · rw [if_neg (by omega),if_neg hx]
     exact hget r hr'
 · obtain⟨l',hl',hlen',hget'⟩:=h q hqn
   refine⟨l',by rw [Tr.get_set_ne (natPz_ne hqq)]; exact hl',hlen',fun r hr'=>?_⟩
   rw [arrayPut_get _ _ _ _ hb,renL_length,if_neg,hget' r hr']
   intro hx
   rcases Nat.lt_or_gt_of_ne hqq with hlt | hgt
   · have:=Nat.mul_le_mul_right es (Nat.succ_le_of_lt hlt)
     rw [Nat.succ_mul] at this
     omega
   · have:=Nat.mul_le_mul_right es (Nat.succ_le_of_lt hgt)
     rw [Nat.succ_mul] at this
     omega
def CanPut (w:World) (b o n:Nat):Prop:=∀i,i<n->(∃u,w.cell? ⟨b,o+i,none⟩=some u)/\w.frozen? ⟨b,o+i,none⟩=false
theorem canPut_of {w:World} {b o n:Nat} {C:Array Value} {el:TypeId} {fz:Nat × Nat} (h:w.heap[b]?=some (.cells C el fz)) (hn:o+n<=C.size) (hf:unfrozen fz C.size):CanPut w b o n:=by
 intro i hi
 refine⟨⟨C[o+i]'(by omega),by rw [cell_of h]; exact Array.getElem?_eq_getElem (by omega)⟩,?_⟩
 rw [frozen_of h]
 have:=hf.no (o+i) (by omega)
 by_cases hx:fz.1<=o+i
 · have hy:¬o+i<fz.2:=fun hy=>this ⟨hx,hy⟩
   simp [hy]
 · simp [hx]
theorem get_set_cases {α:Type} {p q:Pz} {t:Tr α} {x y:α} (h:(t.set p x).get q=some y):(q=p/\x=y)∨(q≠p/\t.get q=some y):=by
 rw [Tr.get_set] at h
 by_cases hq:q=p
 · rw [if_pos hq] at h; exact .inl ⟨hq,Option.some.inj h⟩
 · rw [if_neg hq] at h; exact .inr ⟨hq,h⟩
theorem elem_room {es n off m:Nat} {l:Nat} (hq:off/es<n) (hr:off%es+m<=l) (hl:l=es):off+m<=n*es:=by
 have hdm:off/es*es+off%es=off:=by have:=Nat.div_add_mod off es; rw [Nat.mul_comm] at this; exact this
 have:=Nat.mul_le_mul_right es (Nat.succ_le_of_lt hq)
 rw [Nat.succ_mul] at this
 omega
def PutOk (hp hp':Tr AO) (id:Pz) (off:Nat) (vs:List AV):Prop :=
 (∀nx,Wf hp nx->Wf hp' nx)/\∀B w0 ι w nx,Wf hp nx->Core B w0 ι hp w->Core B w0 ι hp' (putCells w (ι.blk id) (ι.sh id+off) (renL ι vs))/\CanPut w (ι.blk id) (ι.sh id+off) vs.length
theorem put_arr {hp:Tr AO} {id:Pz} {off es n:Nat} {el:TypeId} {c:Tr (List AV)} {l vs:List AV} (ho:hp.get id=some (.arr es n el c)) (hq:off/es<n) (hl:c.get (natPz (off/es))=some l)
  (hr:off%es+vs.length<=l.length):PutOk hp (hp.set id (.arr es n el (c.set (natPz (off/es)) (splice (off%es) vs l)))) id off vs:=by
 have hfam:∀f e s,(hp.set id (.arr es n el (c.set (natPz (off/es)) (splice (off%es) vs l)))).get f=some (.fam e s)->hp.get f=some (.fam e s):=by
  intro f e s h
  rcases get_set_cases h with ⟨_,h⟩ | ⟨_,h⟩
  · cases h
  · exact h
 have hseg:∀i f e tp es' n' el' c',(hp.set id (.arr es n el (c.set (natPz (off/es)) (splice (off%es) vs l)))).get i=some (.seg f e tp es' n' el' c')->hp.get i=some (.seg f e tp es' n' el' c'):=by
  intro i f e tp es' n' el' c' h
  rcases get_set_cases h with ⟨_,h⟩ | ⟨_,h⟩
  · cases h
  · exact h
 have hlive:∀f e,live (hp.set id (.arr es n el (c.set (natPz (off/es)) (splice (off%es) vs l)))) f e->live hp f e:=fun f e ⟨s,h⟩=>⟨s,hfam _ _ _ h⟩
 refine⟨fun nx hw=>⟨?_,?_,?_,?_⟩,fun B w0 ι w nx hw hc=>?_⟩
 · intro i o h
   rcases get_set_cases h with ⟨rfl,_⟩ | ⟨_,h⟩
   · exact hw.lt _ _ ho
   · exact hw.lt _ _ h
 · intro i f e tp es' n' el' c' h; exact hw.fam _ _ _ _ _ _ _ _ (hseg _ _ _ _ _ _ _ _ h)
 · intro i f e tp es' n' el' c' e' s h h'; exact hw.ep _ _ _ _ _ _ _ _ _ _ (hseg _ _ _ _ _ _ _ _ h) (hfam _ _ _ h')
 · intro f e i i' tp es' n' el' c' tp' es'' n'' el'' c'' h h1 h2; exact hw.solo _ _ _ _ _ _ _ _ _ _ _ _ _ _ (hfam _ _ _ h) (hseg _ _ _ _ _ _ _ _ h1) (hseg _ _ _ _ _ _ _ _ h2)
 · obtain⟨C,fz,h1,h2,h3,h4,h5⟩:=hc.obj _ _ ho
   obtain⟨l0,hl0,hlen,_⟩:=h4 _ hq
   rw [hl] at hl0
   cases hl0
   have hroom:=elem_room hq hr hlen
   refine⟨⟨putCells_below _ _ _ _ (hc.base _ _ ho trivial) hc.below,fun k hk=>by rw [putCells_size]; exact hc.room k hk,?_,?_,?_,?_⟩,?_⟩
   · intro i o h
     rcases get_set_cases h with ⟨rfl,rfl⟩ | ⟨hne,h⟩
     · refine⟨_,fz,putCells_block _ _ _ _ _ _ _ h1,h2,by rw [arrayPut_size]; exact h3,?_,by rw [arrayPut_size]; exact h5⟩
       have:=cellsAt_put (base:=0) h4 (vs:=vs) hq hl hr (by rw [h3]; omega)
       rw [h2]
       exact this
     · refine (hc.obj _ _ h).keep (fun ho'=>?_) (fun ho'=>?_)
       · cases o with
         | seg=>exact hlive _ _ ho'
         | _=>exact ho'
       · refine putCells_ne _ _ _ _ _ (fun e=>?_)
         have ho2:own hp o:=by
          cases o with
          | seg=>exact hlive _ _ ho'
          | _=>exact ho'
         obtain⟨f,_,h6⟩:=hc.sep _ _ _ _ hne h ho ho2 trivial e
         cases h6
   · intro i o h ho'
     rcases get_set_cases h with ⟨rfl,rfl⟩ | ⟨hne,h⟩
     · exact hc.base _ _ ho trivial
     · refine hc.base _ _ h ?_
       cases o with
       | seg=>exact hlive _ _ ho'
       | _=>exact ho'
   · intro i i' o o' hne h h' ho1 ho2 e
     rcases get_set_cases h with ⟨hi,hoo⟩ | ⟨hne1,g⟩
     · rcases get_set_cases h' with ⟨hi',_⟩ | ⟨hne2,g'⟩
       · exact absurd (hi.trans hi'.symm) hne
       · have ho2':own hp o':=by
          cases o' with
          | seg=>exact hlive _ _ ho2
          | _=>exact ho2
         obtain⟨f,h6,_⟩:=hc.sep i i' (.arr es n el c) _ hne (hi▸ho) g' trivial ho2' e
         cases h6
     · have ho1':own hp o:=by
        cases o with
        | seg=>exact hlive _ _ ho1
        | _=>exact ho1
       rcases get_set_cases h' with ⟨hi',_⟩ | ⟨hne2,g'⟩
       · obtain⟨f,_,h6⟩:=hc.sep i i' _ (.arr es n el c) hne g (hi'▸ho) ho1' trivial e
         cases h6
       · refine hc.sep _ _ _ _ hne g g' ho1' ?_ e
         cases o' with
         | seg=>exact hlive _ _ ho2
         | _=>exact ho2
   · intro i i' f e es' n' el' c' f' e' tp' es'' n'' el'' c'' hne h h' hl1 hl2
     exact hc.tip _ _ _ _ _ _ _ _ _ _ _ _ _ _ _ hne (hseg _ _ _ _ _ _ _ _ h) (hseg _ _ _ _ _ _ _ _ h') (hlive _ _ hl1) (hlive _ _ hl2)
   · exact canPut_of h1 (by rw [h2,h3]; omega) h5
theorem put_seg_core {hp hp':Tr AO} {id f:Pz} {ep ep' off es n:Nat} {tip:Bool} {el:TypeId} {c:Tr (List AV)} {l vs:List AV} (ho:hp.get id=some (.seg f ep tip es n el c)) (hlv:live hp f ep)
  (hq:off/es<n) (hl:c.get (natPz (off/es))=some l) (hr:off%es+vs.length<=l.length)
  (hA:hp'.get id=some (.seg f ep' tip es n el (c.set (natPz (off/es)) (splice (off%es) vs l))))
  (hB:∀i o,i≠id->hp'.get i=some o->hp.get i=some o∨∃e s,o=.fam e s)
  (hC:∀i o,i≠id->hp'.get i=some o->own hp' o->hp.get i=some o/\own hp o/\famOf o≠some f) {B:Nat->Prop} {w0 w:World} {ι:En} (hc:Core B w0 ι hp w) :
  Core B w0 ι hp' (putCells w (ι.blk id) (ι.sh id+off) (renL ι vs))/\CanPut w (ι.blk id) (ι.sh id+off) vs.length:=by
 obtain⟨C,fz,h1,h2,h3,h4,h5⟩:=hc.obj _ _ ho hlv
 obtain⟨l0,hl0,hlen,_⟩:=h4 _ hq
 rw [hl] at hl0
 cases hl0
 have hroom:=elem_room hq hr hlen
 have hkap:n*es<=ι.kap id*es:=Nat.mul_le_mul_right _ h3
 have hsep:∀i o,i≠id->hp'.get i=some o->own hp' o->ι.blk i≠ι.blk id:=by
  intro i o hne h ho' e
  obtain⟨g1,g2,g3⟩:=hC i o hne h ho'
  obtain⟨f',h6,h7⟩:=hc.sep i id o _ hne g1 ho g2 hlv e
  cases h7
  exact g3 h6
 refine⟨⟨putCells_below _ _ _ _ (hc.base _ _ ho hlv) hc.below,fun k hk=>by rw [putCells_size]; exact hc.room k hk,?_,?_,?_,?_⟩,canPut_of h1 (by omega) h5⟩
 · intro i o h
   by_cases hi:i=id
   · subst hi
     rw [hA] at h
     cases h
     intro _
     refine⟨_,fz,putCells_block _ _ _ _ _ _ _ h1,by rw [arrayPut_size]; exact h2,h3,?_,by rw [arrayPut_size]; exact h5⟩
     exact cellsAt_put h4 hq hl hr (by omega)
   · rcases hB i o hi h with g | ⟨e,s,rfl⟩
     · refine (hc.obj _ _ g).keep (fun ho'=>(hC i o hi h ho').2.1) (fun ho'=>putCells_ne _ _ _ _ _ (hsep i o hi h ho'))
     · trivial
 · intro i o h ho'
   by_cases hi:i=id
   · subst hi; exact hc.base _ _ ho hlv
   · obtain⟨g1,g2,_⟩:=hC i o hi h ho'
     exact hc.base _ _ g1 g2
 · intro i i' o o' hne h h' ho1 ho2 e
   by_cases hi:i=id
   · subst hi; exact absurd e.symm (hsep i' o' (fun x=>hne x.symm) h' ho2)
   · by_cases hi':i'=id
     · subst hi'; exact absurd e (hsep i o hi h ho1)
     · obtain⟨g1,g2,_⟩:=hC i o hi h ho1
       obtain⟨g1',g2',_⟩:=hC i' o' hi' h' ho2
       exact hc.sep _ _ _ _ hne g1 g1' g2 g2' e
 · intro i i' f1 e es' n' el' c' f2 e' tp' es'' n'' el'' c'' hne h h' hl1 hl2
   by_cases hi:i=id
   · subst hi
     rw [hA] at h
     cases h
     obtain⟨_,_,g3⟩:=hC i' _ (fun x=>hne x.symm) h' hl2
     exact⟨fun e=>absurd (congrArg some e.symm) g3,fun e=>absurd e.symm (hsep i' _ (fun x=>hne x.symm) h' hl2)⟩
   · by_cases hi':i'=id
     · subst hi'
       rw [hA] at h'
       cases h'
       obtain⟨_,_,g3⟩:=hC i _ hi h hl1
       exact⟨fun e=>absurd (congrArg some e) g3,fun e=>absurd e (hsep i _ hi h hl1)⟩
     · obtain⟨g1,g2,_⟩:=hC i _ hi h hl1
       obtain⟨g1',g2',_⟩:=hC i' _ hi' h' hl2
       exact hc.tip _ _ _ _ _ _ _ _ _ _ _ _ _ _ _ hne g1 g1' g2 g2'
theorem put_seg_solo {hp:Tr AO} {id f:Pz} {ep off es n:Nat} {tip:Bool} {el:TypeId} {c:Tr (List AV)} {l vs:List AV} (ho:hp.get id=some (.seg f ep tip es n el c)) (hf:hp.get f=some (.fam ep true))
  (hq:off/es<n) (hl:c.get (natPz (off/es))=some l) (hr:off%es+vs.length<=l.length):PutOk hp (hp.set id (.seg f ep tip es n el (c.set (natPz (off/es)) (splice (off%es) vs l)))) id off vs:=by
 have hne:f≠id:=fun e=>by rw [e,ho] at hf; cases hf
 generalize hx:(AO.seg f ep tip es n el (c.set (natPz (off/es)) (splice (off%es) vs l)))=x
 have hfam:∀g e s,(hp.set id x).get g=some (.fam e s)->hp.get g=some (.fam e s):=by
  intro g e s h
  rcases get_set_cases h with ⟨_,h⟩ | ⟨_,h⟩
  · rw [<-hx] at h; cases h
  · exact h
 have hseg:∀i g e tp es' n' el' c',(hp.set id x).get i=some (.seg g e tp es' n' el' c')->∃tp es' n' el' c',hp.get i=some (.seg g e tp es' n' el' c'):=by
  intro i g e tp es' n' el' c' h
  rcases get_set_cases h with ⟨hi,h⟩ | ⟨_,h⟩
  · rw [<-hx] at h; cases h; exact⟨_,_,_,_,_,hi▸ho⟩
  · exact⟨_,_,_,_,_,h⟩
 refine⟨fun nx hw=>⟨?_,?_,?_,?_⟩,fun B w0 ι w nx hw hc=>?_⟩
 · intro i o h
   rcases get_set_cases h with ⟨hi,_⟩ | ⟨_,h⟩
   · exact hi▸hw.lt _ _ ho
   · exact hw.lt _ _ h
 · intro i g e tp es' n' el' c' h; obtain⟨_,_,_,_,_,h⟩:=hseg _ _ _ _ _ _ _ _ h; exact hw.fam _ _ _ _ _ _ _ _ h
 · intro i g e tp es' n' el' c' e' s h h'; obtain⟨_,_,_,_,_,h⟩:=hseg _ _ _ _ _ _ _ _ h; exact hw.ep _ _ _ _ _ _ _ _ _ _ h (hfam _ _ _ h')
 · intro g e i i' tp es' n' el' c' tp' es'' n'' el'' c'' h h1 h2
   obtain⟨_,_,_,_,_,h1⟩:=hseg _ _ _ _ _ _ _ _ h1
   obtain⟨_,_,_,_,_,h2⟩:=hseg _ _ _ _ _ _ _ _ h2
   exact hw.solo _ _ _ _ _ _ _ _ _ _ _ _ _ _ (hfam _ _ _ h) h1 h2
 · refine put_seg_core (ep':=ep) ho ⟨_,hf⟩ hq hl hr (by rw [Tr.get_set_same,hx]) (fun i o hi h=>.inl (by rwa [Tr.get_set_ne hi] at h)) (fun i o hi h ho'=>?_) hc
   rw [Tr.get_set_ne hi] at h
   cases o with
   | arr=>exact⟨h,trivial,fun e=>by cases e⟩
   | map=>exact⟨h,trivial,fun e=>by cases e⟩
   | iter=>exact⟨h,trivial,fun e=>by cases e⟩
   | loop=>exact⟨h,trivial,fun e=>by cases e⟩
   | dmark=>exact⟨h,trivial,fun e=>by cases e⟩
   | gone=>exact⟨h,trivial,fun e=>by cases e⟩
   | fam=>exact ho'.elim
   | seg g e tp es' n' el' c' =>
     obtain⟨s,hs⟩:=ho'
     have hs:=hfam _ _ _ hs
     refine⟨h,⟨s,hs⟩,fun e'=>hi ?_⟩
     cases e'
     rw [hf] at hs
     cases hs
     exact hw.solo _ _ _ _ _ _ _ _ _ _ _ _ _ _ hf h ho
theorem put_seg_bump {hp:Tr AO} {id f:Pz} {ep off es n:Nat} {tip s0:Bool} {el:TypeId} {c:Tr (List AV)} {l vs:List AV} (ho:hp.get id=some (.seg f ep tip es n el c)) (hf:hp.get f=some (.fam ep s0))
  (hq:off/es<n) (hl:c.get (natPz (off/es))=some l) (hr:off%es+vs.length<=l.length) :
  PutOk hp ((hp.set f (.fam (ep+1) true)).set id (.seg f (ep+1) tip es n el (c.set (natPz (off/es)) (splice (off%es) vs l)))) id off vs:=by
 have hne:f≠id:=fun e=>by rw [e,ho] at hf; cases hf
 generalize hx:(AO.seg f (ep+1) tip es n el (c.set (natPz (off/es)) (splice (off%es) vs l)))=x
 have hget:∀i o,((hp.set f (.fam (ep+1) true)).set id x).get i=some o->(i=id/\x=o)∨(i≠id/\i=f/\o=.fam (ep+1) true)∨(i≠id/\i≠f/\hp.get i=some o):=by
  intro i o h
  rcases get_set_cases h with ⟨hi,h⟩ | ⟨hi,h⟩
  · exact .inl ⟨hi,h⟩
  · rcases get_set_cases h with ⟨hi',h⟩ | ⟨hi',h⟩
    · exact .inr (.inl ⟨hi,hi',h.symm⟩)
    · exact .inr (.inr ⟨hi,hi',h⟩)
 refine⟨fun nx hw=>⟨?_,?_,?_,?_⟩,fun B w0 ι w nx hw hc=>?_⟩
 · intro i o h
   rcases hget i o h with ⟨hi,_⟩ | ⟨_,hi,_⟩ | ⟨_,_,h⟩
   · exact hi▸hw.lt _ _ ho
   · exact hi▸hw.lt _ _ hf
   · exact hw.lt _ _ h
 · intro i g e tp es' n' el' c' h
   rcases hget i _ h with ⟨hi,h⟩ | ⟨_,hi,h⟩ | ⟨_,_,h⟩
   · rw [<-hx] at h; cases h; exact hw.fam _ _ _ _ _ _ _ _ ho
   · cases h
   · exact hw.fam _ _ _ _ _ _ _ _ h
 · intro i g e tp es' n' el' c' e' s h h'
   rcases hget g _ h' with ⟨_,h'⟩ | ⟨_,hg,h'⟩ | ⟨_,hg,h'⟩
   · rw [<-hx] at h'; cases h'
   · cases h'
     rcases hget i _ h with ⟨hi,h⟩ | ⟨_,hi,h⟩ | ⟨_,_,h⟩
     · rw [<-hx] at h; cases h; exact Nat.le_refl _
     · cases h
     · exact Nat.le_succ_of_le (hw.ep _ _ _ _ _ _ _ _ _ _ h (hg▸hf))
   · rcases hget i _ h with ⟨hi,h⟩ | ⟨_,hi,h⟩ | ⟨_,_,h⟩
     · rw [<-hx] at h; cases h; exact absurd rfl hg
     · cases h
     · exact hw.ep _ _ _ _ _ _ _ _ _ _ h h'
 · intro g e i i' tp es' n' el' c' tp' es'' n'' el'' c'' h h1 h2
   rcases hget g _ h with ⟨_,h⟩ | ⟨_,hg,h⟩ | ⟨_,hg,h⟩
   · rw [<-hx] at h; cases h
   · cases h
     have key:∀j tp es' n' el' c',((hp.set f (.fam (ep+1) true)).set id x).get j=some (.seg g (ep+1) tp es' n' el' c')->j=id:=by
      intro j tp es' n' el' c' h
      rcases hget j _ h with ⟨hi,h⟩ | ⟨_,hi,h⟩ | ⟨_,_,h⟩
      · exact hi
      · cases h
      · have:=hw.ep _ _ _ _ _ _ _ _ _ _ h (hg▸hf); omega
     rw [key _ _ _ _ _ _ h1,key _ _ _ _ _ _ h2]
   · rcases hget i _ h1 with ⟨_,h1⟩ | ⟨_,_,h1⟩ | ⟨_,_,h1⟩
     · rw [<-hx] at h1; cases h1; exact absurd rfl hg
     · cases h1
     · rcases hget i' _ h2 with ⟨_,h2⟩ | ⟨_,_,h2⟩ | ⟨_,_,h2⟩
       · rw [<-hx] at h2; cases h2; exact absurd rfl hg
       · cases h2
       · exact hw.solo _ _ _ _ _ _ _ _ _ _ _ _ _ _ h h1 h2
 · have hff:((hp.set f (.fam (ep+1) true)).set id x).get f=some (.fam (ep+1) true):=by rw [Tr.get_set_ne hne,Tr.get_set_same]
   refine put_seg_core (ep':=ep+1) ho ⟨_,hf⟩ hq hl hr (by rw [Tr.get_set_same,hx]) (fun i o hi h=>?_) (fun i o hi h ho'=>?_) hc
   · rcases hget i o h with ⟨h1,_⟩ | ⟨_,_,h1⟩ | ⟨_,_,h1⟩
     · exact absurd h1 hi
     · exact .inr ⟨_,_,h1⟩
     · exact .inl h1
   · rcases hget i o h with ⟨h1,_⟩ | ⟨_,_,h1⟩ | ⟨_,hif,h1⟩
     · exact absurd h1 hi
     · rw [h1] at ho'; exact ho'.elim
     · cases o with
       | arr=>exact⟨h1,trivial,fun e=>by cases e⟩
       | map=>exact⟨h1,trivial,fun e=>by cases e⟩
       | iter=>exact⟨h1,trivial,fun e=>by cases e⟩
       | loop=>exact⟨h1,trivial,fun e=>by cases e⟩
       | dmark=>exact⟨h1,trivial,fun e=>by cases e⟩
       | gone=>exact⟨h1,trivial,fun e=>by cases e⟩
       | fam=>exact ho'.elim
       | seg g e tp es' n' el' c' =>
         obtain⟨s,hs⟩:=ho'
         by_cases hg:g=f
         · subst hg
           rw [hff] at hs
           cases hs
           have:=hw.ep _ _ _ _ _ _ _ _ _ _ h1 hf
           omega
         · refine⟨h1,⟨s,?_⟩,fun e'=>hg (Option.some.inj e')⟩
           rcases hget g _ hs with ⟨_,h3⟩ | ⟨_,h3,_⟩ | ⟨_,_,h3⟩
           · rw [<-hx] at h3; cases h3
           · exact absurd h3 hg
           · exact h3
theorem writeCells_ok {hp:Tr AO} {id:Pz} {off:Nat} {vs:List AV} {k:Tr AO->Rs} (h:writeCells hp id off vs k=.ok):∃hp',k hp'=.ok/\flat vs=true/\PutOk hp hp' id off vs:=by
 obtain⟨hfl,h⟩:=ifK_ok h
 obtain⟨o,ho,h⟩:=getK_ok h
 cases o with
 | arr es n el c =>
   obtain⟨l,hq,hl,h⟩:=elemK_ok h
   obtain⟨hr,h⟩:=spliceK_ok _ h
   rw [Tr.setK_eq,Tr.setK_eq] at h
   exact⟨_,h,hfl,put_arr ho hq hl hr⟩
 | seg f ep tip es n el c =>
   obtain⟨solo,hf,h⟩:=liveK_ok h
   obtain⟨l,hq,hl,h⟩:=elemK_ok h
   obtain⟨hr,h⟩:=spliceK_ok _ h
   simp only [Tr.setK_eq,natF_eq] at h
   rcases ifK_two h with ⟨rfl,h⟩ | ⟨rfl,h⟩
   · exact⟨_,h,hfl,put_seg_solo ho hf hq hl hr⟩
   · exact⟨_,h,hfl,put_seg_bump ho hf hq hl hr⟩
 | fam=>cases h
 | map=>cases h
 | iter=>cases h
 | loop=>cases h
 | dmark=>cases h
 | gone=>cases h
end Go.Rex
namespace Go.Rex
open Go.RowKit
theorem own_new {hp:Tr AO} {nx:Pz} {x o:AO} (hw:Wf hp nx) (hx:∀e s,x≠.fam e s) (h:own (hp.set nx x) o):own hp o:=by
 cases o with
 | seg f e tp es n el c =>
   obtain⟨s,hs⟩:=h
   rcases get_set_cases hs with ⟨_,h'⟩ | ⟨_,h'⟩
   · exact absurd h' (hx e s)
   · exact⟨s,h'⟩
 | _=>exact h
theorem core_new {B:Nat->Prop} {w0 w:World} {ι:En} {hp:Tr AO} {nx:Pz} {o:AO} {x:Obj} (hw:Wf hp nx) (hc:Core B w0 ι hp w) (hb:ι.blk nx=w.heap.size) (ho:famOf o=none) (hx:∀e s,o≠.fam e s)
  (hob:ObjOk ι (hp.set nx o) (w.alloc x) nx o):Core B w0 ι (hp.set nx o) (w.alloc x):=by
 have hlt:∀i p,hp.get i=some p->own hp p->ι.blk i<w.heap.size:=by
  intro i p hi hp'
  have:=hc.obj _ _ hi
  cases p with
  | arr es n el c=>obtain⟨C,fz,h1,_⟩:=this; exact (Array.getElem?_eq_some_iff.1 h1).1
  | seg f e tp es n el c=>obtain⟨C,fz,h1,_⟩:=this hp'; exact (Array.getElem?_eq_some_iff.1 h1).1
  | fam=>exact hp'.elim
  | map es c=>obtain⟨E,h1,_⟩:=this; exact (Array.getElem?_eq_some_iff.1 h1).1
  | iter=>exact (Array.getElem?_eq_some_iff.1 this.1).1
  | loop=>obtain⟨_,_,_,h1,_⟩:=this; exact (Array.getElem?_eq_some_iff.1 h1).1
  | dmark=>exact (Array.getElem?_eq_some_iff.1 this).1
  | gone=>exact gone_lt this
 have hne:∀i p,hp.get i=some p->i≠nx:=fun i p hi e=>by have:=hw.lt _ _ hi; rw [e] at this; omega
 refine⟨hc.below.alloc hc.room x,fun k hk=>by have:=hc.room k hk; simp; omega,?_,?_,?_,?_⟩
 · intro i p hi
   rcases get_set_cases hi with ⟨rfl,rfl⟩ | ⟨hi',hi⟩
   · exact hob
   · exact (hc.obj _ _ hi).keep (own_new hw hx) fun ho'=>Below.heap_alloc _ _ _ (hlt _ _ hi (own_new hw hx ho'))
 · intro i p hi ho'
   rcases get_set_cases hi with ⟨rfl,_⟩ | ⟨hi',hi⟩
   · rw [hb]; exact fun h=>by have:=hc.room _ h; omega
   · exact hc.base _ _ hi (own_new hw hx ho')
 · intro i i' p p' hii hi hi' ho1 ho2 e
   rcases get_set_cases hi with ⟨h1,h2⟩ | ⟨h1,g1⟩
   · rcases get_set_cases hi' with ⟨h3,_⟩ | ⟨h3,g3⟩
     · exact absurd (h1.trans h3.symm) hii
     · have:=hlt _ _ g3 (own_new hw hx ho2)
       rw [h1,hb] at e
       omega
   · rcases get_set_cases hi' with ⟨h3,_⟩ | ⟨h3,g3⟩
     · have:=hlt _ _ g1 (own_new hw hx ho1)
       rw [h3,hb] at e
       omega
     · exact hc.sep _ _ _ _ hii g1 g3 (own_new hw hx ho1) (own_new hw hx ho2) e
 · intro i i' f e es n el c f' e' tp' es' n' el' c' hii hi hi' hl hl'
   rcases get_set_cases hi with ⟨_,h2⟩ | ⟨h1,g1⟩
   · rw [h2] at ho; cases ho
   · rcases get_set_cases hi' with ⟨_,h4⟩ | ⟨h3,g3⟩
     · rw [h4] at ho; cases ho
     · have q1:own hp (.seg f e true es n el c):=own_new hw hx hl
       have q2:own hp (.seg f' e' tp' es' n' el' c'):=own_new hw hx hl'
       exact hc.tip _ _ _ _ _ _ _ _ _ _ _ _ _ _ _ hii g1 g3 q1 q2
theorem wf_new {hp:Tr AO} {nx:Pz} {o:AO} (hw:Wf hp nx) (ho:famOf o=none) (hx:∀e s,o≠.fam e s):Wf (hp.set nx o) nx.succ:=by
 refine⟨?_,?_,?_,?_⟩
 · intro i p h
   rw [Pz.num_succ]
   rcases get_set_cases h with ⟨rfl,_⟩ | ⟨_,h⟩
   · omega
   · have:=hw.lt _ _ h; omega
 · intro i f e tp es n el c h
   rw [Pz.num_succ]
   rcases get_set_cases h with ⟨_,h⟩ | ⟨_,h⟩
   · rw [h] at ho; cases ho
   · have:=hw.fam _ _ _ _ _ _ _ _ h; omega
 · intro i f e tp es n el c e' s h h'
   rcases get_set_cases h with ⟨_,h⟩ | ⟨_,h⟩
   · rw [h] at ho; cases ho
   · rcases get_set_cases h' with ⟨_,h'⟩ | ⟨_,h'⟩
     · exact absurd h' (hx _ _)
     · exact hw.ep _ _ _ _ _ _ _ _ _ _ h h'
 · intro f e i i' tp es n el c tp' es' n' el' c' h h1 h2
   rcases get_set_cases h with ⟨_,h⟩ | ⟨_,h⟩
   · exact absurd h (hx _ _)
   · rcases get_set_cases h1 with ⟨_,h1⟩ | ⟨_,h1⟩
     · rw [h1] at ho; cases ho
     · rcases get_set_cases h2 with ⟨_,h2⟩ | ⟨_,h2⟩
       · rw [h2] at ho; cases ho
       · exact hw.solo _ _ _ _ _ _ _ _ _ _ _ _ _ _ h h1 h2
theorem core_fam {B:Nat->Prop} {w0 w:World} {ι:En} {hp:Tr AO} {nx:Pz} {ep:Nat} {s:Bool} (hw:Wf hp nx) (hc:Core B w0 ι hp w):Core B w0 ι (hp.set nx (.fam ep s)) w:=by
 have hown:∀i o,hp.get i=some o->own (hp.set nx (.fam ep s)) o->own hp o:=by
  intro i o hi h
  cases o with
  | seg f e tp es n el c =>
    obtain⟨s',hs⟩:=h
    rcases get_set_cases hs with ⟨h1,_⟩ | ⟨_,h'⟩
    · have:=hw.fam _ _ _ _ _ _ _ _ hi; rw [h1] at this; omega
    · exact⟨s',h'⟩
  | _=>exact h
 refine⟨hc.below,hc.room,?_,?_,?_,?_⟩
 · intro i o h
   rcases get_set_cases h with ⟨_,rfl⟩ | ⟨_,h⟩
   · trivial
   · exact (hc.obj _ _ h).keep (hown _ _ h) fun _=>rfl
 · intro i o h ho
   rcases get_set_cases h with ⟨_,rfl⟩ | ⟨_,h⟩
   · exact ho.elim
   · exact hc.base _ _ h (hown _ _ h ho)
 · intro i i' o o' hne h h' ho ho' e
   rcases get_set_cases h with ⟨_,rfl⟩ | ⟨_,h⟩
   · exact ho.elim
   · rcases get_set_cases h' with ⟨_,rfl⟩ | ⟨_,h'⟩
     · exact ho'.elim
     · exact hc.sep _ _ _ _ hne h h' (hown _ _ h ho) (hown _ _ h' ho') e
 · intro i i' f e es n el c f' e' tp' es' n' el' c' hne h h' hl hl'
   rcases get_set_cases h with ⟨_,h⟩ | ⟨_,h⟩
   · cases h
   · rcases get_set_cases h' with ⟨_,h'⟩ | ⟨_,h'⟩
     · cases h'
     · exact hc.tip _ _ _ _ _ _ _ _ _ _ _ _ _ _ _ hne h h' (hown _ _ h hl) (hown _ _ h' hl')
theorem wf_fam {hp:Tr AO} {nx:Pz} {ep:Nat} {s:Bool} (hw:Wf hp nx):Wf (hp.set nx (.fam ep s)) nx.succ:=by
 refine⟨?_,?_,?_,?_⟩
 · intro i p h
   rw [Pz.num_succ]
   rcases get_set_cases h with ⟨rfl,_⟩ | ⟨_,h⟩
   · omega
   · have:=hw.lt _ _ h; omega
 · intro i f e tp es n el c h
   rw [Pz.num_succ]
   rcases get_set_cases h with ⟨_,h⟩ | ⟨_,h⟩
   · cases h
   · have:=hw.fam _ _ _ _ _ _ _ _ h; omega
 · intro i f e tp es n el c e' s' h h'
   rcases get_set_cases h with ⟨_,h⟩ | ⟨_,h⟩
   · cases h
   · rcases get_set_cases h' with ⟨h1,_⟩ | ⟨_,h'⟩
     · have:=hw.fam _ _ _ _ _ _ _ _ h; rw [h1] at this; omega
     · exact hw.ep _ _ _ _ _ _ _ _ _ _ h h'
 · intro f e i i' tp es n el c tp' es' n' el' c' h h1 h2
   rcases get_set_cases h1 with ⟨_,h1⟩ | ⟨_,h1⟩
   · cases h1
   · rcases get_set_cases h2 with ⟨_,h2⟩ | ⟨_,h2⟩
     · cases h2
     · rcases get_set_cases h with ⟨h3,_⟩ | ⟨_,h⟩
       · have:=hw.fam _ _ _ _ _ _ _ _ h1; rw [h3] at this; omega
       · exact hw.solo _ _ _ _ _ _ _ _ _ _ _ _ _ _ h h1 h2
theorem core_child {B:Nat->Prop} {w0 w w':World} {ι:En} {hp:Tr AO} {nx f:Pz} {ep es m:Nat} {tp:Bool} {el:TypeId} {c:Tr (List AV)} (hw:Wf hp nx) (hc:Core B w0 ι hp w)
  (hob:ObjOk ι (hp.set nx (.seg f ep tp es m el c)) w' nx (.seg f ep tp es m el c)) (hkeep:∀i o,hp.get i=some o->own hp o->ObjOk ι hp w' i o) (hbelow:Kept B w0 w') (hroom:∀k,B k->k<w'.heap.size) (hbase:¬B (ι.blk nx))
  (hblk:∀i o,hp.get i=some o->own hp o->ι.blk i=ι.blk nx->famOf o=some f)
  (ht1:tp=true->∀i f' e' tp' es' n' el' c',hp.get i=some (.seg f' e' tp' es' n' el' c')->live hp f' e'->(f=f'->tp'=false)/\(ι.blk nx=ι.blk i->m<ι.kap nx->ι.sh i+n'*es'<=ι.sh nx+m*es))
  (ht2:∀i f' e' es' n' el' c',hp.get i=some (.seg f' e' true es' n' el' c')->live hp f' e'->(f'=f->tp=false)/\(ι.blk i=ι.blk nx->n'<ι.kap i->ι.sh nx+m*es<=ι.sh i+n'*es')) :
  Core B w0 ι (hp.set nx (.seg f ep tp es m el c)) w':=by
 have hx:∀e s,AO.seg f ep tp es m el c≠.fam e s:=fun e s h=>by cases h
 have hne:∀i p,hp.get i=some p->i≠nx:=fun i p hi e=>by have:=hw.lt _ _ hi; rw [e] at this; omega
 refine⟨hbelow,hroom,?_,?_,?_,?_⟩
 · intro i p hi
   rcases get_set_cases hi with ⟨rfl,rfl⟩ | ⟨hi',hi⟩
   · exact hob
   · cases p with
     | fam=>trivial
     | arr=>exact (hkeep _ _ hi trivial).keep (fun h=>h) (fun _=>rfl)
     | map=>exact (hkeep _ _ hi trivial).keep (fun h=>h) (fun _=>rfl)
     | iter=>exact (hkeep _ _ hi trivial).keep (fun h=>h) (fun _=>rfl)
     | loop=>exact (hkeep _ _ hi trivial).keep (fun h=>h) (fun _=>rfl)
     | dmark=>exact (hkeep _ _ hi trivial).keep (fun h=>h) (fun _=>rfl)
     | gone=>exact (hkeep _ _ hi trivial).keep (fun h=>h) (fun _=>rfl)
     | seg f' e' tp' es' n' el' c' =>
       intro hl
       have hl':live hp f' e':=own_new (o:=.seg f' e' tp' es' n' el' c') hw hx hl
       exact hkeep _ _ hi hl' hl'
 · intro i p hi ho'
   rcases get_set_cases hi with ⟨rfl,_⟩ | ⟨hi',hi⟩
   · exact hbase
   · exact hc.base _ _ hi (own_new hw hx ho')
 · intro i i' p p' hii hi hi' ho1 ho2 e
   rcases get_set_cases hi with ⟨h1,h2⟩ | ⟨h1,g1⟩
   · rcases get_set_cases hi' with ⟨h3,_⟩ | ⟨h3,g3⟩
     · exact absurd (h1.trans h3.symm) hii
     · rw [h1] at e
       exact⟨f,by rw [<-h2]; rfl,hblk _ _ g3 (own_new hw hx ho2) e.symm⟩
   · rcases get_set_cases hi' with ⟨h3,h4⟩ | ⟨h3,g3⟩
     · rw [h3] at e
       exact⟨f,hblk _ _ g1 (own_new hw hx ho1) e,by rw [<-h4]; rfl⟩
     · exact hc.sep _ _ _ _ hii g1 g3 (own_new hw hx ho1) (own_new hw hx ho2) e
 · intro i i' f1 e1 es1 n1 el1 c1 f2 e2 tp2 es2 n2 el2 c2 hii hi hi' hl hl'
   have q1:live hp f1 e1:=own_new (o:=.seg f1 e1 true es1 n1 el1 c1) hw hx hl
   have q2:live hp f2 e2:=own_new (o:=.seg f2 e2 tp2 es2 n2 el2 c2) hw hx hl'
   rcases get_set_cases hi with ⟨h1,h2⟩ | ⟨h1,g1⟩
   · rcases get_set_cases hi' with ⟨h3,_⟩ | ⟨h3,g3⟩
     · exact absurd (h1.trans h3.symm) hii
     · cases h2
       rw [h1]
       exact ht1 rfl _ _ _ _ _ _ _ _ g3 q2
   · rcases get_set_cases hi' with ⟨h3,h4⟩ | ⟨h3,g3⟩
     · cases h4
       rw [h3]
       exact ht2 _ _ _ _ _ _ _ g1 q1
     · exact hc.tip _ _ _ _ _ _ _ _ _ _ _ _ _ _ _ hii g1 g3 q1 q2
theorem wf_child {hp:Tr AO} {nx f:Pz} {ep es m:Nat} {tp s:Bool} {el:TypeId} {c:Tr (List AV)} (hw:Wf hp nx) (hf:hp.get f=some (.fam ep s)) (hs:s=true->∀i e tp es n el c,hp.get i≠some (.seg f e tp es n el c)) :
  Wf (hp.set nx (.seg f ep tp es m el c)) nx.succ:=by
 have hflt:=hw.lt _ _ hf
 have hfam:∀g e s',(hp.set nx (.seg f ep tp es m el c)).get g=some (.fam e s')->hp.get g=some (.fam e s'):=by
  intro g e s' h
  rcases get_set_cases h with ⟨_,h⟩ | ⟨_,h⟩
  · cases h
  · exact h
 refine⟨?_,?_,?_,?_⟩
 · intro i p h
   rw [Pz.num_succ]
   rcases get_set_cases h with ⟨rfl,_⟩ | ⟨_,h⟩
   · omega
   · have:=hw.lt _ _ h; omega
 · intro i g e tp es n el c h
   rw [Pz.num_succ]
   rcases get_set_cases h with ⟨_,h⟩ | ⟨_,h⟩
   · cases h; omega
   · have:=hw.fam _ _ _ _ _ _ _ _ h; omega
 · intro i g e tp es n el c e' s' h h'
   have h':=hfam _ _ _ h'
   rcases get_set_cases h with ⟨_,h⟩ | ⟨_,h⟩
   · cases h; rw [hf] at h'; cases h'; exact Nat.le_refl _
   · exact hw.ep _ _ _ _ _ _ _ _ _ _ h h'
 · intro g e i i' tp' es' n' el' c' tp'' es'' n'' el'' c'' h h1 h2
   have h:=hfam _ _ _ h
   rcases get_set_cases h1 with ⟨a1,h1⟩ | ⟨a1,h1⟩
   · cases h1
     rw [hf] at h
     cases h
     rcases get_set_cases h2 with ⟨a2,_⟩ | ⟨_,h2⟩
     · exact a1.trans a2.symm
     · exact absurd h2 (hs rfl _ _ _ _ _ _ _)
   · rcases get_set_cases h2 with ⟨a2,h2⟩ | ⟨a2,h2⟩
     · cases h2
       rw [hf] at h
       cases h
       exact absurd h1 (hs rfl _ _ _ _ _ _ _)
     · exact hw.solo _ _ _ _ _ _ _ _ _ _ _ _ _ _ h h1 h2
end Go.Rex
namespace Go.Rex
open Go.RowKit
def cutHp (hp:Tr AO) (id f:Pz) (ep es n:Nat) (el:TypeId) (c:Tr (List AV)):Tr AO:=(hp.set f (.fam ep false)).set id (.seg f ep false es n el c)
theorem cut_get {hp:Tr AO} {id f:Pz} {ep es n:Nat} {el:TypeId} {c:Tr (List AV)} {i:Pz} {o:AO} (h:(cutHp hp id f ep es n el c).get i=some o) :
  (i=id/\o=.seg f ep false es n el c)∨(i≠id/\i=f/\o=.fam ep false)∨(i≠id/\i≠f/\hp.get i=some o):=by
 rcases get_set_cases h with ⟨hi,h⟩ | ⟨hi,h⟩
 · exact .inl ⟨hi,h.symm⟩
 · rcases get_set_cases h with ⟨hi',h⟩ | ⟨hi',h⟩
   · exact .inr (.inl ⟨hi,hi',h.symm⟩)
   · exact .inr (.inr ⟨hi,hi',h⟩)
section
variable {hp:Tr AO} {nx id f:Pz} {ep ep' es n n0:Nat} {tip s0:Bool} {el:TypeId} {c:Tr (List AV)}
theorem cut_own (hw:Wf hp nx) (ho:hp.get id=some (.seg f ep tip es n el c)) (hf:hp.get f=some (.fam ep s0)) (hep:ep'=ep∨ep'=ep+1) {i:Pz} {o:AO} (hi:i≠id) (hg:hp.get i=some o)
  (h:own (cutHp hp id f ep' es n0 el c) o):own hp o/\(famOf o=some f->ep'=ep):=by
 cases o with
 | arr=>exact⟨trivial,fun e=>by cases e⟩
 | map=>exact⟨trivial,fun e=>by cases e⟩
 | iter=>exact⟨trivial,fun e=>by cases e⟩
 | loop=>exact⟨trivial,fun e=>by cases e⟩
 | dmark=>exact⟨trivial,fun e=>by cases e⟩
 | gone=>exact⟨trivial,fun e=>by cases e⟩
 | fam=>exact h.elim
 | seg g e tp es' n' el' c' =>
   obtain⟨s,hs⟩:=h
   rcases cut_get hs with ⟨_,h1⟩ | ⟨_,h1,h2⟩ | ⟨_,h1,h2⟩
   · cases h1
   · cases h2
     have h3:=hw.ep _ _ _ _ _ _ _ _ _ _ hg (h1▸hf)
     have h4:ep'=ep:=by omega
     subst h4
     exact⟨⟨s0,h1▸hf⟩,fun _=>rfl⟩
   · exact⟨⟨s,h2⟩,fun e=>absurd (Option.some.inj e) h1⟩
theorem cut_wf (hw:Wf hp nx) (ho:hp.get id=some (.seg f ep tip es n el c)) (hf:hp.get f=some (.fam ep s0)) (hep:ep'=ep∨ep'=ep+1):Wf (cutHp hp id f ep' es n0 el c) nx:=by
 refine⟨?_,?_,?_,?_⟩
 · intro i o h
   rcases cut_get h with ⟨hi,_⟩ | ⟨_,hi,_⟩ | ⟨_,_,h⟩
   · exact hi▸hw.lt _ _ ho
   · exact hi▸hw.lt _ _ hf
   · exact hw.lt _ _ h
 · intro i g e tp es' n' el' c' h
   rcases cut_get h with ⟨_,h⟩ | ⟨_,_,h⟩ | ⟨_,_,h⟩
   · cases h; exact hw.fam _ _ _ _ _ _ _ _ ho
   · cases h
   · exact hw.fam _ _ _ _ _ _ _ _ h
 · intro i g e tp es' n' el' c' e' s h h'
   rcases cut_get h' with ⟨_,h'⟩ | ⟨_,hg,h'⟩ | ⟨_,hg,h'⟩
   · cases h'
   · cases h'
     rcases cut_get h with ⟨_,h⟩ | ⟨_,_,h⟩ | ⟨_,_,h⟩
     · cases h; exact Nat.le_refl _
     · cases h
     · have:=hw.ep _ _ _ _ _ _ _ _ _ _ h (hg▸hf); omega
   · rcases cut_get h with ⟨_,h⟩ | ⟨_,_,h⟩ | ⟨_,_,h⟩
     · cases h; exact absurd rfl hg
     · cases h
     · exact hw.ep _ _ _ _ _ _ _ _ _ _ h h'
 · intro g e i i' tp es' n' el' c' tp' es'' n'' el'' c'' h h1 h2
   rcases cut_get h with ⟨_,h⟩ | ⟨_,_,h⟩ | ⟨_,hg,h⟩
   · cases h
   · cases h
   · rcases cut_get h1 with ⟨_,h1⟩ | ⟨_,_,h1⟩ | ⟨_,_,h1⟩
     · cases h1; exact absurd rfl hg
     · cases h1
     · rcases cut_get h2 with ⟨_,h2⟩ | ⟨_,_,h2⟩ | ⟨_,_,h2⟩
       · cases h2; exact absurd rfl hg
       · cases h2
       · exact hw.solo _ _ _ _ _ _ _ _ _ _ _ _ _ _ h h1 h2
theorem cellsAt_cut {ι:En} {C:Array Value} {base:Nat} (h:cellsAt ι C base es n c) (hn:n0<=n):cellsAt ι C base es n0 c:=fun q hq=>h q (by omega)
theorem cut_core (hw:Wf hp nx) (ho:hp.get id=some (.seg f ep tip es n el c)) (hf:hp.get f=some (.fam ep s0)) (hep:ep'=ep∨ep'=ep+1) (hn0:n0<=n) {B:Nat->Prop} {w0 w:World} {ι:En} (hc:Core B w0 ι hp w) :
  Core B w0 ι (cutHp hp id f ep' es n0 el c) w:=by
 have hlv:live hp f ep:=⟨_,hf⟩
 refine⟨hc.below,hc.room,?_,?_,?_,?_⟩
 · intro i o h
   rcases cut_get h with ⟨hi,h1⟩ | ⟨_,_,h1⟩ | ⟨hi,_,h1⟩
   · rw [hi,h1]
     intro _
     obtain⟨C,fz,g1,g2,g3,g4,g5⟩:=hc.obj _ _ ho hlv
     exact⟨C,fz,g1,g2,by omega,cellsAt_cut g4 hn0,g5⟩
   · rw [h1]; trivial
   · exact (hc.obj _ _ h1).keep (fun h2=>(cut_own hw ho hf hep hi h1 h2).1) fun _=>rfl
 · intro i o h h2
   rcases cut_get h with ⟨hi,_⟩ | ⟨_,_,h1⟩ | ⟨hi,_,h1⟩
   · rw [hi]; exact hc.base _ _ ho hlv
   · rw [h1] at h2; exact h2.elim
   · exact hc.base _ _ h1 (cut_own hw ho hf hep hi h1 h2).1
 · intro i i' o o' hne h h' k k' e
   rcases cut_get h with ⟨hi,h1⟩ | ⟨_,_,h1⟩ | ⟨hi,_,h1⟩
   · rcases cut_get h' with ⟨hi',_⟩ | ⟨_,_,h1'⟩ | ⟨hi',_,h1'⟩
     · exact absurd (hi.trans hi'.symm) hne
     · rw [h1'] at k'; exact k'.elim
     · obtain⟨g,g1,g2⟩:=hc.sep id i' (.seg f ep tip es n el c) _ (fun x=>hi' x.symm) ho h1' hlv (cut_own hw ho hf hep hi' h1' k').1 (hi▸e)
       cases g1
       exact⟨f,by rw [h1]; rfl,g2⟩
   · rw [h1] at k; exact k.elim
   · rcases cut_get h' with ⟨hi',h1'⟩ | ⟨_,_,h1'⟩ | ⟨hi',_,h1'⟩
     · obtain⟨g,g1,g2⟩:=hc.sep i id _ (.seg f ep tip es n el c) hi h1 ho (cut_own hw ho hf hep hi h1 k).1 hlv (hi'▸e)
       cases g2
       exact⟨f,g1,by rw [h1']; rfl⟩
     · rw [h1'] at k'; exact k'.elim
     · exact hc.sep _ _ _ _ hne h1 h1' (cut_own hw ho hf hep hi h1 k).1 (cut_own hw ho hf hep hi' h1' k').1 e
 · intro i i' f1 e1 es1 n1 el1 c1 f2 e2 tp2 es2 n2 el2 c2 hne h h' k k'
   rcases cut_get h with ⟨_,h1⟩ | ⟨_,_,h1⟩ | ⟨hi,_,h1⟩
   · cases h1
   · cases h1
   · have q1:=(cut_own hw ho hf hep hi h1 k).1
     rcases cut_get h' with ⟨hi',h1'⟩ | ⟨_,_,h1'⟩ | ⟨hi',_,h1'⟩
     · cases h1'
       obtain⟨t1,t2⟩:=hc.tip i id _ _ _ _ _ _ _ _ _ _ _ _ _ hi h1 ho q1 hlv
       refine⟨fun _=>rfl,fun e hlt=>?_⟩
       have:=t2 (hi'▸e) hlt
       have:=Nat.mul_le_mul_right es hn0
       rw [hi']
       omega
     · cases h1'
     · exact hc.tip _ _ _ _ _ _ _ _ _ _ _ _ _ _ _ hne h1 h1' q1 (cut_own hw ho hf hep hi' h1' k').1
theorem cut_rest (hw:Wf hp nx) (ho:hp.get id=some (.seg f ep tip es n el c)) (hf:hp.get f=some (.fam ep s0)) (hep:(ep'=ep/\tip=true/\n0=n)∨ep'=ep+1) {B:Nat->Prop} {w0 w:World} {ι:En} (hc:Core B w0 ι hp w)
  {i f':Pz} {e' es' n':Nat} {tp':Bool} {el':TypeId} {c':Tr (List AV)} (hi:i≠id) (h:(cutHp hp id f ep' es n0 el c).get i=some (.seg f' e' tp' es' n' el' c')) (hl:live (cutHp hp id f ep' es n0 el c) f' e') (hff:f'=f) :
  tp'=false/\(ι.blk i=ι.blk id->n0<ι.kap id->ι.sh i+n'*es'<=ι.sh id+n0*es):=by
 rcases cut_get h with ⟨h1,_⟩ | ⟨_,_,h1⟩ | ⟨_,_,h1⟩
 · exact absurd h1 hi
 · cases h1
 · have hh:=cut_own (o:=.seg f' e' tp' es' n' el' c') hw ho hf (hep.imp (·.1) (fun x=>x)) hi h1 hl
   have he:=hh.2 (congrArg some hff)
   rcases hep with ⟨_,ht,hn⟩ | h2
   · subst ht
     subst hn
     obtain⟨t1,t2⟩:=hc.tip id i _ _ _ _ _ _ _ _ _ _ _ _ _ (fun x=>hi x.symm) ho h1 ⟨_,hf⟩ hh.1
     exact⟨t1 hff.symm,fun e hlt=>t2 e.symm hlt⟩
   · omega
end
end Go.Rex
namespace Go.Rex
open Go.RowKit
noncomputable def lay:List (List AV)->Nat->Tr (List AV)->Tr (List AV)
 | [],_,c=>c
 | l::ls,q,c=>lay ls (q+1) (c.set (natPz q) l)
theorem layK_eq:∀(ls:List (List AV)) (q:Nat) (c:Tr (List AV)) (k:Tr (List AV)->Rs),layK ls q c k=k (lay ls q c)
 | [],_,_,_=>rfl
 | l::ls,q,c,k=>by
   show (c.setK (natPz q) l fun c=>natF (q+1) fun q=>layK ls q c k)=_
   rw [Tr.setK_eq,natF_eq,layK_eq ls]; rfl
theorem lay_get:∀(ls:List (List AV)) (q:Nat) (c:Tr (List AV)) (i:Nat),(lay ls q c).get (natPz i)=if q<=i/\i<q+ls.length then ls[i-q]? else c.get (natPz i)
 | [],q,c,i=>by simp only [lay,List.length_nil]; rw [if_neg (by omega)]
 | l::ls,q,c,i=>by
   simp only [lay,List.length_cons]
   rw [lay_get ls]
   by_cases h:q+1<=i/\i<q+1+ls.length
   · rw [if_pos h,if_pos (by omega),show i-q=(i-(q+1))+1 by omega,List.getElem?_cons_succ]
   · rw [if_neg h]
     by_cases h2:i=q
     · subst h2
       rw [Tr.get_set_same,if_pos (by omega),Nat.sub_self]; rfl
     · rw [Tr.get_set_ne (natPz_ne h2),if_neg (by omega)]
def even (es:Nat) (ls:List (List AV)):Prop:=∀l∈ls,l.length=es
theorem even_length {es:Nat}:∀{ls:List (List AV)},even es ls->ls.flatten.length=ls.length*es
 | [],_=>by simp
 | l::ls,h=>by
   have h1:=h l (List.mem_cons_self ..)
   have h2:=even_length (es:=es) (ls:=ls) fun x hx=>h x (List.mem_cons_of_mem _ hx)
   simp only [List.flatten_cons,List.length_append,List.length_cons,h1,h2,Nat.succ_mul]
   omega
theorem even_get {es:Nat}:∀{ls:List (List AV)},even es ls->∀(j r:Nat) (l:List AV),ls[j]?=some l->r<es->ls.flatten[j*es+r]?=l[r]?
 | [],_,j,r,l,h,_=>by simp at h
 | x::ls,h,0,r,l,hl,hr=>by
   have h1:=h x (List.mem_cons_self ..)
   simp only [List.getElem?_cons_zero,Option.some.injEq] at hl
   subst hl
   rw [List.flatten_cons,Nat.zero_mul,Nat.zero_add,List.getElem?_append_left (by omega)]
 | x::ls,h,j+1,r,l,hl,hr=>by
   have h1:=h x (List.mem_cons_self ..)
   rw [List.getElem?_cons_succ] at hl
   have:=even_get (es:=es) (ls:=ls) (fun y hy=>h y (List.mem_cons_of_mem _ hy)) j r l hl hr
   rw [List.flatten_cons,List.getElem?_append_right (by rw [h1,Nat.succ_mul]; omega),h1,<-this]
   congr 1
   rw [Nat.succ_mul]
   omega
theorem even_append {es:Nat} {a b:List (List AV)} (ha:even es a) (hb:even es b):even es (a++b):=fun l hl=>by
 rcases List.mem_append.1 hl with h | h
 · exact ha l h
 · exact hb l h
theorem cellsAt_lay {ι:En} {C C':Array Value} {base es n:Nat} {c:Tr (List AV)} {ls:List (List AV)} (h:cellsAt ι C base es n c) (he:even es ls)
  (hold:∀i,i<n*es->C'[base+i]?=C[base+i]?) (hnew:∀i,i<ls.length*es->C'[base+(n*es+i)]?=((ls.flatten)[i]?).map (ren ι)):cellsAt ι C' base es (n+ls.length) (lay ls n c):=by
 intro q hq
 by_cases hqn:q<n
 · obtain⟨l,h1,h2,h3⟩:=h q hqn
   refine⟨l,by rw [lay_get,if_neg (by omega)]; exact h1,h2,fun r hr=>?_⟩
   have:=Nat.mul_le_mul_right es (Nat.succ_le_of_lt hqn)
   rw [Nat.succ_mul] at this
   rw [hold _ (by omega),h3 r hr]
 · have hlt:q-n<ls.length:=by omega
   have hl:ls[q-n]?=some (ls[q-n]'hlt):=List.getElem?_eq_getElem hlt
   have hlen:(ls[q-n]'hlt).length=es:=he _ (List.getElem_mem hlt)
   refine⟨_,by rw [lay_get,if_pos (by omega)]; exact hl,hlen,fun r hr=>?_⟩
   have hm:=Nat.mul_le_mul_right es (Nat.succ_le_of_lt hlt)
   rw [Nat.succ_mul] at hm
   have e:q*es+r=n*es+((q-n)*es+r):=by
    have:q=n+(q-n):=by omega
    rw [this,Nat.add_mul]
    simp only [Nat.add_sub_cancel_left]
    omega
   rw [e,hnew _ (by omega),even_get he _ _ _ hl hr]
theorem cellsAt_nil (ι:En) (C:Array Value) (base es:Nat) (c:Tr (List AV)):cellsAt ι C base es 0 c:=fun q hq=>by omega
theorem readElems_ok (sz:Nat) (id:Pz) (hp:Tr AO):∀(n off:Nat) (k:List (List AV)->Rs),readElems hp id sz n off k=.ok ->
  ∃ls,k ls=.ok/\ls.length=n/\∀B w0 ι w,Core B w0 ι hp w->even sz ls/\CellsAre ι w id off ls.flatten
 | 0,off,k,h=>⟨[],h,rfl,fun B w0 ι w hc=>⟨fun l hl=>by simp at hl,fun i hi=>by simp at hi⟩⟩
 | n+1,off,k,h=>by
   obtain⟨l,h,hl⟩:=readCells_ok (k:=fun l=>natF (off+sz) fun off=>readElems hp id sz n off fun r=>k (l::r)) h
   rw [natF_eq] at h
   obtain⟨ls,h,hn,hls⟩:=readElems_ok sz id hp n _ _ h
   refine⟨l::ls,h,by simp [hn],fun B w0 ι w hc=>?_⟩
   obtain⟨h1,h2⟩:=hl B w0 ι w hc
   obtain⟨h3,h4⟩:=hls B w0 ι w hc
   refine⟨fun x hx=>?_,fun i hi=>?_⟩
   · rcases List.mem_cons.1 hx with rfl | hx
     · exact h1
     · exact h3 x hx
   · rw [List.flatten_cons]
     by_cases hlt:i<l.length
     · rw [List.getElem?_append_left hlt]; exact h2 i hlt
     · rw [List.flatten_cons,List.length_append] at hi
       have:=h4 (i-l.length) (by omega)
       rw [List.getElem?_append_right (by omega),<-this]
       congr 2
       omega
theorem putCells_append:∀(a b:List Value) (w:World) (k o:Nat),putCells w k o (a++b)=putCells (putCells w k o a) k (o+a.length) b
 | [],b,w,k,o=>by simp [putCells]
 | v::a,b,w,k,o=>by
   simp only [List.cons_append,putCells,List.length_cons]
   rw [putCells_append a b,show o+1+a.length=o+(a.length+1) by omega]
theorem setCell_has {w:World} {a p:Addr} {v u:Value} (h:(w.setCell a v).cell? p=some u):∃u',w.cell? p=some u':=by
 by_cases hb:p.block=a.block
 · unfold World.cell? at h ⊢
   rw [hb] at h ⊢
   simp only [World.setCell,Array.getElem?_modify] at h
   cases hg:w.heap[a.block]? with
   | none=>rw [hg] at h; simp at h
   | some o =>
     rw [hg] at h
     cases o with
     | cells c e fz =>
       simp only [if_true,Option.map_some] at h
       cases hs:p.spot.isSome with
       | true=>rw [hs] at h; simp at h
       | false =>
         rw [hs] at h
         simp only [Bool.false_eq_true,if_false] at h ⊢
         have hlt:p.off<c.size:=by
          have:=(Array.getElem?_eq_some_iff.1 h).1
          split at this
          · exact this
          · simpa using this
         exact⟨c[p.off],Array.getElem?_eq_getElem hlt⟩
     | _=>simp at h
 · have:(w.setCell a v).cell? p=w.cell? p:=World.cell?_of_block (Below.heap_setCell w a v _ hb)
   rw [this] at h
   exact⟨u,h⟩
theorem setCell_frozen (w:World) (a p:Addr) (v:Value):(w.setCell a v).frozen? p=w.frozen? p:=by
 unfold World.frozen?
 simp only [World.setCell,Array.getElem?_modify]
 by_cases hb:a.block=p.block
 · rw [if_pos hb]
   cases w.heap[p.block]? with
   | none=>rfl
   | some o=>cases o<;>rfl
 · rw [if_neg hb]
theorem putCells_has:∀(vs:List Value) (w:World) (b o:Nat) (p:Addr) (u:Value),(putCells w b o vs).cell? p=some u->∃u',w.cell? p=some u'
 | [],w,b,o,p,u,h=>⟨u,h⟩
 | v::vs,w,b,o,p,u,h=>by
   obtain⟨u',h'⟩:=putCells_has vs _ b (o+1) p u h
   exact setCell_has h'
theorem putCells_frozen:∀(vs:List Value) (w:World) (b o:Nat) (p:Addr),(putCells w b o vs).frozen? p=w.frozen? p
 | [],w,b,o,p=>rfl
 | v::vs,w,b,o,p=>by simp only [putCells]; rw [putCells_frozen vs,setCell_frozen]
theorem PutOk.append {hp hp1 hp2:Tr AO} {id:Pz} {off:Nat} {a b:List AV} (h:PutOk hp hp1 id off a) (h':PutOk hp1 hp2 id (off+a.length) b):PutOk hp hp2 id off (a++b):=by
 refine⟨fun nx hw=>h'.1 nx (h.1 nx hw),fun B w0 ι w nx hw hc=>?_⟩
 obtain⟨c1,p1⟩:=h.2 B w0 ι w nx hw hc
 obtain⟨c2,p2⟩:=h'.2 B w0 ι _ nx (h.1 nx hw) c1
 refine⟨by rw [renL_append,putCells_append,renL_length,Nat.add_assoc]; exact c2,fun i hi=>?_⟩
 by_cases hlt:i<a.length
 · exact p1 i hlt
 · rw [List.length_append] at hi
   obtain⟨⟨u,hu⟩,hf⟩:=p2 (i-a.length) (by omega)
   rw [show ι.sh id+(off+a.length)+(i-a.length)=ι.sh id+off+i by omega] at hu hf
   exact⟨putCells_has _ _ _ _ _ _ hu,by rw [putCells_frozen] at hf; exact hf⟩
theorem PutOk.nil (hp:Tr AO) (id:Pz) (off:Nat):PutOk hp hp id off []:=⟨fun _ h=>h,fun _ _ _ _ _ _ hc=>⟨hc,fun i hi=>by simp at hi⟩⟩
theorem flat_append {a b:List AV} (ha:flat a=true) (hb:flat b=true):flat (a++b)=true:=by
 induction a with
 | nil=>exact hb
 | cons v a ih =>
   obtain⟨h1,h2⟩:=flat_cons ha
   have:=ih h2
   show Bool.rec (motive:=fun _=>Bool) false (flat (a++b)) (oneB v)=true
   rw [h1,this]
theorem writeElems_ok (id:Pz) (sz:Nat):∀(ls:List (List AV)) (off:Nat) (hp:Tr AO) (k:Tr AO->Rs),writeElems id sz ls off hp k=.ok->∃hp',k hp'=.ok/\flat ls.flatten=true/\even sz ls/\PutOk hp hp' id off ls.flatten
 | [],off,hp,k,h=>⟨hp,h,rfl,fun l hl=>by simp at hl,PutOk.nil _ _ _⟩
 | l::ls,off,hp,k,h=>by
   obtain⟨h0,h⟩:=ifK_ok (b:=Nat.beq l.length sz) (x:=writeCells hp id off l fun hp=>natF (off+sz) fun off=>writeElems id sz ls off hp k) (n:=9) h
   have hl:=beq_ok h0
   obtain⟨hp1,h,hf,hput⟩:=writeCells_ok h
   rw [natF_eq] at h
   obtain⟨hp2,h,hf2,he,hput2⟩:=writeElems_ok id sz ls _ hp1 k h
   refine⟨hp2,h,by rw [List.flatten_cons]; exact flat_append hf hf2,fun x hx=>?_,?_⟩
   · rcases List.mem_cons.1 hx with rfl | hx
     · exact hl
     · exact he x hx
   · rw [List.flatten_cons]
     exact hput.append (by rw [hl]; exact hput2)
theorem renL_flat (ι:En):∀(vs:List AV),flat vs=true->∀v∈renL ι vs,oneV v=true
 | [],_,v,hv=>by simp [renL] at hv
 | x::vs,h,v,hv=>by
   obtain⟨h1,h2⟩:=flat_cons h
   simp only [renL,List.mem_cons] at hv
   rcases hv with rfl | hv
   · exact ren_one ι h1
   · exact renL_flat ι vs h2 v hv
end Go.Rex
namespace Go.Rex
open Go.RowKit
section
variable {P:Program} {w:World}
theorem run_typ {t:TypeId} {i:TypeInfo} (h:P.info? t=some i):(typeInfo t).run P w=.ok i w:=by
 simp [typeInfo,h]
theorem run_und {t:TypeId} {d:TypeDesc} (h:P.underlying t=some d):(underlying t).run P w=.ok d w:=by
 simp [underlying,h]
theorem info_of_und {t:TypeId} {d:TypeDesc} (h:P.underlying t=some d):∃i,P.info? t=some i:=by
 unfold Program.underlying at h
 split at h
 · rename_i u i hi; exact⟨_,hi⟩
 · rename_i i hi; exact⟨_,hi⟩
 · cases h
theorem run_size {t:TypeId} {i:TypeInfo} (h:P.info? t=some i):(sizeOf t).run P w=.ok (szOf P t) w:=by
 simp [sizeOf,run_typ h,szOf,h]
theorem run_size_und {t:TypeId} {d:TypeDesc} (h:P.underlying t=some d):(sizeOf t).run P w=.ok (szOf P t) w:=by
 obtain⟨i,hi⟩:=info_of_und h
 exact run_size hi
theorem run_agg {t:TypeId} {d:TypeDesc} (h:P.underlying t=some d):(isAgg t).run P w=.ok (aggT P t) w:=by
 unfold isAgg aggT
 simp [run_und h,h]
 cases d<;>simp
theorem aggT_und {t:TypeId} (h:aggT P t=true):∃d,P.underlying t=some d:=by
 unfold aggT at h
 cases hu:P.underlying t with
 | none=>rw [hu] at h; cases h
 | some d=>exact⟨d,rfl⟩
theorem run_load_cell {a:Addr} {v:Value} (h:w.cell? a=some v):(load a).run P w=.ok v w:=by
 simp [h]
theorem run_loadCellsFrom (b o:Nat):∀(l:List Value) (i:Nat) (acc:Array Value),(∀j,j<l.length->w.cell? ⟨b,o+i+j,none⟩=l[j]?) ->
  (loadCellsFrom ⟨b,o,none⟩ i l.length acc).run P w=.ok (acc++l.toArray) w
 | [],i,acc,h=>by simp [loadCellsFrom]
 | v::l,i,acc,h=>by
   have h0:=h 0 (by simp)
   simp only [List.length_cons,loadCellsFrom]
   rw [addr_add,Sem.run_bind,run_load_cell (by simpa using h0),Result.andThen_ok,run_loadCellsFrom b o l (i+1) _ (fun j hj=>by
    have:=h (j+1) (by simp; omega)
    rw [List.getElem?_cons_succ] at this
    rw [<-this]
    congr 2
    omega)]
   congr 1
   rw [Array.push_eq_append,Array.append_assoc]
   congr 1
   simp
theorem run_loadCells {b o:Nat} {l:List Value} {n:Nat} (hn:n=l.length) (h:∀j,j<l.length->w.cell? ⟨b,o+j,none⟩=l[j]?):(loadCells ⟨b,o,none⟩ n).run P w=.ok l.toArray w:=by
 subst hn
 have:=run_loadCellsFrom (P:=P) b o l 0 #[] (fun j hj=>by simpa using h j hj)
 simpa [loadCells] using this
theorem one_of {v:Value} (h:oneV v=true):v.oneCell'=true:=by cases v<;>first | rfl | cases h
theorem run_storeCells (b o:Nat):∀(l:List Value) (i:Nat) (w:World),(∀v∈l,oneV v=true)->CanPut w b (o+i) l.length->(storeCells ⟨b,o,none⟩ l i).run P w=.ok () (putCells w b (o+i) l)
 | [],i,w,_,_=>by simp [storeCells,putCells]
 | v::l,i,w,hv,hc=>by
   obtain⟨⟨u,hu⟩,hf⟩:=hc 0 (by simp)
   rw [Nat.add_zero] at hu hf
   have h1:=one_of (hv v (List.mem_cons_self ..))
   simp only [storeCells,putCells]
   rw [addr_add,Sem.run_bind,run_store P w _ v _ h1,hu]
   simp only [hf,Bool.false_eq_true,if_false,Result.andThen_ok]
   rw [run_storeCells b o l (i+1) _ (fun x hx=>hv x (List.mem_cons_of_mem _ hx)) (fun j hj=>?_)]
   · rw [Nat.add_assoc]
   · obtain⟨⟨u',hu'⟩,hf'⟩:=hc (j+1) (by simp; omega)
     rw [show o+i+(j+1)=o+(i+1)+j by omega] at hu' hf'
     refine⟨?_,by rw [setCell_frozen]; exact hf'⟩
     have:=hu'
     by_cases hb:w.cell? ⟨b,o+(i+1)+j,none⟩=(w.setCell ⟨b,o+i,none⟩ v).cell? ⟨b,o+(i+1)+j,none⟩
     · exact⟨u',by rw [<-hb]; exact hu'⟩
     · exfalso
       apply hb
       unfold World.cell?
       simp only [World.setCell,Array.getElem?_modify,if_true]
       cases w.heap[b]? with
       | none=>rfl
       | some x =>
         cases x with
         | cells c e fz =>
           simp only [Option.map_some,Option.isSome_none,Bool.false_eq_true,if_false]
           rw [Array.getElem?_setIfInBounds_ne (by omega)]
         | _=>rfl
end
def markOf (D:Nat):Deferred:={ target:=.collected D,args:=#[] }
noncomputable def marks (ι:En) (l:List Pz):List Deferred:=l.map fun id=>markOf (ι.blk id)
structure TmpOk (ι:En) (nt:Nat) (tm:Tm) (a:Act):Prop where
 size:a.tmps.size=nt
 defers:a.defers=marks ι tm.ml
 val:∀t,a.tmps.getD t undef=ren ι (tm.at t)
theorem mapM_ren {d:Nat} (ih:∀v a,absV d v=some a->∀ι,ren ι a=v) (ι:En):∀(l:List Value) (l':List AV),l.mapM (absV d)=some l'->renL ι l'=l
 | [],l',h=>by simp at h; subst h; rfl
 | v::l,l',h=>by
   rw [List.mapM_cons] at h
   cases ha:absV d v with
   | none=>rw [ha] at h; cases h
   | some a =>
     rw [ha] at h
     cases hl:l.mapM (absV d) with
     | none=>rw [hl] at h; cases h
     | some r =>
       rw [hl] at h
       cases h
       simp only [renL]
       rw [ih v a ha ι,mapM_ren ih ι l r hl]
theorem absV_ren:∀(d:Nat) (v:Value) (a:AV),absV d v=some a->∀ι,ren ι a=v
 | 0,v,a,h=>by cases h
 | d+1,v,a,h=>by
   intro ι
   have ih:=mapM_ren (d:=d) (fun v a h ι=>absV_ren d v a h ι) ι
   cases v with
   | bool b=>cases h; simp [ren]
   | int k n=>cases h; simp [ren]
   | float k n=>cases h; simp [ren]
   | complex k x y=>cases h
   | string s=>cases h; simp only [ren]; rw [bytesOf_absStr]
   | pointer p=>cases p with
     | none=>cases h; simp [ren]
     | some x=>cases h
   | slice p n m=>cases p with
     | some x=>simp [absV] at h
     | none=>cases n with
       | succ n=>simp [absV] at h
       | zero=>cases m with
         | succ m=>simp [absV] at h
         | zero=>cases h; simp [ren]
   | map r=>cases r with
     | none=>cases h; simp [ren]
     | some x=>cases h
   | chan r=>cases h
   | func fn first captured =>
     simp only [absV] at h
     cases hf:okFn fn with
     | false=>rw [hf] at h; cases h
     | true =>
       cases hx:first.toList.mapM (absV d) with
       | none=>rw [hf,hx] at h; cases h
       | some x =>
         cases hy:captured.toList.mapM (absV d) with
         | none=>rw [hf,hx,hy] at h; cases h
         | some y =>
           rw [hf,hx,hy] at h
           cases h
           simp only [ren]
           rw [ih _ _ hx,ih _ _ hy,renFn_ok hf]
   | nilFunc=>cases h; simp [ren]
   | iface t v=>cases h
   | nilIface=>cases h; simp [ren]
   | agg cs =>
     simp only [absV] at h
     cases hm:cs.toList.mapM (absV d) with
     | none=>rw [hm] at h; cases h
     | some l=>rw [hm] at h; cases h; simp only [ren]; rw [ih _ _ hm]
   | tuple cs =>
     simp only [absV] at h
     cases hm:cs.toList.mapM (absV d) with
     | none=>rw [hm] at h; cases h
     | some l=>rw [hm] at h; cases h; simp only [ren]; rw [ih _ _ hm]
theorem evB_ok {x:Operand} {tm:Tm} {k:AV->Rs} (h:(evB x).run tm k=.ok):∃v,k v=.ok/\∀ι nt a,TmpOk ι nt tm a->a.eval x=ren ι v:=by
 cases x with
 | tmp t =>
   have h:(getS t).run tm k=.ok:=h
   rw [getS_eq] at h
   exact⟨_,h,fun ι nt a ha=>ha.val t⟩
 | const v =>
   simp only [evB] at h
   cases hv:absV 8 v with
   | none=>rw [hv] at h; cases h
   | some a=>rw [hv] at h; exact⟨a,h,fun ι nt b _=>(absV_ren 8 v a hv ι).symm⟩
 | global g=>cases h
 | func f=>exact⟨_,h,fun ι nt a _=>by simp [Act.eval,ren,renL,renFn]⟩
theorem evsB_ok:∀(xs:List Operand) {tm:Tm} {k:List AV->Rs},evsB xs tm k=.ok->∃vs,k vs=.ok/\∀ι nt a,TmpOk ι nt tm a->xs.map a.eval=renL ι vs
 | [],tm,k,h=>⟨[],h,fun _ _ _ _=>rfl⟩
 | x::xs,tm,k,h=>by
   obtain⟨v,h,hv⟩:=evB_ok (k:=fun v=>evsB xs tm fun vs=>k (v::vs)) h
   obtain⟨vs,h,hvs⟩:=evsB_ok xs h
   exact⟨v::vs,h,fun ι nt a ha=>by simp only [List.map_cons,renL]; rw [hv ι nt a ha,hvs ι nt a ha]⟩
end Go.Rex
namespace Go.Rex
open Go.RowKit
theorem wrapF_ok {kd:IntKind} {z:Int} {k:Int->Rs} (h:wrapF kd z k=.ok):k (kd.wrap z)=.ok:=by
 unfold wrapF at h
 cases kd
 case i64 =>
  cases z with
  | ofNat m =>
    simp only [natF_eq,intF_eq] at h
    rcases ifK_two h with ⟨hb,h⟩ | ⟨_,h⟩
    · have:=ble_ok hb
      rw [Go.IntWalk.i64_in _ ⟨by simp only [Int.ofNat_eq_natCast]; omega,by simp only [Int.ofNat_eq_natCast]; omega⟩]; exact h
    · exact h
  | negSucc m =>
    simp only [natF_eq,intF_eq] at h
    rcases ifK_two h with ⟨hb,h⟩ | ⟨_,h⟩
    · have:=ble_ok hb
      rw [Go.IntWalk.i64_in _ ⟨by omega,by omega⟩]; exact h
    · exact h
 all_goals (simp only [intF_eq] at h; exact h)
theorem wrapS_ok {mx:Nat} {kd:IntKind} (hin:∀n:Int,-(mx:Int)-1<=n->n<=mx->kd.wrap n=n) {z:Int} {k:Int->Rs} (h:wrapS mx kd z k=.ok):k (kd.wrap z)=.ok:=by
 unfold wrapS at h
 cases z with
 | ofNat m =>
   rcases ifK_two h with ⟨hb,h⟩ | ⟨_,h⟩
   · rw [natF_eq] at h
     have:=ble_ok hb
     rw [hin _ (by simp only [Int.ofNat_eq_natCast]; omega) (by simp only [Int.ofNat_eq_natCast]; omega)]; exact h
   · rw [intF_eq] at h; exact h
 | negSucc m =>
   rcases ifK_two h with ⟨hb,h⟩ | ⟨_,h⟩
   · rw [natF_eq] at h
     have:=ble_ok hb
     rw [hin _ (by omega) (by omega)]; exact h
   · rw [intF_eq] at h; exact h
theorem wrapU_ok {mx:Nat} {kd:IntKind} (hin:∀n:Int,0<=n->n<=mx->kd.wrap n=n) {z:Int} {k:Int->Rs} (h:wrapU mx kd z k=.ok):k (kd.wrap z)=.ok:=by
 unfold wrapU at h
 cases z with
 | ofNat m =>
   rcases ifK_two h with ⟨hb,h⟩ | ⟨_,h⟩
   · rw [natF_eq] at h
     have:=ble_ok hb
     rw [hin _ (by simp only [Int.ofNat_eq_natCast]; omega) (by simp only [Int.ofNat_eq_natCast]; omega)]; exact h
   · rw [intF_eq] at h; exact h
 | negSucc m =>
   simp only [intF_eq] at h; exact h
theorem wrapC_ok {kd:IntKind} {z:Int} {k:Int->Rs} (h:wrapC kd z k=.ok):k (kd.wrap z)=.ok:=by
 cases kd with
 | i8=>exact wrapS_ok (mx:=127) (fun n h1 h2=>Go.IntWalk.i8_in n ⟨by omega,by omega⟩) h
 | i16=>exact wrapS_ok (mx:=32767) (fun n h1 h2=>Go.IntWalk.i16_in n ⟨by omega,by omega⟩) h
 | i32=>exact wrapS_ok (mx:=2147483647) (fun n h1 h2=>Go.IntWalk.i32_in n ⟨by omega,by omega⟩) h
 | i64=>exact wrapS_ok (mx:=9223372036854775807) (fun n h1 h2=>Go.IntWalk.i64_in n ⟨by omega,by omega⟩) h
 | u8=>exact wrapU_ok (mx:=255) (fun n h1 h2=>Go.IntWalk.u8_in n ⟨by omega,by omega⟩) h
 | u16=>exact wrapU_ok (mx:=65535) (fun n h1 h2=>Go.IntWalk.u16_in n ⟨by omega,by omega⟩) h
 | u32=>exact wrapU_ok (mx:=4294967295) (fun n h1 h2=>Go.IntWalk.u32_in n ⟨by omega,by omega⟩) h
 | u64=>exact wrapU_ok (mx:=18446744073709551615) (fun n h1 h2=>Go.IntWalk.u64_in n ⟨by omega,by omega⟩) h
theorem addK_eq (a b:Int) (k:Int->Rs):addK a b k=k (Int.add a b):=by
 cases a with
 | ofNat m =>
   cases b with
   | ofNat n=>exact natF_eq (Nat.add m n) fun s=>k (.ofNat s)
   | negSucc n=>exact intF_eq (Int.add (.ofNat m) (.negSucc n)) k
 | negSucc m=>exact intF_eq (Int.add (.negSucc m) b) k
theorem subK_eq (a b:Int) (k:Int->Rs):subK a b k=k (Int.sub a b):=by
 cases a with
 | ofNat m =>
   cases b with
   | ofNat n =>
     show ifK (Nat.ble n m) (natF (Nat.sub m n) fun s=>k (.ofNat s)) (intF (Int.sub (.ofNat m) (.ofNat n)) k)=_
     cases h:Nat.ble n m with
     | true =>
       have:=ble_ok h
       show natF (Nat.sub m n) (fun s=>k (.ofNat s))=_
       rw [natF_eq]
       congr 1
       show ((m-n:Nat):Int)=(m:Int)-(n:Int)
       omega
     | false=>exact intF_eq (Int.sub (.ofNat m) (.ofNat n)) k
   | negSucc n=>exact intF_eq (Int.sub (.ofNat m) (.negSucc n)) k
 | negSucc m=>exact intF_eq (Int.sub (.negSucc m) b) k
theorem ltK_eq (a b:Int) (k:Bool->Rs):ltK a b k=k (decide (a<b)):=by
 cases a with
 | ofNat m =>
   cases b with
   | ofNat n =>
     show boolF (Nat.ble (Nat.succ m) n) k=_
     rw [boolF_eq]
     congr 1
     rw [Bool.eq_iff_iff,Nat.ble_eq,decide_eq_true_eq]
     simp only [Int.ofNat_eq_natCast]
     omega
   | negSucc n=>exact boolF_eq (decide (Int.ofNat m < .negSucc n)) k
 | negSucc m=>exact boolF_eq (decide (Int.negSucc m<b)) k
theorem leK_eq (a b:Int) (k:Bool->Rs):leK a b k=k (decide (a<=b)):=by
 cases a with
 | ofNat m =>
   cases b with
   | ofNat n =>
     show boolF (Nat.ble m n) k=_
     rw [boolF_eq]
     congr 1
     rw [Bool.eq_iff_iff,Nat.ble_eq,decide_eq_true_eq]
     simp only [Int.ofNat_eq_natCast]
     omega
   | negSucc n=>exact boolF_eq (decide (Int.ofNat m<=.negSucc n)) k
 | negSucc m=>exact boolF_eq (decide (Int.negSucc m<=b)) k
theorem eqK_eq (a b:Int) (k:Bool->Rs):eqK a b k=k (a==b):=by
 cases a with
 | ofNat m =>
   cases b with
   | ofNat n =>
     show boolF (Nat.beq m n) k=_
     rw [boolF_eq]
     congr 1
     rw [Bool.eq_iff_iff,Nat.beq_eq,beq_iff_eq]
     simp only [Int.ofNat_eq_natCast]
     omega
   | negSucc n =>
     show k false=_
     congr 1
 | negSucc m =>
   cases b with
   | ofNat n =>
     show k false=_
     congr 1
   | negSucc n =>
     show boolF (Nat.beq m n) k=_
     rw [boolF_eq]
     congr 1
     rw [Bool.eq_iff_iff,Nat.beq_eq,beq_iff_eq]
     omega
theorem strEqK_eq (l m l' m':Nat) (k:Bool->Rs):strEqK l m l' m' k=k (strEq l m l' m'):=by
 unfold strEqK strEq
 cases h:Nat.beq l l' with
 | true=>show boolF _ k=_; rw [boolF_eq,Bool.true_and]
 | false=>rfl
theorem notK_eq (k:AV->Rs) (b:Bool):notK k b=k (.bool (!b)):=by cases b<;>rfl
theorem scal_ok {s:Sem Value} {k:AV->Rs} (h:scal s k=.ok):∃v c,s=.pure c/\k v=.ok/\∀ι,ren ι v=c:=by
 unfold scal at h
 split at h
 · rw [intF_eq] at h; exact⟨_,_,rfl,h,fun ι=>by simp [ren]⟩
 · rw [boolF_eq] at h; exact⟨_,_,rfl,h,fun ι=>by simp [ren]⟩
 · rw [natF_eq] at h; exact⟨_,_,rfl,h,fun ι=>by simp [ren]⟩
 · cases h
theorem dec_ok {p:Prop} [Decidable p] (h:decide p=true):p:=of_decide_eq_true h
def BinIs (P:Program) (op:BinOp) (t:TypeId) (x y v:AV):Prop:=∀ι w,(binOp op t (ren ι x) (ren ι y)).run P w=.ok (ren ι v) w
theorem intOp_ok {P:Program} {op:BinOp} {t:TypeId} {kd kd':IntKind} {a b:Int} {k:AV->Rs} (h:intOp op t kd a kd' b k=.ok):∃v,k v=.ok/\BinIs P op t (.int kd a) (.int kd' b) v:=by
 unfold intOp at h
 split at h
 case h_9 =>
  obtain⟨v,c,hs,hk,hr⟩:=scal_ok h
  refine⟨v,hk,fun ι w=>?_⟩
  simp only [ren]
  rw [hs,hr]; rfl
 case h_1 =>
  obtain⟨hd,g⟩:=ifK_ok h
  obtain rfl:=dec_ok hd
  exact⟨_,wrapF_ok g,fun ι w=>by simp [ren,binOp,Op.intArith]<;>rfl⟩
 case h_2 =>
  obtain⟨hd,g⟩:=ifK_ok h
  obtain rfl:=dec_ok hd
  exact⟨_,wrapF_ok g,fun ι w=>by simp [ren,binOp,Op.intArith]<;>rfl⟩
 all_goals
  obtain⟨hd,g⟩:=ifK_ok h
  obtain rfl:=dec_ok hd
  rw [boolF_eq] at g
  exact⟨_,g,fun ι w=>by simp [ren,binOp,Op.intCmp]⟩
theorem toList_mk (l:List UInt8):(ByteArray.mk l.toArray).toList=l:=by simp
theorem strOp_ok {P:Program} {op:BinOp} {t:TypeId} {l m l' m':Nat} {k:AV->Rs} (h:strOp op l m l' m' k=.ok):∃v,k v=.ok/\BinIs P op t (.str l m) (.str l' m') v:=by
 unfold strOp at h
 split at h
 · rw [natF_eq] at h
   obtain⟨hb,h⟩:=ifK_ok h
   rw [natF_eq] at h
   have hb:=ble_ok hb
   refine⟨_,h,fun ι w=>?_⟩
   simp only [ren,binOp,Op.stringOp]
   rw [Sem.run_ite,if_neg]
   · simp only [Sem.run_pure,Result.ok.injEq,and_true,Value.string.injEq]
     rw [pow8_eq,show strNorm l' m'=m'%256 ^ l' by unfold strNorm; rw [pow8_eq]; rfl,bytesOf_append]
     apply ByteArray.ext
     simp
   · have e1:(ByteArray.mk (bytesOf l m).toArray).size=l:=by show (bytesOf l m).toArray.size=l; simp [bytesOf_length]
     have e2:(ByteArray.mk (bytesOf l' m').toArray).size=l':=by show (bytesOf l' m').toArray.size=l'; simp [bytesOf_length]
     rw [e1,e2]
     show ¬_ > _
     simp only [IntKind.max,IntKind.signed,IntKind.bits]
     omega
 · rw [boolF_eq] at h
   refine⟨_,h,fun ι w=>?_⟩
   simp only [ren,binOp,Op.stringOp,toList_mk,strEq_iff]; rfl
 · rw [boolF_eq] at h
   refine⟨_,h,fun ι w=>?_⟩
   simp only [ren,binOp,Op.stringOp,toList_mk,strEq_iff]; rfl
 · cases h
end Go.Rex
namespace Go.Rex
open Go.RowKit
theorem extract_mk (l:List Value) (a b:Nat):l.toArray.extract a b=((l.drop a).take (b-a)).toArray:=by simp
theorem run_part_agg {P:Program} {w:World} {t:TypeId} {l:List Value} {off:Nat} (h:aggT P t=true):(part t l.toArray off).run P w=.ok (.agg ((l.drop off).take (szOf P t)).toArray) w:=by
 obtain⟨d,hd⟩:=aggT_und h
 simp only [part,Sem.run_bind,run_agg hd,h,Result.andThen_ok,if_true,run_size_und hd,Sem.run_pure]
 rw [extract_mk]
 congr 4
 omega
theorem run_part_one {P:Program} {w:World} {t:TypeId} {l:List Value} {off:Nat} {v:Value} {d:TypeDesc} (hd:P.underlying t=some d) (h:aggT P t=false) (hv:l[off]?=some v):(part t l.toArray off).run P w=.ok v w:=by
 simp only [part,Sem.run_bind,run_agg hd,h,Result.andThen_ok,Bool.false_eq_true,if_false]
 rw [List.getElem?_toArray,hv]
 rfl
def EqIs (P:Program) (d:Nat) (t:TypeId) (x y:AV) (b:Bool):Prop:=∀D ι w,d<=D->(Op.equalIn D t (ren ι x) (ren ι y)).run P w=.ok b w
theorem eqvF_und {P:Program}:∀{d:Nat} {t:TypeId} {x y:AV} {k:Bool->Rs},eqvF P d t x y k=.ok->∃u,P.underlying t=some u:=by
 intro d t x y k h
 cases d with
 | zero=>cases h
 | succ d =>
   cases hu:P.underlying t with
   | some u=>exact⟨u,rfl⟩
   | none=>simp only [eqvF,hu] at h; cases h
theorem eqvF_ok (P:Program):∀(d:Nat) (t:TypeId) (x y:AV) (k:Bool->Rs),eqvF P d t x y k=.ok->∃b,k b=.ok/\EqIs P d t x y b
 | 0,t,x,y,k,h=>by cases h
 | d+1,t,x,y,k,h=>by
   have up:∀{b:Bool},(∀D ι w,d<=D->(Op.equalIn (D+1) t (ren ι x) (ren ι y)).run P w=.ok b w)->EqIs P (d+1) t x y b:=by
    intro b hb D ι w hD
    obtain⟨D,rfl⟩:∃D',D=D'+1:=⟨D-1,by omega⟩
    exact hb D ι w (by omega)
   unfold eqvF at h
   split at h
   case h_1 hu=>rw [boolF_eq] at h; exact⟨_,h,up fun D ι w _=>by simp [ren,Op.equalIn,run_und hu]⟩
   case h_2 hu =>
    obtain⟨hd,g⟩:=ifK_ok h
    obtain rfl:=dec_ok hd
    rw [boolF_eq] at g
    exact⟨_,g,up fun D ι w _=>by simp [ren,Op.equalIn,run_und hu]⟩
   case h_3 hu=>rw [boolF_eq] at h; exact⟨_,h,up fun D ι w _=>by simp [ren,Op.equalIn,run_und hu,strEq_iff,beq_toListBytes]⟩
   case h_18 fields xs ys hu =>
    obtain⟨hst,h⟩:P.stoodInHeld t=false/\_:=by
     cases hs:P.stoodInHeld t with
     | true=>rw [hs] at h; cases h
     | false=>rw [hs] at h; exact⟨rfl,h⟩
    have hfs:P.fieldsOf t=fields:=by unfold Program.fieldsOf; rw [hu]
    have key:∀(fs:List Field) (k:Bool->Rs),
      List.rec (motive:=fun _=>(Bool->Rs)->Rs) (fun k=>k true)
      (fun f _ ih k=>ifK (f.name == "_") (ih k)
       (dropK f.offset xs fun a=>dropK f.offset ys fun b=>natF (szOf P f.type) fun sz=>takeK sz a fun a=>takeK sz b fun b =>
        ifK (aggT P f.type) (eqvF P d f.type (.agg a) (.agg b) fun e=>ifK e (ih k) (k false))
         (nthK 0 a fun a=>nthK 0 b fun b=>eqvF P d f.type a b fun e=>ifK e (ih k) (k false)))) fs k=.ok ->
      ∃b,k b=.ok/\∀D ι w,d<=D->(Op.eqFields D (renL ι xs).toArray (renL ι ys).toArray fs).run P w=.ok b w:=by
     intro fs
     induction fs with
     | nil=>intro k h; exact⟨true,h,fun D ι w _=>rfl⟩
     | cons f fs ih =>
       intro k h
       rcases ifK_two h with ⟨hn,h⟩ | ⟨hn,h⟩
       · obtain⟨b,hk,hb⟩:=ih k h
         refine⟨b,hk,fun D ι w hD=>?_⟩
         simp only [Op.eqFields]
         rw [if_neg (by simpa using hn)]
         exact hb D ι w hD
       · have hn':f.name ≠ "_":=by simpa using hn
         obtain⟨h1,h⟩:=dropK_ok _ h
         obtain⟨h2,h⟩:=dropK_ok _ h
         rw [natF_eq] at h
         obtain⟨h3,h⟩:=takeK_ok _ h
         obtain⟨h4,h⟩:=takeK_ok _ h
         rcases ifK_two h with ⟨ha,h⟩ | ⟨ha,h⟩
         · obtain⟨e,h,he⟩:=eqvF_ok P d f.type _ _ _ h
           have go:∀D ι w,d<=D->(Op.eqFields D (renL ι xs).toArray (renL ι ys).toArray (f::fs)).run P w=(if (!e)=true then Sem.pure false else Op.eqFields D (renL ι xs).toArray (renL ι ys).toArray fs).run P w:=by
            intro D ι w hD
            simp only [Op.eqFields]
            rw [if_pos hn']
            simp only [Sem.run_bind,run_part_agg ha,Result.andThen_ok]
            have:=he D ι w hD
            simp only [ren,renL_take,renL_drop] at this
            rw [this]
            rfl
           rcases ifK_two h with ⟨rfl,h⟩ | ⟨rfl,h⟩
           · obtain⟨b,hk,hb⟩:=ih k h
             exact⟨b,hk,fun D ι w hD=>by rw [go D ι w hD]; exact hb D ι w hD⟩
           · exact⟨false,h,fun D ι w hD=>by rw [go D ι w hD]; rfl⟩
         · obtain⟨a,ga,h⟩:=nthK_ok _ h
           obtain⟨b',gb,h⟩:=nthK_ok _ h
           obtain⟨u,hu'⟩:=eqvF_und h
           obtain⟨e,h,he⟩:=eqvF_ok P d f.type _ _ _ h
           have first:∀(l:List AV) (v:AV) (ι:En),((l.drop f.offset).take (szOf P f.type))[0]?=some v->(renL ι l)[f.offset]?=some (ren ι v):=by
            intro l v ι hg
            rw [List.getElem?_take] at hg
            split at hg
            · rw [List.getElem?_drop,Nat.add_zero] at hg
              rw [renL_get,hg]; rfl
            · cases hg
           have go:∀D ι w,d<=D->(Op.eqFields D (renL ι xs).toArray (renL ι ys).toArray (f::fs)).run P w=(if (!e)=true then Sem.pure false else Op.eqFields D (renL ι xs).toArray (renL ι ys).toArray fs).run P w:=by
            intro D ι w hD
            simp only [Op.eqFields]
            rw [if_pos hn']
            simp only [Sem.run_bind,run_part_one hu' ha (first _ _ ι ga),run_part_one hu' ha (first _ _ ι gb),Result.andThen_ok]
            rw [he D ι w hD]
            rfl
           rcases ifK_two h with ⟨rfl,h⟩ | ⟨rfl,h⟩
           · obtain⟨b,hk,hb⟩:=ih k h
             exact⟨b,hk,fun D ι w hD=>by rw [go D ι w hD]; exact hb D ι w hD⟩
           · exact⟨false,h,fun D ι w hD=>by rw [go D ι w hD]; rfl⟩
    obtain⟨b,hk,hb⟩:=key fields.toList k h
    refine⟨b,hk,up fun D ι w hD=>?_⟩
    simp only [ren]
    rw [run_equalIn_struct w D t _ _ (by rw [hfs]; exact hu) hst,hfs]
    exact hb D ι w hD
   case h_19=>cases h
   all_goals
    rename_i hu
    exact⟨_,h,up fun D ι w _=>by simp [ren,Op.equalIn,run_und hu]⟩
theorem eqv_eql {P:Program} {t:TypeId} {x y:AV} {b:Bool} (h:EqIs P 9 t x y b) (ι:En) (w:World):(Op.equal t (ren ι x) (ren ι y)).run P w=.ok b w:=h 10000 ι w (by decide)
theorem binOp_eql_of {P:Program} {t:TypeId} {a b:Value} (h:∀k n k' n',a=.int k n->b=.int k' n'->False) (h2:∀k n k' n',a=.float k n->b=.float k' n'->False) (h3:∀k n m k' n' m',a=.complex k n m->b=.complex k' n' m'->False) (h4:∀s s',a=.string s->b=.string s'->False) :
  binOp .eql t a b=(do pure (.bool (<-Op.equal t a b)))/\binOp .neq t a b=(do pure (.bool (!(<-Op.equal t a b)))):=by
 cases a<;>cases b<;>first
  | exact⟨rfl,rfl⟩
  | exact (h _ _ _ _ rfl rfl).elim
  | exact (h2 _ _ _ _ rfl rfl).elim
  | exact (h3 _ _ _ _ _ _ rfl rfl).elim
  | exact (h4 _ _ rfl rfl).elim
theorem binK_ok {P:Program} {op:BinOp} {t:TypeId} {x y:AV} {k:AV->Rs} (h:binK P op t x y k=.ok):(∃v,k v=.ok/\BinIs P op t x y v)/\¬(x=.nilIface/\y=.nilIface):=by
 unfold binK at h
 split at h
 · exact⟨intOp_ok h,fun e=>by cases e.1⟩
 · exact⟨strOp_ok h,fun e=>by cases e.1⟩
 · cases h
 · rename_i hnf hni hns
   have side:∀ι,binOp .eql t (ren ι x) (ren ι y)=(do pure (.bool (<-Op.equal t (ren ι x) (ren ι y))))/\binOp .neq t (ren ι x) (ren ι y)=(do pure (.bool (!(<-Op.equal t (ren ι x) (ren ι y))))):=by
    intro ι
    refine binOp_eql_of (P:=P) ?_ ?_ ?_ ?_
    · intro k n k' n' hx hy
      cases x<;>simp [ren] at hx
      cases y<;>simp [ren] at hy
      exact hni _ _ _ _ rfl rfl
    · intro k n k' n' hx hy
      cases x<;>simp [ren] at hx
      exact hnf _ _ rfl
    · intro k n m k' n' m' hx hy
      cases x<;>simp [ren] at hx
    · intro s s' hx hy
      cases x<;>simp [ren] at hx
      cases y<;>simp [ren] at hy
      exact hns _ _ _ _ rfl rfl
   have nil:∀{kk:Bool->Rs},eqvF P 9 t x y kk=.ok->¬(x=.nilIface/\y=.nilIface):=by
    rintro kk hk ⟨rfl,rfl⟩
    unfold eqvF at hk
    split at hk<;>first | cases hk | skip
    all_goals simp_all
   split at h
   · obtain⟨b,h1,h2⟩:=eqvF_ok P _ _ _ _ _ h
     refine⟨⟨_,h1,fun ι w=>?_⟩,nil h⟩
     rw [(side ι).1]
     simp [eqv_eql h2 ι w,ren]
   · obtain⟨b,h1,h2⟩:=eqvF_ok P _ _ _ _ _ h
     rw [boolF_eq] at h1
     refine⟨⟨_,h1,fun ι w=>?_⟩,nil h⟩
     rw [(side ι).2]
     simp [eqv_eql h2 ι w,ren]
   · cases h
end Go.Rex
namespace Go.Rex
open Go.RowKit
theorem wrapF_of {kd:IntKind} {z:Int} {k:Int->Rs} (h:k (kd.wrap z)=.ok):wrapF kd z k=.ok:=by
 cases kd
 case i64 =>
  cases z with
  | ofNat m =>
    show ifK (Nat.ble m 9223372036854775807) (natF m fun m=>k (.ofNat m)) (intF (IntKind.i64.wrap (.ofNat m)) k)=.ok
    by_cases hb:m<=9223372036854775807
    · rw [Go.IntWalk.i64_in _ ⟨by simp only [Int.ofNat_eq_natCast]; omega,by simp only [Int.ofNat_eq_natCast]; omega⟩] at h
      rw [Nat.ble_eq_true_of_le hb,ifK_true,natF_eq]; exact h
    · rw [show Nat.ble m 9223372036854775807=false by rw [<-Bool.not_eq_true,Nat.ble_eq]; exact hb,ifK_false,intF_eq]; exact h
  | negSucc m =>
    show ifK (Nat.ble m 9223372036854775807) (natF m fun m=>k (.negSucc m)) (intF (IntKind.i64.wrap (.negSucc m)) k)=.ok
    by_cases hb:m<=9223372036854775807
    · rw [Go.IntWalk.i64_in _ ⟨by omega,by omega⟩] at h
      rw [Nat.ble_eq_true_of_le hb,ifK_true,natF_eq]; exact h
    · rw [show Nat.ble m 9223372036854775807=false by rw [<-Bool.not_eq_true,Nat.ble_eq]; exact hb,ifK_false,intF_eq]; exact h
 case i8=>exact (intF_eq (IntKind.i8.wrap z) k).trans h
 case i16=>exact (intF_eq (IntKind.i16.wrap z) k).trans h
 case i32=>exact (intF_eq (IntKind.i32.wrap z) k).trans h
 case u8=>exact (intF_eq (IntKind.u8.wrap z) k).trans h
 case u16=>exact (intF_eq (IntKind.u16.wrap z) k).trans h
 case u32=>exact (intF_eq (IntKind.u32.wrap z) k).trans h
 case u64=>exact (intF_eq (IntKind.u64.wrap z) k).trans h
theorem ifK_of {b:Bool} {x:Rs} {n:Nat} (hb:b=true) (h:x=.ok):ifK b x (.bad n)=.ok:=by rw [hb]; exact h
theorem kd_dec (kd:IntKind):decide (kd=kd)=true:=by simp
theorem binS_ok {P:Program} {op:BinOp} {t:TypeId} {x y:AV} {k:AV->Rs} (h:(binS P op t).run x y k=.ok):binK P op t x y k=.ok:=by
 cases op
 case add =>
  have h:selNum x (.bad 39) (fun kd a=>asInt y fun kd' b=>ifK (kindEq kd kd') (addK a b fun z=>wrapC kd z fun z=>k (.int kd z)) (.bad 31)) (fun l m=>selStr y (.bad 39) fun l' m'=>strOp .add l m l' m' k)=.ok:=h
  cases x<;>first | (cases h; done) | skip
  · obtain⟨kd',b,rfl,g⟩:=asInt_ok h
    obtain⟨hk,g2⟩:=ifK_ok g
    have:=kindEq_ok hk
    subst this
    rw [addK_eq] at g2
    exact ifK_of (kd_dec _) (wrapF_of (wrapC_ok g2))
  · cases y<;>first | (cases h; done) | exact h
 case sub =>
  have h:asInt x (fun kd a=>asInt y fun kd' b=>ifK (kindEq kd kd') (subK a b fun z=>wrapC kd z fun z=>k (.int kd z)) (.bad 31))=.ok:=h
  obtain⟨kd,a,rfl,g⟩:=asInt_ok h
  obtain⟨kd',b,rfl,g1⟩:=asInt_ok g
  obtain⟨hk,g2⟩:=ifK_ok g1
  have:=kindEq_ok hk
  subst this
  rw [subK_eq] at g2
  exact ifK_of (kd_dec _) (wrapF_of (wrapC_ok g2))
 case lss =>
  have h:asInt x (fun kd a=>asInt y fun kd' b=>ifK (kindEq kd kd') (ltK a b fun b=>k (.bool b)) (.bad 31))=.ok:=h
  obtain⟨kd,a,rfl,g⟩:=asInt_ok h
  obtain⟨kd',b,rfl,g1⟩:=asInt_ok g
  obtain⟨hk,g2⟩:=ifK_ok g1
  have:=kindEq_ok hk
  subst this
  rw [ltK_eq] at g2
  exact ifK_of (kd_dec _) (by rw [boolF_eq]; exact g2)
 case gtr =>
  have h:asInt x (fun kd a=>asInt y fun kd' b=>ifK (kindEq kd kd') (ltK b a fun b=>k (.bool b)) (.bad 31))=.ok:=h
  obtain⟨kd,a,rfl,g⟩:=asInt_ok h
  obtain⟨kd',b,rfl,g1⟩:=asInt_ok g
  obtain⟨hk,g2⟩:=ifK_ok g1
  have:=kindEq_ok hk
  subst this
  rw [ltK_eq] at g2
  exact ifK_of (kd_dec _) (by rw [boolF_eq]; exact g2)
 case leq =>
  have h:asInt x (fun kd a=>asInt y fun kd' b=>ifK (kindEq kd kd') (leK a b fun b=>k (.bool b)) (.bad 31))=.ok:=h
  obtain⟨kd,a,rfl,g⟩:=asInt_ok h
  obtain⟨kd',b,rfl,g1⟩:=asInt_ok g
  obtain⟨hk,g2⟩:=ifK_ok g1
  have:=kindEq_ok hk
  subst this
  rw [leK_eq] at g2
  exact ifK_of (kd_dec _) (by rw [boolF_eq]; exact g2)
 case geq =>
  have h:asInt x (fun kd a=>asInt y fun kd' b=>ifK (kindEq kd kd') (leK b a fun b=>k (.bool b)) (.bad 31))=.ok:=h
  obtain⟨kd,a,rfl,g⟩:=asInt_ok h
  obtain⟨kd',b,rfl,g1⟩:=asInt_ok g
  obtain⟨hk,g2⟩:=ifK_ok g1
  have:=kindEq_ok hk
  subst this
  rw [leK_eq] at g2
  exact ifK_of (kd_dec _) (by rw [boolF_eq]; exact g2)
 case eql =>
  have h:selNum x (binK P .eql t x y k) (fun kd a=>asInt y fun kd' b=>ifK (kindEq kd kd') (eqK a b fun b=>k (.bool b)) (.bad 31)) (fun l m=>selStr y (.bad 39) fun l' m'=>strEqK l m l' m' fun b=>k (.bool b))=.ok:=h
  cases x<;>first | exact h | skip
  · obtain⟨kd',b,rfl,g⟩:=asInt_ok h
    obtain⟨hk,g2⟩:=ifK_ok g
    have:=kindEq_ok hk
    subst this
    rw [eqK_eq] at g2
    exact ifK_of (kd_dec _) (by rw [boolF_eq]; exact g2)
  · cases y<;>first | (cases h; done) | skip
    rename_i l m l' m' _
    have h:strEqK l m l' m' (fun b=>k (.bool b))=.ok:=h
    rw [strEqK_eq] at h
    show boolF (strEq l m l' m') (fun b=>k (.bool b))=.ok
    rw [boolF_eq]; exact h
 case neq =>
  have h:selNum x (binK P .neq t x y k) (fun kd a=>asInt y fun kd' b=>ifK (kindEq kd kd') (eqK a b (notK k)) (.bad 31)) (fun l m=>selStr y (.bad 39) fun l' m'=>strEqK l m l' m' (notK k))=.ok:=h
  cases x<;>first | exact h | skip
  · obtain⟨kd',b,rfl,g⟩:=asInt_ok h
    obtain⟨hk,g2⟩:=ifK_ok g
    have:=kindEq_ok hk
    subst this
    rw [eqK_eq,notK_eq] at g2
    exact ifK_of (kd_dec _) (by rw [boolF_eq]; exact g2)
  · cases y<;>first | (cases h; done) | skip
    rename_i l m l' m' _
    have h:strEqK l m l' m' (notK k)=.ok:=h
    rw [strEqK_eq,notK_eq] at h
    show boolF (!strEq l m l' m') (fun b=>k (.bool b))=.ok
    rw [boolF_eq]; exact h
 all_goals exact h
end Go.Rex
namespace Go.Rex
open Go.RowKit
def En.at (ι:En) (nx:Pz) (b s κ:Nat):En:=⟨fun i=>if i=nx then b else ι.blk i,fun i=>if i=nx then s else ι.sh i,fun i=>if i=nx then κ else ι.kap i⟩
theorem agree_at (ι:En) (nx:Pz) (b s κ:Nat):Agree nx ι (ι.at nx b s κ):=by
 intro id hid
 have:id≠nx:=fun e=>by rw [e] at hid; omega
 simp [En.at,this]
theorem agree_succ {nx:Pz} {ι ι':En} (h:Agree nx.succ ι ι'):Agree nx ι ι':=fun id hid=>h id (by rw [Pz.num_succ]; omega)
theorem agree_at' {ι ι':En} {nx:Pz} {b s κ:Nat} (h:Agree nx.succ (ι.at nx b s κ) ι'):Agree nx ι ι'/\ι'.blk nx=b/\ι'.sh nx=s/\ι'.kap nx=κ:=by
 refine⟨(agree_at ι nx b s κ).trans (agree_succ h) (Nat.le_refl _),?_,?_,?_⟩
 · rw [(h nx (by rw [Pz.num_succ]; omega)).1]; simp [En.at]
 · rw [(h nx (by rw [Pz.num_succ]; omega)).2.1]; simp [En.at]
 · rw [(h nx (by rw [Pz.num_succ]; omega)).2.2]; simp [En.at]
def Sat (B:Nat->Prop) (w0:World) (nt:Nat) (tm:Tm) (hp:Tr AO) (nx:Pz) (ι:En) (a:Act) (w:World):Prop :=
 Wf hp nx/\∀ι',Agree nx ι ι'->TmpOk ι' nt tm a/\Core B w0 ι' hp w
def After (B:Nat->Prop) (w0:World) (ι:En) (nx:Pz) (k:AV->Tr AO->Pz->Rs) (next:Value->World->Prop):Prop :=
 ∀v hp' nx' ι2 cv w',k v hp' nx'=.ok->Wf hp' nx'->nx.num<=nx'.num->Agree nx ι ι2->(∀ι',Agree nx' ι2 ι'->Core B w0 ι' hp' w'/\cv=ren ι' v)->next cv w'
def fw (r:Option Nat):Fence:={ Fence.wide with round:=r }
def Gives (P:Program) (s:Sem Next) (w:World) (G:Value->World->Prop):Prop :=
 (∃cv w',(s.run P w=.ok (.value cv) w'∨(s.run P w=.ok .skip w'/\cv=undef))/\G cv w') ∨
 (∃f args w',s.run P w=.ok (.enter f args) w'/\Calls P f args w' fun e w''=>∃cv,e=.returned cv/\G cv w'') ∨
 (∃l f tmps assign body w',s.run P w=.ok (.round l f tmps assign body) w'/\RoundIn Fence.wide 0 P l f tmps assign body w' fun e w''=>∃cv,e=.returned cv/\G cv w'')
theorem Gives.mono {P:Program} {s:Sem Next} {w:World} {G G':Value->World->Prop} (h:Gives P s w G) (hg:∀cv w',G cv w'->G' cv w'):Gives P s w G':=by
 rcases h with ⟨cv,w',h1,h2⟩ | ⟨f,args,w',h1,h2⟩ | ⟨l,f,tmps,x,y,w',h1,h2⟩
 · exact .inl ⟨cv,w',h1,hg _ _ h2⟩
 · exact .inr (.inl ⟨f,args,w',h1,Calls.mono h2 fun e w'' ⟨cv,e1,e2⟩=>⟨cv,e1,hg _ _ e2⟩⟩)
 · exact .inr (.inr ⟨l,f,tmps,x,y,w',h1,RoundIn.mono h2 fun e w'' ⟨cv,e1,e2⟩=>⟨cv,e1,hg _ _ e2⟩⟩)
theorem Gives.plain {P:Program} {o:Oper} {ρ:Operand->Value} {w:World} {G:Value->World->Prop} (h:Gives P (execOp ρ o) w G):∀c,o.op≠.defer c:=by
 intro c hc
 have hr:∀n w',(execOp ρ o).run P w=.ok n w'->∃d,n=.defer d:=by
  intro n w' hr
  simp only [execOp,hc,Sem.run_bind] at hr
  cases hd:(resolve ρ c o.type).run P w with
  | ok d w2 =>
    rw [hd,Result.andThen_ok] at hr
    simp only [Sem.run_pure,Result.ok.injEq] at hr
    exact⟨_,hr.1.symm⟩
  | halt x w2=>rw [hd] at hr; cases hr
 rcases h with ⟨cv,w',h | ⟨h,_⟩,_⟩ | ⟨f,args,w',h,_⟩ | ⟨l,f,tmps,x,y,w',h,_⟩<;>(obtain⟨d,hd⟩:=hr _ _ h; cases hd)
theorem fw_depth {r:Option Nat} {n:Nat}:(fw r).depth.isSome=true->1<=n:=fun h=>by simp [fw,Fence.wide] at h
theorem fw_calls {P:Program} {f:FuncId} {args:Array Value} {w:World} {R:Ending->World->Prop} (h:Calls P f args w R) (r:Option Nat) (n:Nat):CallsIn (fw r) n P f args w R:=by
 have h:CallsIn Fence.wide n P f args w R:=callsIn_wide.2 h
 exact⟨trivial,fun cs _=>h.2 cs (room_wide _)⟩
theorem fw_round {P:Program} {l:Nat} {f:FuncId} {tmps:Array Value} {x y:Code} {w:World} {R:Ending->World->Prop} (h:RoundIn Fence.wide 0 P l f tmps x y w R) (r:Option Nat) (n:Nat):RoundIn (fw r) n P l f tmps x y w R :=
 ⟨trivial,fun c cs _=>h.2 c cs (room_wide _)⟩
theorem Gives.wp {P:Program} {r:Option Nat} {o:Oper} {a:Act} {w:World} {G:Value->World->Prop} (h:Gives P (execOp a.eval o) w G) {next:Act->World->Prop} {Q:Exit->Act->World->Prop} (hn:∀cv w',G cv w'->next (a.put o.dst cv) w'):o.wpIn (fw r) 0 P a w next Q:=by
 refine⟨fun _ _=>trivial,?_⟩
 rw [Oper.semAt_eq _ _ _ h.plain]
 rcases h with ⟨cv,w',h | ⟨h,rfl⟩,hg⟩ | ⟨f,args,w',h,hc⟩ | ⟨l,f,tmps,x,y,w',h,hc⟩
 · rw [h]; exact hn _ _ hg
 · rw [h]; exact hn _ _ hg
 · rw [h,Oper.uponIn_enter]
   refine⟨fw_depth,CallsIn.mono (fw_calls hc r _) fun e w'' he=>?_⟩
   obtain⟨cv,rfl,hg⟩:=he
   exact hn _ _ hg
 · rw [h,Oper.uponIn_round]
   refine⟨fw_depth,RoundIn.mono (fw_round hc r _) fun e w'' he=>?_⟩
   obtain⟨cv,rfl,hg⟩:=he
   exact hn _ _ hg
def OpTo (P:Program) (o:Oper) (tm:Tm) (hp:Tr AO) (nx:Pz) (k:AV->Tr AO->Pz->Rs):Prop :=
 ∀B w0 nt a w ι,Sat B w0 nt tm hp nx ι a w->∀(G:Value->World->Prop),After B w0 ι nx k G->Gives P (execOp a.eval o) w G
structure Eff (P:Program) (o:Oper) (tm:Tm) (hp:Tr AO) (nx:Pz) (v:AV) (hp':Tr AO) (nx':Pz):Prop where
 le:nx.num<=nx'.num
 wf:Wf hp nx->Wf hp' nx'
 run:∀B w0 nt a w ι,Sat B w0 nt tm hp nx ι a w->∃ι2 cv w',Agree nx ι ι2/\((execOp a.eval o).run P w=.ok (.value cv) w'∨((execOp a.eval o).run P w=.ok .skip w'/\cv=undef)) /\
  ∀ι',Agree nx' ι2 ι'->Core B w0 ι' hp' w'/\cv=ren ι' v
section
variable {P:Program} {o:Oper} {tm:Tm} {hp hp':Tr AO} {nx nx':Pz} {k:AV->Tr AO->Pz->Rs} {v:AV}
theorem Eff.to (h:Eff P o tm hp nx v hp' nx') (hk:k v hp' nx'=.ok):OpTo P o tm hp nx k:=by
 intro B w0 nt a w ι hs G hn
 obtain⟨ι2,cv,w',h1,h2,h3⟩:=h.run B w0 nt a w ι hs
 exact .inl ⟨cv,w',h2,hn v hp' nx' ι2 cv w' hk (h.wf hs.1) h.le h1 h3⟩
def OVal (P:Program) (o:Oper) (tm:Tm) (hp:Tr AO) (v:AV):Prop :=
 ∀B w0 ι nt a w,TmpOk ι nt tm a->Core B w0 ι hp w->(execOp a.eval o).run P w=.ok (.value (ren ι v)) w
theorem OVal.eff (h:OVal P o tm hp v) (nx:Pz):Eff P o tm hp nx v hp nx:=by
 refine⟨Nat.le_refl _,fun hw=>hw,fun B w0 nt a w ι hs=>⟨ι,ren ι v,w,Agree.refl _ _,.inl ?_,fun ι' hι=>?_⟩⟩
 · obtain⟨h1,h2⟩:=hs.2 ι (Agree.refl _ _)
   exact h B w0 ι nt a w h1 h2
 · obtain⟨h1,h2⟩:=hs.2 ι (Agree.refl _ _)
   obtain⟨h3,h4⟩:=hs.2 ι' hι
   refine⟨h4,?_⟩
   have e1:=h B w0 ι nt a w h1 h2
   have e2:=h B w0 ι' nt a w h3 h4
   rw [e1] at e2
   simpa using e2
def ValTo (P:Program) (o:Oper) (tm:Tm) (hp:Tr AO) (nx:Pz) (k:AV->Tr AO->Pz->Rs):Prop:=∃v,k v hp nx=.ok/\OVal P o tm hp v
theorem ValTo.to (h:ValTo P o tm hp nx k):OpTo P o tm hp nx k:=by
 obtain⟨v,hk,hv⟩:=h
 exact (hv.eff nx).to hk
def OWr (P:Program) (o:Oper) (tm:Tm) (hp:Tr AO) (nx:Pz) (v:AV) (hp':Tr AO):Prop :=
 (Wf hp nx->Wf hp' nx)/\∀B w0 ι nt a w,Wf hp nx->TmpOk ι nt tm a->Core B w0 ι hp w->∃w' cv,((execOp a.eval o).run P w=.ok (.value cv) w'∨((execOp a.eval o).run P w=.ok .skip w'/\cv=undef))/\cv=ren ι v/\Core B w0 ι hp' w'
theorem OWr.eff (h:OWr P o tm hp nx v hp'):Eff P o tm hp nx v hp' nx:=by
 refine⟨Nat.le_refl _,h.1,fun B w0 nt a w ι hs=>?_⟩
 obtain⟨h1,h2⟩:=hs.2 ι (Agree.refl _ _)
 obtain⟨w',cv,hr,hcv,hc⟩:=h.2 B w0 ι nt a w hs.1 h1 h2
 refine⟨ι,cv,w',Agree.refl _ _,hr,fun ι' hι=>?_⟩
 obtain⟨h3,h4⟩:=hs.2 ι' hι
 obtain⟨w'',cv',hr',hcv',hc'⟩:=h.2 B w0 ι' nt a w hs.1 h3 h4
 rcases hr with hr | ⟨hr,hu⟩
 · rcases hr' with hr' | ⟨hr',hu'⟩
   · rw [hr] at hr'
     simp only [Result.ok.injEq,Next.value.injEq] at hr'
     obtain⟨rfl,rfl⟩:=hr'
     exact⟨hc',hcv'⟩
   · rw [hr] at hr'; simp at hr'
 · rcases hr' with hr' | ⟨hr',hu'⟩
   · rw [hr] at hr'; simp at hr'
   · rw [hr] at hr'
     simp only [Result.ok.injEq,true_and] at hr'
     subst hr'
     exact⟨hc',by rw [hu,<-hu',hcv']⟩
theorem Eff.new {x:AO} (hx1:famOf x=none) (hx2:∀e s,x≠.fam e s)
  (h:∀B w0 ι nt a w,TmpOk ι nt tm a->Core B w0 ι hp w->ι.blk nx=w.heap.size->ι.sh nx=0->∃y,(execOp a.eval o).run P w=.ok (.value (ren ι v)) (w.alloc y)/\ObjOk ι (hp.set nx x) (w.alloc y) nx x) :
  Eff P o tm hp nx v (hp.set nx x) nx.succ:=by
 refine⟨by rw [Pz.num_succ]; omega,fun hw=>wf_new hw hx1 hx2,fun B w0 nt a w ι hs=>?_⟩
 have hag:=agree_at ι nx w.heap.size 0 0
 obtain⟨h1,h2⟩:=hs.2 _ hag
 obtain⟨y,hr,_⟩:=h B w0 _ nt a w h1 h2 (by simp [En.at]) (by simp [En.at])
 refine⟨_,_,_,hag,.inl hr,fun ι' hι=>?_⟩
 obtain⟨ha,hb,hsh,_⟩:=agree_at' hι
 obtain⟨h3,h4⟩:=hs.2 ι' ha
 obtain⟨y',hr',ho'⟩:=h B w0 ι' nt a w h3 h4 hb hsh
 rw [hr] at hr'
 simp only [Result.ok.injEq,Next.value.injEq] at hr'
 obtain⟨e1,e2⟩:=hr'
 rw [e2]
 exact⟨core_new hs.1 h4 hb hx1 hx2 ho',e1⟩
def NewAt (P:Program) (o:Oper) (tm:Tm) (nx:Pz) (v:AV) (x:AO):Prop :=
 famOf x=none/\(∀e s,x≠.fam e s)/\∀ι nt a,TmpOk ι nt tm a->ι.sh nx=0->∃y,(∀w,ι.blk nx=w.heap.size->(execOp a.eval o).run P w=.ok (.value (ren ι v)) (w.alloc y))/\∀hp w',w'.heap[ι.blk nx]?=some y->ObjOk ι hp w' nx x
def NewTo (P:Program) (o:Oper) (tm:Tm) (hp:Tr AO) (nx:Pz) (k:AV->Tr AO->Pz->Rs):Prop:=∃v x,k v (hp.set nx x) nx.succ=.ok/\NewAt P o tm nx v x
theorem heap_alloc_at (w:World) (y:Obj):(w.alloc y).heap[w.heap.size]?=some y:=by
 show (w.heap.push y)[w.heap.size]?=some y
 simp
theorem NewTo.to (h:NewTo P o tm hp nx k):OpTo P o tm hp nx k:=by
 obtain⟨v,x,hk,hx1,hx2,hr⟩:=h
 refine (Eff.new hx1 hx2 (fun B w0 ι nt a w ha hc hb hs=>?_)).to hk
 obtain⟨y,h1,h2⟩:=hr ι nt a ha hs
 exact⟨y,h1 w hb,h2 _ _ (by rw [hb]; exact heap_alloc_at w y)⟩
end
theorem core_drew {B:Nat->Prop} {w0 w:World} {ι:En} {hp:Tr AO} (h:Core B w0 ι hp w):Core B w0 ι hp w.drew:=by
 refine⟨h.below.drew,h.room,fun i o hi=>?_,h.base,h.sep,h.tip⟩
 exact (h.obj i o hi).keep (fun x=>x) (fun _=>rfl)
theorem newObj_eq (hp:Tr AO) (nx:Pz) (o:AO) (k:Pz->Tr AO->Pz->Rs):newObj hp nx o k=k nx (hp.set nx o) nx.succ:=by
 unfold newObj
 rw [Tr.setK_eq,Pz.succK_eq]
theorem newArr_eq (hp:Tr AO) (nx:Pz) (es n:Nat) (el:TypeId) (c:Tr (List AV)) (k:Pz->Tr AO->Pz->Rs):newArr hp nx es n el c k=k nx (hp.set nx (.arr es n el c)) nx.succ:=newObj_eq _ _ _ _
theorem heap_alloc_new (w:World) (y:Obj):(w.alloc y).heap[w.heap.size]?=some y:=by
 show (w.heap.push y)[w.heap.size]?=some y
 simp
theorem objOk_one' {ι:En} {hp:Tr AO} {w:World} {nx:Pz} {l:List AV} {el:TypeId} (hb:w.heap[ι.blk nx]?=some (.cells (renL ι l).toArray el (0,0))) (hs:ι.sh nx=0):ObjOk ι hp w nx (.arr l.length 1 el (one l)):=by
 refine⟨(renL ι l).toArray,(0,0),hb,hs,by simp [renL_length],?_,Or.inl rfl⟩
 intro q hq
 have:q=0:=by omega
 subst this
 refine⟨l,rfl,rfl,fun r hr=>?_⟩
 rw [Nat.zero_mul,Nat.zero_add,Nat.zero_add,List.getElem?_toArray,renL_get]
end Go.Rex
