/- Part Xaa of the proof of CollectEnds: no condition. -/
import Derived.Calls
import Derived.Below
import Derived.KernelRfl
import Derived.Orders
import Derived.Laws.Sem
import Derived.IntWalk
import Derived.Laws.Strings
import Derived.Laws.StructEq
import Derived.ChangeKeysEq
import Derived.RangeFuncLeaves
set_option linter.unusedSimpArgs false
set_option linter.unusedVariables false
set_option linter.defProp false
def za:=@Bool.and_eq_true
def zaa.{u}:=@List.mem_cons_of_mem.{u}
def zab:=@Nat.eq_of_beq_eq_true
def zac.{u}:=@List.mem_cons_self.{u}
def zad:=@Nat.le_refl
def zae:=@Nat.mul_le_mul_right
def zaf.{u}:=@List.length_take.{u}
def zag:=@Bool.false_eq_true
def zah.{u}:=@Array.getD_eq_getD_getElem?.{u}
def zai.{u}:=@List.length_replicate.{u}
def zaj:=@Bool.not_eq_true'
def zak.{u}:=@List.length_append.{u}
def zal.{u,v}:=@List.map_cons.{u,v}
def zam:=@Nat.le_trans
def zan:=@Nat.le_succ
def zao.{u}:=@List.getElem?_toArray.{u}
def zap.{u}:=@List.getElem?_eq_getElem.{u}
def zaq:=@Nat.zero_add
def zar:=@Bool.or_eq_true
def zas.{u}:=@List.length_drop.{u}
def zat.{u,v}:=@List.map_append.{u,v}
def zau.{u}:=@List.getElem?_append_left.{u}
def zav.{u,v}:=@List.map_congr_left.{u,v}
def zaw:=@Nat.lt_of_lt_of_le
def zax:=@Nat.succ_mul
def zay.{u}:=@List.getElem?_append_right.{u}
def zaz.{u}:=@List.mem_singleton_self.{u}
def zb.{u}:=@List.all_eq_true.{u}
def zba.{u}:=@List.mem_of_getElem?.{u}
def zbb.{u}:=@List.getElem?_drop.{u}
def zbc.{u}:=@List.append_assoc.{u}
def zbd.{u}:=@List.getElem?_take_of_lt.{u}
def zbe.{u}:=@Array.getElem?_eq_getElem.{u}
def zbf.{u}:=@List.getElem?_cons_zero.{u}
def zbg.{u}:=@List.append_nil.{u}
def zbh:=@Nat.add_mul
def zbi.{u}:=@List.length_cons.{u}
def zbj.{u,v}:=@List.map_singleton.{u,v}
def zbk.{u,v}:=@Option.map_some.{u,v}
def zbl:=@Nat.zero_le
def zbm.{u}:=@List.getElem?_cons_succ.{u}
def zbn.{u}:=@List.contains_iff_mem.{u}
def zbo.{u}:=@List.mem_append_left.{u}
def zbp:=@Int.toNat_of_nonneg
def zbq:=@Nat.add_assoc
def zbr.{u}:=@List.getElem?_eq_none.{u}
def zbs.{u}:=@List.eq_of_mem_replicate.{u}
def zbt.{u}:=@List.mem_append_right.{u}
def zbu:=@Nat.add_zero
def zbv:=@Nat.ble_eq_true_of_le
def zbw:=@Nat.zero_mul
def zbx.{u,v}:=@Option.map_none.{u,v}
def zby:=@Int.ofNat_eq_natCast
def zbz.{u}:=@List.take_of_length_le.{u}
def zc.{u}:=@List.drop_zero.{u}
def zca.{u}:=@Option.getD_some.{u}
def zcb.{u,v}:=@Option.bind_some.{u,v}
def zcc.{u}:=@List.flatten_cons.{u}
def zcd:=@Nat.succ_le_of_lt
def zce.{u}:=@List.perm_append_singleton.{u}
def zcf:=@Nat.beq_refl
def zcg.{u}:=@List.drop_of_length_le.{u}
def zch:=@Int.le_refl
def zci.{u}:=@List.getElem?_take.{u}
def zcj.{u}:=@List.take_length.{u}
def zck.{u}:=@Array.getElem?_setIfInBounds_ne.{u}
def zcl:=@Nat.min_eq_left
def zcm.{u}:=@Array.getElem?_modify.{u}
def zcn.{u}:=@Array.getElem?_toList.{u}
def zco.{u}:=@List.take_append_of_le_length.{u}
def zcp:=@Bool.false_or
def zcq.{u}:=@List.drop_drop.{u}
def zcr:=@Nat.add_sub_cancel_left
def zcs.{u,v}:=@List.getElem?_map.{u,v}
def zct:=@Nat.mul_comm
def zcu:=@Nat.le_of_ble_eq_true
def zcv:=@Bool.eq_iff_iff
def zcw.{u,v}:=@List.length_map.{u,v}
def zcx.{u}:=@List.nil_append.{u}
def zcy:=@Int.toNat_natCast
def zcz:=@Bool.not_true
def zd.{u}:=@List.sum_cons.{u}
def zda.{u}:=@List.drop_append_of_le_length.{u}
def zdb.{u}:=@List.getElem_mem.{u}
def zdc:=@Nat.lt_succ_self
def zdd.{u,v}:=@Array.foldl_toList.{u,v}
def zde:=@Int.natCast_nonneg
def zdf.{u,v}:=@List.filterMap_append.{u,v}
def zdg.{u}:=@List.take_append_drop.{u}
def zdh.{u}:=@List.ext_getElem?.{u}
def zdi.{u}:=@Array.size_setIfInBounds.{u}
def zdj.{u}:=@Array.length_toList.{u}
def zdk.{u}:=@List.all_cons.{u}
def zdl.{u}:=@Option.isSome_none.{u}
def zdm:=@UInt8.toNat_ofNat'
def zdn:=@Go.IntWalk.i64_in
def zdo.{u}:=@Array.getElem?_setIfInBounds.{u}
def zdp:=@Nat.lt_or_ge
def zdq:=@Nat.pow_succ
def zdr:=@Nat.sub_self
def zds.{u}:=@List.mem_of_mem_take.{u}
def zdt.{u}:=@Array.getElem?_push.{u}
def zdu.{u,v}:=@List.filterMap_cons.{u,v}
def zdv.{u}:=@List.sum_append.{u}
def zdw.{u}:=@Array.getElem?_replicate.{u}
def zdx.{u,v,w}:=@List.map_map.{u,v,w}
def zdy.{u,v}:=@List.map_nil.{u,v}
def zdz:=@Nat.le_of_eq
def ze.{u}:=@List.drop_take.{u}
def zea.{u,v,w}:=@List.mapM_cons.{u,v,w}
def zeb:=@Nat.mul_le_mul
def zec.{u}:=@List.size_toArray.{u}
def zed.{u}:=@Array.getElem?_eq_none.{u}
def zee:=@ByteArray.data_extract
def zef.{u}:=@List.cons_append.{u}
def zeg.{u}:=@List.modify_succ_cons.{u}
def zeh.{u}:=@Array.mem_toList_iff.{u}
def zei.{u}:=@List.length_nil.{u}
def zej.{u}:=@List.length_set.{u}
def zek:=@Nat.div_add_mod
def zel:=@Nat.sub_zero
def zem:=@List.getElem?_range
def zen:=@Nat.add_le_add_left
def zeo:=@Bool.not_false
def zep.{u}:=@List.take_take.{u}
def zeq:=@Nat.mul_one
def zes:=@Nat.one_mul
namespace Go.aI
inductive Rs where|ok|bad (n:Nat)
inductive Pz where|h|o (p:Pz)|i (p:Pz)
 deriving DecidableEq
inductive Tr (α:Type)where|e|n (l:Tr α) (v:Option α) (r:Tr α)
inductive AV where
 |bool (b:Bool)
 |int (k:IntKind) (n:Int)
 |str (len n:Nat)
 |float (k:FloatKind) (bits:Nat)
 |ptr (id:Pz) (off:Nat)
 |dY
 |slice (id:Pz) (off len cap:Nat)
 |bt (id:Pz) (off len skip:Nat)
 |ab
 |map (id:Pz)
 |bg
 |func (fn:Fn) (first captured:List AV)
 |cy
 |iface (t:TypeId) (v:AV)
 |nilIface
 |agg (cs:List AV)
 |dC (vs:List AV)
 |cN (b o len cap:Nat)
 |cu (b o:Nat)
 |cV (b:Nat)
 |zg (b:Nat)
structure ME where
 key:AV
 val:AV
 born:Nat
structure gH (α:Type)where
 a0:α
 a1:α
 a2:α
 a3:α
 a4:α
 a5:α
 a6:α
 a7:α
structure Tm where
 lo:gH (gH AV)
 hi:Tr AV
 ml:List Pz
inductive Ex where|eJ|ext (id:Nat)|ret
inductive LS where|ready|busy|done (e:Ex)
inductive AO where
 |arr (es n:Nat) (el:TypeId) (cells:Tr (List AV))
 |cG (dJ:Pz) (ep:Nat) (e9:Bool) (es n:Nat) (el:TypeId) (cells:Tr (List AV))
 |dJ (ep:Nat) (ix:Bool)
 |map (es:List ME) (clock:Nat)
 |iter (m:Pz) (since:Nat) (seen:List Nat) (clock:Nat)
 |loop (f nt:Nat) (tm:Tm) (ps:Array Tmp) (assign body:Code) (st:LS)
 |fa
 |gone
noncomputable section
def Tr.gw {α:Type}(p:Pz):Tr α->Rs->(α->Rs)->Rs :=
 Pz.rec (motive:=fun _=>Tr α->Rs->(α->Rs)->Rs)
  (fun t z k=>Tr.rec (motive:=fun _=>Rs) z (fun _ v _ _ _=>Option.rec (motive:=fun _=>Rs) z k v) t)
  (fun _ ih t z k=>Tr.rec (motive:=fun _=>Rs) z (fun l _ _ _ _=>ih l z k) t)
  (fun _ ih t z k=>Tr.rec (motive:=fun _=>Rs) z (fun _ _ r _ _=>ih r z k) t) p
def Tr.c9 {α:Type}(p:Pz):Tr α->α->(Tr α->Rs)->Rs :=
 Pz.rec (motive:=fun _=>Tr α->α->(Tr α->Rs)->Rs)
  (fun t v k=>Tr.rec (motive:=fun _=>Rs) (k (.n .e (some v) .e)) (fun l _ r _ _=>k (.n l (some v) r)) t)
  (fun _ ih t v k=>Tr.rec (motive:=fun _=>Rs) (ih .e v fun l=>k (.n l none .e)) (fun l x r _ _=>ih l v fun l=>k (.n l x r)) t)
  (fun _ ih t v k=>Tr.rec (motive:=fun _=>Rs) (ih .e v fun r=>k (.n .e none r)) (fun l x r _ _=>ih r v fun r=>k (.n l x r)) t) p
def Pz.MT (p:Pz):(Pz->Rs)->Rs :=
 Pz.rec (motive:=fun _=>(Pz->Rs)->Rs) (fun k=>k (.o .h)) (fun q _ k=>k (.i q)) (fun _ ih k=>ih fun q=>k (.o q)) p
def qR (f:Nat):Nat->Pz :=
 Nat.rec (motive:=fun _=>Nat->Pz) (fun _=>.h)
  (fun _ ih m=>Bool.rec (motive:=fun _=>Pz) (Bool.rec (motive:=fun _=>Pz) (.o (ih (Nat.div m 2))) (.i (ih (Nat.div m 2))) (Nat.beq (Nat.mod m 2) 1)) .h (Nat.ble m 1)) f
def aX (n:Nat):Pz:=qR (n+1) (n+1)
def Ve (β:Type)(p:Pz):(Pz->β)->β :=
 Pz.rec (motive:=fun _=>(Pz->β)->β) (fun k=>k .h) (fun _ ih k=>ih fun q=>k (.o q)) (fun _ ih k=>ih fun q=>k (.i q)) p
def BJ (β:Type)(n:Nat)(k:Pz->β):β:=Ve β (aX n) k
structure G1 (α:Type)where run:gH α->(α->Rs)->Rs
structure S1 (α:Type)where run:gH α->(α->(α->Rs)->Rs)->(gH α->Rs)->Rs
structure S2 (α:Type)where run:gH α->α->(gH α->Rs)->Rs
def g1 (α:Type)(d:Nat):G1 α :=
 match d with
 |0=>⟨fun o=>gH.rec (motive:=fun _=>(α->Rs)->Rs) (fun a0 _ _ _ _ _ _ _ k=>k a0) o⟩
 |1=>⟨fun o=>gH.rec (motive:=fun _=>(α->Rs)->Rs) (fun _ a1 _ _ _ _ _ _ k=>k a1) o⟩
 |2=>⟨fun o=>gH.rec (motive:=fun _=>(α->Rs)->Rs) (fun _ _ a2 _ _ _ _ _ k=>k a2) o⟩
 |3=>⟨fun o=>gH.rec (motive:=fun _=>(α->Rs)->Rs) (fun _ _ _ a3 _ _ _ _ k=>k a3) o⟩
 |4=>⟨fun o=>gH.rec (motive:=fun _=>(α->Rs)->Rs) (fun _ _ _ _ a4 _ _ _ k=>k a4) o⟩
 |5=>⟨fun o=>gH.rec (motive:=fun _=>(α->Rs)->Rs) (fun _ _ _ _ _ a5 _ _ k=>k a5) o⟩
 |6=>⟨fun o=>gH.rec (motive:=fun _=>(α->Rs)->Rs) (fun _ _ _ _ _ _ a6 _ k=>k a6) o⟩
 |_=>⟨fun o=>gH.rec (motive:=fun _=>(α->Rs)->Rs) (fun _ _ _ _ _ _ _ a7 k=>k a7) o⟩
def s1 (α:Type)(d:Nat):S1 α :=
 match d with
 |0=>⟨fun o=>gH.rec (motive:=fun _=>(α->(α->Rs)->Rs)->(gH α->Rs)->Rs) (fun a0 a1 a2 a3 a4 a5 a6 a7 f k=>f a0 fun x=>k ⟨x,a1,a2,a3,a4,a5,a6,a7⟩) o⟩
 |1=>⟨fun o=>gH.rec (motive:=fun _=>(α->(α->Rs)->Rs)->(gH α->Rs)->Rs) (fun a0 a1 a2 a3 a4 a5 a6 a7 f k=>f a1 fun x=>k ⟨a0,x,a2,a3,a4,a5,a6,a7⟩) o⟩
 |2=>⟨fun o=>gH.rec (motive:=fun _=>(α->(α->Rs)->Rs)->(gH α->Rs)->Rs) (fun a0 a1 a2 a3 a4 a5 a6 a7 f k=>f a2 fun x=>k ⟨a0,a1,x,a3,a4,a5,a6,a7⟩) o⟩
 |3=>⟨fun o=>gH.rec (motive:=fun _=>(α->(α->Rs)->Rs)->(gH α->Rs)->Rs) (fun a0 a1 a2 a3 a4 a5 a6 a7 f k=>f a3 fun x=>k ⟨a0,a1,a2,x,a4,a5,a6,a7⟩) o⟩
 |4=>⟨fun o=>gH.rec (motive:=fun _=>(α->(α->Rs)->Rs)->(gH α->Rs)->Rs) (fun a0 a1 a2 a3 a4 a5 a6 a7 f k=>f a4 fun x=>k ⟨a0,a1,a2,a3,x,a5,a6,a7⟩) o⟩
 |5=>⟨fun o=>gH.rec (motive:=fun _=>(α->(α->Rs)->Rs)->(gH α->Rs)->Rs) (fun a0 a1 a2 a3 a4 a5 a6 a7 f k=>f a5 fun x=>k ⟨a0,a1,a2,a3,a4,x,a6,a7⟩) o⟩
 |6=>⟨fun o=>gH.rec (motive:=fun _=>(α->(α->Rs)->Rs)->(gH α->Rs)->Rs) (fun a0 a1 a2 a3 a4 a5 a6 a7 f k=>f a6 fun x=>k ⟨a0,a1,a2,a3,a4,a5,x,a7⟩) o⟩
 |_=>⟨fun o=>gH.rec (motive:=fun _=>(α->(α->Rs)->Rs)->(gH α->Rs)->Rs) (fun a0 a1 a2 a3 a4 a5 a6 a7 f k=>f a7 fun x=>k ⟨a0,a1,a2,a3,a4,a5,a6,x⟩) o⟩
def s2 (α:Type)(d:Nat):S2 α :=
 match d with
 |0=>⟨fun o=>gH.rec (motive:=fun _=>α->(gH α->Rs)->Rs) (fun _ a1 a2 a3 a4 a5 a6 a7 x k=>k ⟨x,a1,a2,a3,a4,a5,a6,a7⟩) o⟩
 |1=>⟨fun o=>gH.rec (motive:=fun _=>α->(gH α->Rs)->Rs) (fun a0 _ a2 a3 a4 a5 a6 a7 x k=>k ⟨a0,x,a2,a3,a4,a5,a6,a7⟩) o⟩
 |2=>⟨fun o=>gH.rec (motive:=fun _=>α->(gH α->Rs)->Rs) (fun a0 a1 _ a3 a4 a5 a6 a7 x k=>k ⟨a0,a1,x,a3,a4,a5,a6,a7⟩) o⟩
 |3=>⟨fun o=>gH.rec (motive:=fun _=>α->(gH α->Rs)->Rs) (fun a0 a1 a2 _ a4 a5 a6 a7 x k=>k ⟨a0,a1,a2,x,a4,a5,a6,a7⟩) o⟩
 |4=>⟨fun o=>gH.rec (motive:=fun _=>α->(gH α->Rs)->Rs) (fun a0 a1 a2 a3 _ a5 a6 a7 x k=>k ⟨a0,a1,a2,a3,x,a5,a6,a7⟩) o⟩
 |5=>⟨fun o=>gH.rec (motive:=fun _=>α->(gH α->Rs)->Rs) (fun a0 a1 a2 a3 a4 _ a6 a7 x k=>k ⟨a0,a1,a2,a3,a4,x,a6,a7⟩) o⟩
 |6=>⟨fun o=>gH.rec (motive:=fun _=>α->(gH α->Rs)->Rs) (fun a0 a1 a2 a3 a4 a5 _ a7 x k=>k ⟨a0,a1,a2,a3,a4,a5,x,a7⟩) o⟩
 |_=>⟨fun o=>gH.rec (motive:=fun _=>α->(gH α->Rs)->Rs) (fun a0 a1 a2 a3 a4 a5 a6 _ x k=>k ⟨a0,a1,a2,a3,a4,a5,a6,x⟩) o⟩
structure QQ where run:Tm->(AV->Rs)->Rs
structure QR where run:Tm->AV->(Tm->Rs)->Rs
def aE:AV:=.dC []
def pK (t:Nat):QQ :=
 match Nat.ble t 63 with
 |true=>⟨fun tm k=>Tm.rec (motive:=fun _=>(AV->Rs)->Rs) (fun lo _ _ k=>(g1 (gH AV) (Nat.div t 8)).run lo fun o=>(g1 AV (Nat.mod t 8)).run o k) tm k⟩
 |false=>BJ QQ t fun p=>⟨fun tm k=>Tm.rec (motive:=fun _=>(AV->Rs)->Rs) (fun _ hi _ k=>hi.gw p (k aE) k) tm k⟩
def tC (t:Nat):QR :=
 match Nat.ble t 63 with
 |true=>⟨fun tm v k=>Tm.rec (motive:=fun _=>AV->(Tm->Rs)->Rs) (fun lo hi ml v k=>(s1 (gH AV) (Nat.div t 8)).run lo (fun o k=>(s2 AV (Nat.mod t 8)).run o v k) fun lo=>k ⟨lo,hi,ml⟩) tm v k⟩
 |false=>BJ QR t fun p=>⟨fun tm v k=>Tm.rec (motive:=fun _=>AV->(Tm->Rs)->Rs) (fun lo hi ml v k=>hi.c9 p v fun hi=>k ⟨lo,hi,ml⟩) tm v k⟩
def BL {α:Type}(a:α):gH α:=⟨a,a,a,a,a,a,a,a⟩
def Tm.e:Tm:=⟨⟨⟨.dC [],.dC [],.dC [],.dC [],.dC [],.dC [],.dC [],.dC []⟩,BL aE,BL aE,BL aE,BL aE,BL aE,BL aE,BL aE⟩,.e,[]⟩
def bV (b:Bool)(x y:Rs):Rs:=Bool.rec (motive:=fun _=>Rs) y x b
def bj (n:Nat)(k:Nat->Rs):Rs:=Nat.rec (motive:=fun _=>Rs) (k 0) (fun m _=>k (Nat.succ m)) n
def mM (z:Int)(k:Int->Rs):Rs:=Int.rec (motive:=fun _=>Rs) (fun m=>bj m fun m=>k (.ofNat m)) (fun m=>bj m fun m=>k (.negSucc m)) z
def c7 (b:Bool)(k:Bool->Rs):Rs:=Bool.rec (motive:=fun _=>Rs) (k false) (k true) b
def AV.cells (v:AV):List AV :=
 AV.rec (motive_1:=fun _=>List AV) (motive_2:=fun _=>Unit)
  (fun b=>[.bool b])
  (fun k n=>[.int k n])
  (fun l n=>[.str l n])
  (fun k n=>[.float k n])
  (fun p o=>[.ptr p o])
  ([.dY])
  (fun p o l c=>[.slice p o l c])
  (fun p o l c=>[.bt p o l c])
  ([.ab])
  (fun p=>[.map p])
  ([.bg])
  (fun f a b _ _=>[.func f a b])
  ([.cy])
  (fun t v _=>[.iface t v])
  ([.nilIface])
  (fun cs _=>cs)
  (fun vs _=>[.dC vs])
  (fun b o l c=>[.cN b o l c])
  (fun b o=>[.cu b o])
  (fun b=>[.cV b])
  (fun b=>[.zg b])
  () (fun _ _ _ _=>()) v
def asInt (v:AV):(IntKind->Int->Rs)->Rs :=
 AV.rec (motive_1:=fun _=>(IntKind->Int->Rs)->Rs) (motive_2:=fun _=>Unit)
  (fun _ _=>.bad 1)
  (fun k n kk=>kk k n)
  (fun _ _ _=>.bad 1)
  (fun _ _ _=>.bad 1)
  (fun _ _ _=>.bad 1)
  (fun _=>.bad 1)
  (fun _ _ _ _ _=>.bad 1)
  (fun _ _ _ _ _=>.bad 1)
  (fun _=>.bad 1)
  (fun _ _=>.bad 1)
  (fun _=>.bad 1)
  (fun _ _ _ _ _ _=>.bad 1)
  (fun _=>.bad 1)
  (fun _ _ _ _=>.bad 1)
  (fun _=>.bad 1)
  (fun _ _ _=>.bad 1)
  (fun _ _ _=>.bad 1)
  (fun _ _ _ _ _=>.bad 1)
  (fun _ _ _=>.bad 1)
  (fun _ _=>.bad 1)
  (fun _ _=>.bad 1)
  () (fun _ _ _ _=>()) v
def asBool (v:AV):(Bool->Rs)->Rs :=
 AV.rec (motive_1:=fun _=>(Bool->Rs)->Rs) (motive_2:=fun _=>Unit)
  (fun b kk=>kk b)
  (fun _ _ _=>.bad 2)
  (fun _ _ _=>.bad 2)
  (fun _ _ _=>.bad 2)
  (fun _ _ _=>.bad 2)
  (fun _=>.bad 2)
  (fun _ _ _ _ _=>.bad 2)
  (fun _ _ _ _ _=>.bad 2)
  (fun _=>.bad 2)
  (fun _ _=>.bad 2)
  (fun _=>.bad 2)
  (fun _ _ _ _ _ _=>.bad 2)
  (fun _=>.bad 2)
  (fun _ _ _ _=>.bad 2)
  (fun _=>.bad 2)
  (fun _ _ _=>.bad 2)
  (fun _ _ _=>.bad 2)
  (fun _ _ _ _ _=>.bad 2)
  (fun _ _ _=>.bad 2)
  (fun _ _=>.bad 2)
  (fun _ _=>.bad 2)
  () (fun _ _ _ _=>()) v
def jU (v:AV):(Pz->Nat->Rs)->Rs :=
 AV.rec (motive_1:=fun _=>(Pz->Nat->Rs)->Rs) (motive_2:=fun _=>Unit)
  (fun _ _=>.bad 3)
  (fun _ _ _=>.bad 3)
  (fun _ _ _=>.bad 3)
  (fun _ _ _=>.bad 3)
  (fun p o kk=>kk p o)
  (fun _=>.bad 3)
  (fun _ _ _ _ _=>.bad 3)
  (fun _ _ _ _ _=>.bad 3)
  (fun _=>.bad 3)
  (fun _ _=>.bad 3)
  (fun _=>.bad 3)
  (fun _ _ _ _ _ _=>.bad 3)
  (fun _=>.bad 3)
  (fun _ _ _ _=>.bad 3)
  (fun _=>.bad 3)
  (fun _ _ _=>.bad 3)
  (fun _ _ _=>.bad 3)
  (fun _ _ _ _ _=>.bad 3)
  (fun _ _ _=>.bad 3)
  (fun _ _=>.bad 3)
  (fun _ _=>.bad 3)
  () (fun _ _ _ _=>()) v
def kG (v:AV):(Rs)->(Nat->Nat->Rs)->Rs :=
 AV.rec (motive_1:=fun _=>(Rs)->(Nat->Nat->Rs)->Rs) (motive_2:=fun _=>Unit)
  (fun _ z _=>z)
  (fun _ _ z _=>z)
  (fun l n _ kk=>kk l n)
  (fun _ _ z _=>z)
  (fun _ _ z _=>z)
  (fun z _=>z)
  (fun _ _ _ _ z _=>z)
  (fun _ _ _ _ z _=>z)
  (fun z _=>z)
  (fun _ z _=>z)
  (fun z _=>z)
  (fun _ _ _ _ _ z _=>z)
  (fun z _=>z)
  (fun _ _ _ z _=>z)
  (fun z _=>z)
  (fun _ _ z _=>z)
  (fun _ _ z _=>z)
  (fun _ _ _ _ z _=>z)
  (fun _ _ z _=>z)
  (fun _ z _=>z)
  (fun _ z _=>z)
  () (fun _ _ _ _=>()) v
def GY (v:AV):(Rs)->(List AV->Rs)->Rs :=
 AV.rec (motive_1:=fun _=>(Rs)->(List AV->Rs)->Rs) (motive_2:=fun _=>Unit)
  (fun _ z _=>z)
  (fun _ _ z _=>z)
  (fun _ _ z _=>z)
  (fun _ _ z _=>z)
  (fun _ _ z _=>z)
  (fun z _=>z)
  (fun _ _ _ _ z _=>z)
  (fun _ _ _ _ z _=>z)
  (fun z _=>z)
  (fun _ z _=>z)
  (fun z _=>z)
  (fun _ _ _ _ _ z _=>z)
  (fun z _=>z)
  (fun _ _ _ z _=>z)
  (fun z _=>z)
  (fun cs _ _ kk=>kk cs)
  (fun _ _ z _=>z)
  (fun _ _ _ _ z _=>z)
  (fun _ _ z _=>z)
  (fun _ z _=>z)
  (fun _ z _=>z)
  () (fun _ _ _ _=>()) v
def GZ (v:AV):(Rs)->(List AV->Rs)->Rs :=
 AV.rec (motive_1:=fun _=>(Rs)->(List AV->Rs)->Rs) (motive_2:=fun _=>Unit)
  (fun _ z _=>z)
  (fun _ _ z _=>z)
  (fun _ _ z _=>z)
  (fun _ _ z _=>z)
  (fun _ _ z _=>z)
  (fun z _=>z)
  (fun _ _ _ _ z _=>z)
  (fun _ _ _ _ z _=>z)
  (fun z _=>z)
  (fun _ z _=>z)
  (fun z _=>z)
  (fun _ _ _ _ _ z _=>z)
  (fun z _=>z)
  (fun _ _ _ z _=>z)
  (fun z _=>z)
  (fun _ _ z _=>z)
  (fun vs _ _ kk=>kk vs)
  (fun _ _ _ _ z _=>z)
  (fun _ _ z _=>z)
  (fun _ z _=>z)
  (fun _ z _=>z)
  () (fun _ _ _ _=>()) v
def G7 (v:AV):(Rs)->(Rs)->(Pz->Nat->Nat->Nat->Rs)->(Pz->Nat->Nat->Nat->Rs)->Rs :=
 AV.rec (motive_1:=fun _=>(Rs)->(Rs)->(Pz->Nat->Nat->Nat->Rs)->(Pz->Nat->Nat->Nat->Rs)->Rs) (motive_2:=fun _=>Unit)
  (fun _ z _ _ _=>z)
  (fun _ _ z _ _ _=>z)
  (fun _ _ z _ _ _=>z)
  (fun _ _ z _ _ _=>z)
  (fun _ _ z _ _ _=>z)
  (fun z _ _ _=>z)
  (fun p o l c _ _ ks _=>ks p o l c)
  (fun p o l c _ _ _ ko=>ko p o l c)
  (fun _ zn _ _=>zn)
  (fun _ z _ _ _=>z)
  (fun z _ _ _=>z)
  (fun _ _ _ _ _ z _ _ _=>z)
  (fun z _ _ _=>z)
  (fun _ _ _ z _ _ _=>z)
  (fun z _ _ _=>z)
  (fun _ _ z _ _ _=>z)
  (fun _ _ z _ _ _=>z)
  (fun _ _ _ _ z _ _ _=>z)
  (fun _ _ z _ _ _=>z)
  (fun _ z _ _ _=>z)
  (fun _ z _ _ _=>z)
  () (fun _ _ _ _=>()) v
def qS (v:AV):(Rs)->(IntKind->Int->Rs)->(Nat->Nat->Rs)->Rs :=
 AV.rec (motive_1:=fun _=>(Rs)->(IntKind->Int->Rs)->(Nat->Nat->Rs)->Rs) (motive_2:=fun _=>Unit)
  (fun _ z _ _=>z)
  (fun k n _ ki _=>ki k n)
  (fun l n _ _ ks=>ks l n)
  (fun _ _ z _ _=>z)
  (fun _ _ z _ _=>z)
  (fun z _ _=>z)
  (fun _ _ _ _ z _ _=>z)
  (fun _ _ _ _ z _ _=>z)
  (fun z _ _=>z)
  (fun _ z _ _=>z)
  (fun z _ _=>z)
  (fun _ _ _ _ _ z _ _=>z)
  (fun z _ _=>z)
  (fun _ _ _ z _ _=>z)
  (fun z _ _=>z)
  (fun _ _ z _ _=>z)
  (fun _ _ z _ _=>z)
  (fun _ _ _ _ z _ _=>z)
  (fun _ _ z _ _=>z)
  (fun _ z _ _=>z)
  (fun _ z _ _=>z)
  () (fun _ _ _ _=>()) v
def BM (v:AV):(Rs)->(Fn->List AV->List AV->Rs)->Rs :=
 AV.rec (motive_1:=fun _=>(Rs)->(Fn->List AV->List AV->Rs)->Rs) (motive_2:=fun _=>Unit)
  (fun _ z _=>z)
  (fun _ _ z _=>z)
  (fun _ _ z _=>z)
  (fun _ _ z _=>z)
  (fun _ _ z _=>z)
  (fun z _=>z)
  (fun _ _ _ _ z _=>z)
  (fun _ _ _ _ z _=>z)
  (fun z _=>z)
  (fun _ z _=>z)
  (fun z _=>z)
  (fun f a b _ _ _ kk=>kk f a b)
  (fun z _=>z)
  (fun _ _ _ z _=>z)
  (fun z _=>z)
  (fun _ _ z _=>z)
  (fun _ _ z _=>z)
  (fun _ _ _ _ z _=>z)
  (fun _ _ z _=>z)
  (fun _ z _=>z)
  (fun _ z _=>z)
  () (fun _ _ _ _=>()) v
def MU (v:AV):(Rs)->(Pz->Nat->Rs)->(Fn->List AV->List AV->Rs)->Rs :=
 AV.rec (motive_1:=fun _=>(Rs)->(Pz->Nat->Rs)->(Fn->List AV->List AV->Rs)->Rs) (motive_2:=fun _=>Unit)
  (fun _ z _ _=>z)
  (fun _ _ z _ _=>z)
  (fun _ _ z _ _=>z)
  (fun _ _ z _ _=>z)
  (fun p o _ kp _=>kp p o)
  (fun z _ _=>z)
  (fun _ _ _ _ z _ _=>z)
  (fun _ _ _ _ z _ _=>z)
  (fun z _ _=>z)
  (fun _ z _ _=>z)
  (fun z _ _=>z)
  (fun f a b _ _ _ _ kf=>kf f a b)
  (fun z _ _=>z)
  (fun _ _ _ z _ _=>z)
  (fun z _ _=>z)
  (fun _ _ z _ _=>z)
  (fun _ _ z _ _=>z)
  (fun _ _ _ _ z _ _=>z)
  (fun _ _ z _ _=>z)
  (fun _ z _ _=>z)
  (fun _ z _ _=>z)
  () (fun _ _ _ _=>()) v
def G8 (v:AV):(Rs)->(Bool->Rs)->Rs :=
 AV.rec (motive_1:=fun _=>(Rs)->(Bool->Rs)->Rs) (motive_2:=fun _=>Unit)
  (fun b _ kb=>kb b)
  (fun _ _ z _=>z)
  (fun _ _ z _=>z)
  (fun _ _ z _=>z)
  (fun _ _ z _=>z)
  (fun z _=>z)
  (fun _ _ _ _ z _=>z)
  (fun _ _ _ _ z _=>z)
  (fun z _=>z)
  (fun _ z _=>z)
  (fun z _=>z)
  (fun _ _ _ _ _ z _=>z)
  (fun z _=>z)
  (fun _ _ _ z _=>z)
  (fun z _=>z)
  (fun _ _ z _=>z)
  (fun _ _ z _=>z)
  (fun _ _ _ _ z _=>z)
  (fun _ _ z _=>z)
  (fun _ z _=>z)
  (fun _ z _=>z)
  () (fun _ _ _ _=>()) v
def MW (v:AV):(Rs)->(Rs)->(Pz->Rs)->Rs :=
 AV.rec (motive_1:=fun _=>(Rs)->(Rs)->(Pz->Rs)->Rs) (motive_2:=fun _=>Unit)
  (fun _ z _ _=>z)
  (fun _ _ z _ _=>z)
  (fun _ _ z _ _=>z)
  (fun _ _ z _ _=>z)
  (fun _ _ z _ _=>z)
  (fun z _ _=>z)
  (fun _ _ _ _ z _ _=>z)
  (fun _ _ _ _ z _ _=>z)
  (fun z _ _=>z)
  (fun p _ _ km=>km p)
  (fun _ zn _=>zn)
  (fun _ _ _ _ _ z _ _=>z)
  (fun z _ _=>z)
  (fun _ _ _ z _ _=>z)
  (fun z _ _=>z)
  (fun _ _ z _ _=>z)
  (fun _ _ z _ _=>z)
  (fun _ _ _ _ z _ _=>z)
  (fun _ _ z _ _=>z)
  (fun _ z _ _=>z)
  (fun _ z _ _=>z)
  () (fun _ _ _ _=>()) v
def asNat (v:AV)(k:Nat->Rs):Rs:=asInt v fun _ n=>Int.rec (motive:=fun _=>Rs) k (fun _=>.bad 4) n
def vg {α:Type}(r:Nat):List α->(α->Rs)->Rs :=
 Nat.rec (motive:=fun _=>List α->(α->Rs)->Rs) (fun l k=>List.rec (motive:=fun _=>Rs) (.bad 5) (fun v _ _=>k v) l)
  (fun _ ih l k=>List.rec (motive:=fun _=>Rs) (.bad 5) (fun _ t _=>ih t k) l) r
def MX (vs:List AV):List AV->(List AV->Rs)->Rs :=
 List.rec (motive:=fun _=>List AV->(List AV->Rs)->Rs) (fun l k=>k l)
  (fun v _ ih l k=>List.rec (motive:=fun _=>Rs) (.bad 6) (fun _ t _=>ih t fun t=>k (v::t)) l) vs
def pL (r:Nat)(vs:List AV):List AV->(List AV->Rs)->Rs :=
 Nat.rec (motive:=fun _=>List AV->(List AV->Rs)->Rs) (fun l k=>MX vs l k)
  (fun _ ih l k=>List.rec (motive:=fun _=>Rs) (.bad 6) (fun x t _=>ih t fun t=>k (x::t)) l) r
def rT (n:Nat):List AV->(List AV->Rs)->Rs :=
 Nat.rec (motive:=fun _=>List AV->(List AV->Rs)->Rs) (fun _ k=>k [])
  (fun _ ih l k=>List.rec (motive:=fun _=>Rs) (.bad 7) (fun x t _=>ih t fun t=>k (x::t)) l) n
def pM (n:Nat):List AV->(List AV->Rs)->Rs :=
 Nat.rec (motive:=fun _=>List AV->(List AV->Rs)->Rs) (fun l k=>k l)
  (fun _ ih l k=>List.rec (motive:=fun _=>Rs) (.bad 7) (fun _ t _=>ih t k) l) n
def xe (l:List UInt8):Nat:=l.foldl (fun n b=>n*256+b.toNat) 0
def G9:Fn->Bool
 |.yield _=>false
 |_=>true
def il:Nat->Value->Option AV
 |0,_=>none
 |_+1,.bool b=>some (.bool b)
 |_+1,.int k n=>some (.int k n)
 |_+1,.float k n=>some (.float k n)
 |_+1,.string s=>some (.str s.data.toList.length (xe s.data.toList))
 |_+1,.pointer none=>some .dY
 |_+1,.slice none 0 0=>some .ab
 |_+1,.map none=>some .bg
 |_+1,.nilFunc=>some .cy
 |_+1,.nilIface=>some .nilIface
 |d+1,.func fn first captured =>
  match G9 fn,first.toList.mapM (il d),captured.toList.mapM (il d)with
  |true,some a,some b=>some (.func fn a b)
  |_,_,_=>none
 |d+1,.agg cs=>(cs.toList.mapM (il d)).map .agg
 |d+1,.tuple cs=>(cs.toList.mapM (il d)).map .dC
 |_,_=>none
def Oc (o:AO):(Nat->Bool->Rs)->Rs :=
 AO.rec (motive:=fun _=>(Nat->Bool->Rs)->Rs) (fun _ _ _ _ _=>.bad 12) (fun _ _ _ _ _ _ _ _=>.bad 12) (fun e s kk=>kk e s) (fun _ _ _=>.bad 12) (fun _ _ _ _ _=>.bad 12) (fun _ _ _ _ _ _ _ _=>.bad 12) (fun _=>.bad 12) (fun _=>.bad 12) o
def Ha (o:AO):(Nat->Nat->TypeId->Tr (List AV)->Rs)->(Pz->Nat->Bool->Nat->Nat->TypeId->Tr (List AV)->Rs)->Rs :=
 AO.rec (motive:=fun _=>(Nat->Nat->TypeId->Tr (List AV)->Rs)->(Pz->Nat->Bool->Nat->Nat->TypeId->Tr (List AV)->Rs)->Rs)
  (fun es n el c ka _=>ka es n el c) (fun f ep e9 es n el c _ ks=>ks f ep e9 es n el c) (fun _ _ _ _=>.bad 14) (fun _ _ _ _=>.bad 14) (fun _ _ _ _ _ _=>.bad 14) (fun _ _ _ _ _ _ _ _ _=>.bad 14) (fun _ _=>.bad 14) (fun _ _=>.bad 14) o
def oF (o:AO):(List ME->Nat->Rs)->Rs :=
 AO.rec (motive:=fun _=>(List ME->Nat->Rs)->Rs) (fun _ _ _ _ _=>.bad 103) (fun _ _ _ _ _ _ _ _=>.bad 103) (fun _ _ _=>.bad 103) (fun es c kk=>kk es c) (fun _ _ _ _ _=>.bad 103) (fun _ _ _ _ _ _ _ _=>.bad 103) (fun _=>.bad 103) (fun _=>.bad 103) o
def xf (o:AO):(Pz->Nat->List Nat->Nat->Rs)->Rs :=
 AO.rec (motive:=fun _=>(Pz->Nat->List Nat->Nat->Rs)->Rs) (fun _ _ _ _ _=>.bad 260) (fun _ _ _ _ _ _ _ _=>.bad 260) (fun _ _ _=>.bad 260) (fun _ _ _=>.bad 260) (fun m s l c kk=>kk m s l c) (fun _ _ _ _ _ _ _ _=>.bad 260) (fun _=>.bad 260) (fun _=>.bad 260) o
def lD (o:AO):(Nat->Nat->Tm->Array Tmp->Code->Code->LS->Rs)->Rs :=
 AO.rec (motive:=fun _=>(Nat->Nat->Tm->Array Tmp->Code->Code->LS->Rs)->Rs) (fun _ _ _ _ _=>.bad 290) (fun _ _ _ _ _ _ _ _=>.bad 290) (fun _ _ _=>.bad 290) (fun _ _ _=>.bad 290) (fun _ _ _ _ _=>.bad 290) (fun f nt tm ps a b st kk=>kk f nt tm ps a b st) (fun _=>.bad 290) (fun _=>.bad 290) o
def BN (o:AO)(r:Rs):Rs :=
 AO.rec (motive:=fun _=>Rs) (fun _ _ _ _=>.bad 291) (fun _ _ _ _ _ _ _=>.bad 291) (fun _ _=>.bad 291) (fun _ _=>.bad 291) (fun _ _ _ _=>.bad 291) (fun _ _ _ _ _ _ _=>.bad 291) r (.bad 291) o
def vC (hp:Tr AO)(f:Pz)(ep:Nat)(k:Bool->Rs):Rs :=
 hp.gw f (.bad 10) fun o=>Oc o fun e ix=>bV (Nat.beq e ep) (k ix) (.bad 11)
def Kl (hp:Tr AO)(id:Pz)(k:Nat->Nat->Tr (List AV)->Rs):Rs :=
 hp.gw id (.bad 13) fun o=>Ha o (fun es n _ c=>k es n c) fun f ep _ es n _ c=>vC hp f ep fun _=>k es n c
def vD (es n:Nat)(c:Tr (List AV))(off:Nat)(k:Nat->Nat->List AV->Rs):Rs :=
 bj (Nat.div off es) fun q=>bj (Nat.mod off es) fun r=>bV (Nat.blt q n) (c.gw (aX q) (.bad 15) fun l=>k q r l) (.bad 16)
def pN (hp:Tr AO)(id:Pz)(off:Nat)(k:AV->Rs):Rs :=
 Kl hp id fun es n c=>vD es n c off fun _ r l=>vg r l k
def kQ (hp:Tr AO)(id:Pz)(off sz:Nat)(k:List AV->Rs):Rs :=
 Kl hp id fun es n c=>vD es n c off fun _ r l =>
  bV (Nat.beq sz es&&Nat.beq r 0) (k l) (pM r l fun l=>rT sz l k)
def sH (v:AV):Bool :=
 AV.rec (motive_1:=fun _=>Bool) (motive_2:=fun _=>Unit)
  (fun _=>true)
  (fun _ _=>true)
  (fun _ _=>true)
  (fun _ _=>true)
  (fun _ _=>true)
  (true)
  (fun _ _ _ _=>true)
  (fun _ _ _ _=>true)
  (true)
  (fun _=>true)
  (true)
  (fun _ _ _ _ _=>true)
  (true)
  (fun _ _ _=>true)
  (true)
  (fun _ _=>false)
  (fun _ _=>false)
  (fun _ _ _ _=>true)
  (fun _ _=>true)
  (fun _=>true)
  (fun _=>true)
  () (fun _ _ _ _=>()) v
def flat (vs:List AV):Bool:=List.rec (motive:=fun _=>Bool) true (fun v _ ih=>Bool.rec (motive:=fun _=>Bool) false ih (sH v)) vs
def jD (hp:Tr AO)(id:Pz)(off:Nat)(vs:List AV)(k:Tr AO->Rs):Rs :=
 bV (flat vs) (hp.gw id (.bad 17) fun o=>Ha o (fun es n el c=>vD es n c off fun q r l=>pL r vs l fun l=>c.c9 (aX q) l fun c=>hp.c9 id (.arr es n el c) k)
    (fun f ep e9 es n el c=>vC hp f ep fun ix =>
     vD es n c off fun q r l=>pL r vs l fun l=>c.c9 (aX q) l fun c =>
      bV ix (hp.c9 id (.cG f ep e9 es n el c) k)
       (bj (ep+1) fun ep=>hp.c9 f (.dJ ep true) fun hp=>hp.c9 id (.cG f ep e9 es n el c) k))) (.bad 19)
def newObj (hp:Tr AO)(nx:Pz)(o:AO)(k:Pz->Tr AO->Pz->Rs):Rs :=
 hp.c9 nx o fun hp=>nx.MT fun nx'=>k nx hp nx'
def lE (hp:Tr AO)(nx:Pz)(es n:Nat)(el:TypeId)(c:Tr (List AV))(k:Pz->Tr AO->Pz->Rs):Rs :=
 newObj hp nx (.arr es n el c) k
def one (l:List AV):Tr (List AV):=.n .e (some l) .e
def Fq (ls:List (List AV)):Nat->Tr (List AV)->(Tr (List AV)->Rs)->Rs :=
 List.rec (motive:=fun _=>Nat->Tr (List AV)->(Tr (List AV)->Rs)->Rs) (fun _ c k=>k c)
  (fun l _ ih q c k=>c.c9 (aX q) l fun c=>bj (q+1) fun q=>ih q c k) ls
def jv (hp:Tr AO)(id:Pz)(sz:Nat)(n:Nat):Nat->(List (List AV)->Rs)->Rs :=
 Nat.rec (motive:=fun _=>Nat->(List (List AV)->Rs)->Rs) (fun _ k=>k [])
  (fun _ ih off k=>kQ hp id off sz fun l=>bj (off+sz) fun off=>ih off fun r=>k (l::r)) n
def lF (id:Pz)(sz:Nat)(ls:List (List AV)):Nat->Tr AO->(Tr AO->Rs)->Rs :=
 List.rec (motive:=fun _=>Nat->Tr AO->(Tr AO->Rs)->Rs) (fun _ hp k=>k hp)
  (fun l _ ih off hp k=>bV (Nat.beq l.length sz) (jD hp id off l fun hp=>bj (off+sz) fun off=>ih off hp k) (.bad 9)) ls
def ae (P:Program)(t:TypeId):Nat:=((P.info? t).map (·.size)).getD 0
def zeroOf (P:Program)(t:TypeId):Option AV:=match P.info? t with|some i=>i.zero.bind (il 8)|none=>none
def dZ (P:Program)(t:TypeId):Bool:=match P.underlying t with|some (.struct _)|some (.array _ _)=>true|_=>false
def cD (P:Program)(t:TypeId):Bool:=(P.underlying t).isSome
structure Fs where run:Tm->(AV->Rs)->Rs
def cH (x:Operand):Fs :=
 match x with
 |.tmp t=>⟨(pK t).run⟩
 |.const v=>match il 8 v with
  |some a=>⟨fun _ k=>k a⟩
  |none=>⟨fun _ _=>.bad 20⟩
 |.global _=>⟨fun _ _=>.bad 21⟩
 |.func f=>⟨fun _ k=>k (.func (.func f) [] [])⟩
def zh (xs:List Operand):Tm->(List AV->Rs)->Rs :=
 List.rec (motive:=fun _=>Tm->(List AV->Rs)->Rs) (fun _ k=>k []) (fun x _ ih tm k=>(cH x).run tm fun v=>ih tm fun vs=>k (v::vs)) xs
structure bP where
 run:Nat->List AV->Tr AO->Pz->(AV->Tr AO->Pz->Rs)->Rs
 code:Nat->Nat->Code->Tm->Tr AO->Pz->(Ex->Tm->Tr AO->Pz->Rs)->Rs
structure OB where run:bP->Tm->Tr AO->Pz->(AV->Tr AO->Pz->Rs)->Rs
def dK (n:Nat):OB:=⟨fun _ _ _ _ _=>.bad n⟩
def dV (f:Tm->(AV->Rs)->Rs):OB:=⟨fun _ tm hp nx k=>f tm fun v=>k v hp nx⟩
def Hb (v:AV):Option Value :=
 match v with
 |.bool b=>some (.bool b)
 |.int k n=>some (.int k n)
 |.float k n=>some (.float k n)
 |_=>none
def Hc (s:Sem Value)(k:AV->Rs):Rs :=
 match s with
 |.pure (.int kd n)=>mM n fun n=>k (.int kd n)
 |.pure (.bool b)=>c7 b fun b=>k (.bool b)
 |.pure (.float f b)=>bj b fun b=>k (.float f b)
 |_=>.bad 30
def vE (kd:IntKind)(z:Int)(k:Int->Rs):Rs :=
 match kd with
 |.i64=>Int.rec (motive:=fun _=>Rs) (fun m=>bV (Nat.ble m 9223372036854775807) (bj m fun m=>k (.ofNat m)) (mM (IntKind.i64.wrap z) k))
  (fun m=>bV (Nat.ble m 9223372036854775807) (bj m fun m=>k (.negSucc m)) (mM (IntKind.i64.wrap z) k)) z
 |kd=>mM (kd.wrap z) k
def Hd (op:BinOp)(t:TypeId)(kd:IntKind)(a:Int)(kd':IntKind)(b:Int)(k:AV->Rs):Rs :=
 match op with
 |.add=>bV (decide (kd=kd')) (vE kd (Int.add a b) fun z=>k (.int kd z)) (.bad 31)
 |.sub=>bV (decide (kd=kd')) (vE kd (Int.sub a b) fun z=>k (.int kd z)) (.bad 31)
 |.eql=>bV (decide (kd=kd')) (c7 (a==b) fun b=>k (.bool b)) (.bad 31)
 |.neq=>bV (decide (kd=kd')) (c7 (a != b) fun b=>k (.bool b)) (.bad 31)
 |.lss=>bV (decide (kd=kd')) (c7 (decide (a<b)) fun b=>k (.bool b)) (.bad 31)
 |.leq=>bV (decide (kd=kd')) (c7 (decide (a<=b)) fun b=>k (.bool b)) (.bad 31)
 |.gtr=>bV (decide (kd=kd')) (c7 (decide (a > b)) fun b=>k (.bool b)) (.bad 31)
 |.geq=>bV (decide (kd=kd')) (c7 (decide (a ≥ b)) fun b=>k (.bool b)) (.bad 31)
 |op=>Hc (binOp op t (.int kd a) (.int kd' b)) k
def lG (n:Nat):Nat:=Nat.shiftLeft 1 (8*n)
def jq (len n:Nat):Nat:=Nat.mod n (lG len)
def aR (l m l' m':Nat):Bool:=Nat.beq l l'&&Nat.beq (jq l m) (jq l' m')
def zi (op:BinOp)(l m l' m':Nat)(k:AV->Rs):Rs :=
 match op with
 |.add=>bj (l+l') fun n=>bV (Nat.ble n 4294967296) (bj (m*lG l'+jq l' m') fun x=>k (.str n x)) (.bad 32)
 |.eql=>c7 (aR l m l' m') fun b=>k (.bool b)
 |.neq=>c7 (!aR l m l' m') fun b=>k (.bool b)
 |_=>.bad 33
def lH (P:Program):Nat->TypeId->AV->AV->(Bool->Rs)->Rs
 |0,_,_,_,_=>.bad 34
 |d+1,t,x,y,k =>
  match P.underlying t,x,y with
  |some .bool,.bool a,.bool b=>c7 (a==b) k
  |some (.int _),.int ka a,.int kb b=>bV (decide (ka=kb)) (c7 (a==b) k) (.bad 35)
  |some .string,.str l m,.str l' m'=>c7 (aR l m l' m') k
  |some (.pointer _),.dY,.dY=>k true
  |some (.pointer _),.dY,.ptr _ _=>k false
  |some (.pointer _),.ptr _ _,.dY=>k false
  |some (.slice _),.ab,.ab=>k true
  |some (.slice _),.ab,.slice _ _ _ _=>k false
  |some (.slice _),.ab,.bt _ _ _ _=>k false
  |some (.slice _),.slice _ _ _ _,.ab=>k false
  |some (.slice _),.bt _ _ _ _,.ab=>k false
  |some (.map _ _),.bg,.bg=>k true
  |some (.map _ _),.bg,.map _=>k false
  |some (.map _ _),.map _,.bg=>k false
  |some (.func _ _ _),.cy,.cy=>k true
  |some (.func _ _ _),.cy,.func _ _ _=>k false
  |some (.func _ _ _),.func _ _ _,.cy=>k false
  |some (.struct fields),.agg xs,.agg ys =>
   bV (P.stoodInHeld t) (.bad 36)
    (List.rec (motive:=fun _=>(Bool->Rs)->Rs) (fun k=>k true)
     (fun f _ ih k=>bV (f.name == "_") (ih k)
      (pM f.offset xs fun a=>pM f.offset ys fun b=>bj (ae P f.type) fun sz=>rT sz a fun a=>rT sz b fun b =>
       bV (dZ P f.type) (lH P d f.type (.agg a) (.agg b) fun e=>bV e (ih k) (k false))
        (vg 0 a fun a=>vg 0 b fun b=>lH P d f.type a b fun e=>bV e (ih k) (k false)))) fields.toList k)
  |some (.array n e),.agg [a,b],.agg [a',b'] =>
   bV (Nat.beq n 2) (bV (!dZ P e&&((P.info? e).isSome&&Nat.beq (ae P e) 1)) (lH P d e a a' fun x=>bV x (lH P d e b b' k) (k false)) (.bad 39)) (.bad 38)
  |_,_,_=>.bad 37
def zj (P:Program)(op:BinOp)(t:TypeId)(x y:AV)(k:AV->Rs):Rs :=
 match x,y with
 |.int kd a,.int kd' b=>Hd op t kd a kd' b k
 |.str l m,.str l' m'=>zi op l m l' m' k
 |.float _ _,_=>.bad 38
 |x,y=>match op with
  |.eql=>lH P 9 t x y fun b=>k (.bool b)
  |.neq=>lH P 9 t x y fun b=>c7 (!b) fun b=>k (.bool b)
  |_=>.bad 39
def isEq (op:BinOp):Bool:=match op with|.eql|.neq=>true|_=>false
def Dt (P:Program)(op:BinOp)(t:TypeId):Bool:=!isEq op||!P.eqGuardType P.depth t
def eM (a:IntKind):IntKind->Bool :=
 IntKind.rec (motive:=fun _=>IntKind->Bool)
  (fun b=>IntKind.rec (motive:=fun _=>Bool) true false false false false false false false b)
  (fun b=>IntKind.rec (motive:=fun _=>Bool) false true false false false false false false b)
  (fun b=>IntKind.rec (motive:=fun _=>Bool) false false true false false false false false b)
  (fun b=>IntKind.rec (motive:=fun _=>Bool) false false false true false false false false b)
  (fun b=>IntKind.rec (motive:=fun _=>Bool) false false false false true false false false b)
  (fun b=>IntKind.rec (motive:=fun _=>Bool) false false false false false true false false b)
  (fun b=>IntKind.rec (motive:=fun _=>Bool) false false false false false false true false b)
  (fun b=>IntKind.rec (motive:=fun _=>Bool) false false false false false false false true b) a
def vF (mx:Nat)(kd:IntKind)(z:Int)(k:Int->Rs):Rs :=
 Int.rec (motive:=fun _=>Rs) (fun m=>bV (Nat.ble m mx) (bj m fun m=>k (.ofNat m)) (mM (kd.wrap (.ofNat m)) k))
  (fun m=>bV (Nat.ble m mx) (bj m fun m=>k (.negSucc m)) (mM (kd.wrap (.negSucc m)) k)) z
def vG (mx:Nat)(kd:IntKind)(z:Int)(k:Int->Rs):Rs :=
 Int.rec (motive:=fun _=>Rs) (fun m=>bV (Nat.ble m mx) (bj m fun m=>k (.ofNat m)) (mM (kd.wrap (.ofNat m)) k))
  (fun m=>mM (kd.wrap (.negSucc m)) k) z
def tD (kd:IntKind):Int->(Int->Rs)->Rs :=
 IntKind.rec (motive:=fun _=>Int->(Int->Rs)->Rs) (vF 127 .i8) (vF 32767 .i16) (vF 2147483647 .i32) (vF 9223372036854775807 .i64) (vG 255 .u8) (vG 65535 .u16) (vG 4294967295 .u32) (vG 18446744073709551615 .u64) kd
def Od (a:Int):Int->(Int->Rs)->Rs :=
 Int.rec (motive:=fun _=>Int->(Int->Rs)->Rs)
  (fun m b k=>Int.rec (motive:=fun _=>Rs) (fun n=>bj (Nat.add m n) fun s=>k (.ofNat s)) (fun n=>mM (Int.add (.ofNat m) (.negSucc n)) k) b)
  (fun m b k=>mM (Int.add (.negSucc m) b) k) a
def Oe (a:Int):Int->(Int->Rs)->Rs :=
 Int.rec (motive:=fun _=>Int->(Int->Rs)->Rs)
  (fun m b k=>Int.rec (motive:=fun _=>Rs) (fun n=>bV (Nat.ble n m) (bj (Nat.sub m n) fun s=>k (.ofNat s)) (mM (Int.sub (.ofNat m) (.ofNat n)) k)) (fun n=>mM (Int.sub (.ofNat m) (.negSucc n)) k) b)
  (fun m b k=>mM (Int.sub (.negSucc m) b) k) a
def QS (a:Int):Int->(Bool->Rs)->Rs :=
 Int.rec (motive:=fun _=>Int->(Bool->Rs)->Rs)
  (fun m b k=>Int.rec (motive:=fun _=>Rs) (fun n=>c7 (Nat.ble (Nat.succ m) n) k) (fun n=>c7 (decide (Int.ofNat m < .negSucc n)) k) b)
  (fun m b k=>c7 (decide (Int.negSucc m<b)) k) a
def J8 (a:Int):Int->(Bool->Rs)->Rs :=
 Int.rec (motive:=fun _=>Int->(Bool->Rs)->Rs)
  (fun m b k=>Int.rec (motive:=fun _=>Rs) (fun n=>c7 (Nat.ble m n) k) (fun n=>c7 (decide (Int.ofNat m<=.negSucc n)) k) b)
  (fun m b k=>c7 (decide (Int.negSucc m<=b)) k) a
def QT (a:Int):Int->(Bool->Rs)->Rs :=
 Int.rec (motive:=fun _=>Int->(Bool->Rs)->Rs)
  (fun m b k=>Int.rec (motive:=fun _=>Rs) (fun n=>c7 (Nat.beq m n) k) (fun n=>k false) b)
  (fun m b k=>Int.rec (motive:=fun _=>Rs) (fun n=>k false) (fun n=>c7 (Nat.beq m n) k) b) a
def mN (l m l' m':Nat)(k:Bool->Rs):Rs:=bV (Nat.beq l l') (c7 (Nat.beq (jq l m) (jq l' m')) k) (k false)
structure TU where run:AV->AV->(AV->Rs)->Rs
def Ft (k:AV->Rs)(b:Bool):Rs:=Bool.rec (motive:=fun _=>Rs) (k (.bool true)) (k (.bool false)) b
def Of (P:Program)(op:BinOp)(t:TypeId):TU :=
 match op with
 |.add=>⟨fun x y k=>qS x (.bad 39) (fun kd a=>asInt y fun kd' b=>bV (eM kd kd') (Od a b fun z=>tD kd z fun z=>k (.int kd z)) (.bad 31)) fun l m=>kG y (.bad 39) fun l' m'=>zi .add l m l' m' k⟩
 |.sub=>⟨fun x y k=>asInt x fun kd a=>asInt y fun kd' b=>bV (eM kd kd') (Oe a b fun z=>tD kd z fun z=>k (.int kd z)) (.bad 31)⟩
 |.lss=>⟨fun x y k=>asInt x fun kd a=>asInt y fun kd' b=>bV (eM kd kd') (QS a b fun b=>k (.bool b)) (.bad 31)⟩
 |.gtr=>⟨fun x y k=>asInt x fun kd a=>asInt y fun kd' b=>bV (eM kd kd') (QS b a fun b=>k (.bool b)) (.bad 31)⟩
 |.leq=>⟨fun x y k=>asInt x fun kd a=>asInt y fun kd' b=>bV (eM kd kd') (J8 a b fun b=>k (.bool b)) (.bad 31)⟩
 |.geq=>⟨fun x y k=>asInt x fun kd a=>asInt y fun kd' b=>bV (eM kd kd') (J8 b a fun b=>k (.bool b)) (.bad 31)⟩
 |.eql=>⟨fun x y k=>qS x (zj P .eql t x y k) (fun kd a=>asInt y fun kd' b=>bV (eM kd kd') (QT a b fun b=>k (.bool b)) (.bad 31)) fun l m=>kG y (.bad 39) fun l' m'=>mN l m l' m' fun b=>k (.bool b)⟩
 |.neq=>⟨fun x y k=>qS x (zj P .neq t x y k) (fun kd a=>asInt y fun kd' b=>bV (eM kd kd') (QT a b (Ft k)) (.bad 31)) fun l m=>kG y (.bad 39) fun l' m'=>mN l m l' m' (Ft k)⟩
 |op=>⟨fun x y k=>zj P op t x y k⟩
def fq (P:Program)(t:TypeId)(f:Nat):Option (Nat×TypeId) :=
 match P.underlying t with
 |some (.struct fs)=>(fs[f]?).map fun f=>(f.offset,f.type)
 |_=>none
def rU (place:Nat->Option (Nat×Nat))(ps:List (Nat×Operand)):Tm->List AV->(List AV->Rs)->Rs :=
 List.rec (motive:=fun _=>Tm->List AV->(List AV->Rs)->Rs) (fun _ cs k=>k cs)
  (fun p _ ih tm cs k=>match place p.1 with
   |none=>.bad 40
   |some (off,size)=>(cH p.2).run tm fun v=>bV (Nat.beq v.cells.length size) (pL off v.cells cs fun cs=>ih tm cs k) (.bad 41)) ps
def fS (n:Nat)(l:List AV):List AV:=Nat.rec (motive:=fun _=>List AV) [] (fun _ ih=>l++ih) n
def xg (sz:Nat)(n:Nat):List AV->Nat->Tr (List AV)->(Tr (List AV)->Rs)->Rs :=
 Nat.rec (motive:=fun _=>List AV->Nat->Tr (List AV)->(Tr (List AV)->Rs)->Rs) (fun _ _ c k=>k c)
  (fun _ ih cs q c k=>rT sz cs fun l=>pM sz cs fun r=>c.c9 (aX q) l fun c=>bj (q+1) fun q=>ih r q c k) n
def Du (n:Nat)(l:List AV):Nat->Tr (List AV)->(Tr (List AV)->Rs)->Rs :=
 Nat.rec (motive:=fun _=>Nat->Tr (List AV)->(Tr (List AV)->Rs)->Rs) (fun _ c k=>k c)
  (fun _ ih q c k=>c.c9 (aX q) l fun c=>bj (q+1) fun q=>ih q c k) n
def fJ (x:Option Fs)(tm:Tm)(d:Nat)(k:Nat->Rs):Rs :=
 match x with
 |none=>k d
 |some e=>e.run tm fun v=>asNat v k
def BO (P:Program)(t:TypeId)(x:Fs)(lo hi mx:Option Fs):OB :=
 match P.underlying t with
 |some .string=>match mx with
  |none=>⟨fun _ tm hp nx k=>x.run tm fun v=>kG v (.bad 51) fun len n=>fJ hi tm len fun h=>fJ lo tm 0 fun l=>bV (Nat.ble l h&&Nat.ble h len) (bj (Nat.sub h l) fun ln=>bj (Nat.mod (Nat.div n (lG (Nat.sub len h))) (lG ln)) fun m=>k (.str ln m) hp nx) (.bad 50)⟩
  |some _=>dK 52
 |some (.slice el)=>match P.info? el,mx with
  |none,_=>dK 62
  |some _,some _=>dK 49
  |some _,none=>⟨fun _ tm hp nx k=>x.run tm fun v=>match v with
   |.slice id off len cap=>fJ hi tm len fun h=>fJ lo tm 0 fun l =>
    bV (Nat.ble l h&&Nat.ble h cap)
     (bj (Nat.sub h l) fun ln=>bj (Nat.sub cap l) fun c=>bV (Nat.beq cap l) (k (.slice id off ln c) hp nx) (bj (off+l*ae P el) fun off=>k (.slice id off ln c) hp nx)) (.bad 53)
   |.bt id off len skip=>fJ hi tm len fun h=>fJ lo tm 0 fun l =>
    hp.gw id (.bad 55) fun o=>match o with
    |.cG f ep e9 es n el' c=>vC hp f ep fun _=>bV (Nat.ble l h&&Nat.ble (skip+h) n)
     (bV (Nat.beq l 0&&Nat.blt 0 h) (k (.bt id off h skip) hp nx)
      (bV (Nat.blt (skip+l) n) (bj (Nat.sub h l) fun ln=>bj (off+l*ae P el) fun off=>bj (skip+l) fun skip=>k (.bt id off ln skip) hp nx)
       (bV (Nat.beq es (ae P el)&&Nat.beq off (skip*es))
         (hp.c9 f (.dJ ep false) fun hp=>hp.c9 id (.cG f ep false es n el' c) fun hp =>
          newObj hp nx (.cG f ep e9 es 0 el' .e) fun id hp nx=>k (.bt id 0 0 0) hp nx) (.bad 56)))) (.bad 58)
    |_=>.bad 57
   |.ab=>fJ hi tm 0 fun h=>fJ lo tm 0 fun l=>bV (Nat.beq h 0&&Nat.beq l 0) (k .ab hp nx) (.bad 59)
   |_=>.bad 60⟩
 |_=>dK 61
def grow (hp:Tr AO)(nx:Pz)(el:TypeId)(sz:Nat)(ls:List (List AV))(k:AV->Tr AO->Pz->Rs):Rs :=
 bj ls.length fun n=>Fq ls 0 .e fun c =>
  newObj hp nx (.dJ 0 true) fun f hp nx=>newObj hp nx (.cG f 0 true sz n el c) fun id hp nx=>k (.bt id 0 n 0) hp nx
def He (hp:Tr AO)(nx:Pz)(el:TypeId)(sz:Nat)(c0:Tr (List AV))(len:Nat)(ls:List (List AV))(k:AV->Tr AO->Pz->Rs):Rs :=
 bj (len+ls.length) fun n=>Fq ls len c0 fun c =>
  newObj hp nx (.dJ 0 true) fun f hp nx=>newObj hp nx (.cG f 0 true sz n el c) fun id hp nx=>k (.bt id 0 n 0) hp nx
def zk (hp:Tr AO)(nx id f:Pz)(ep:Nat)(e9:Bool)(es need n0:Nat)(el:TypeId)(c c':Tr (List AV))(k:AV->Tr AO->Pz->Rs):Rs :=
 bj (Bool.rec (motive:=fun _=>Nat) (ep+1) ep e9) fun ep=>bj n0 fun n0 =>
  hp.c9 f (.dJ ep false) fun hp=>hp.c9 id (.cG f ep false es n0 el c) fun hp =>
   newObj hp nx (.cG f ep true es need el c') fun id hp nx=>k (.bt id 0 need 0) hp nx
def gU (n sz:Nat):Bool:=Nat.ble n 1000000&&Nat.ble sz 10000
def zl (sz:Nat)(ls:List (List AV)):Bool:=List.rec (motive:=fun _=>Bool) true (fun l _ ih=>Bool.rec (motive:=fun _=>Bool) false ih (Nat.beq l.length sz&&flat l)) ls
def s8 (hp:Tr AO)(nx:Pz)(el:TypeId)(sz:Nat)(s:AV)(ls:List (List AV))(k:AV->Tr AO->Pz->Rs):Rs :=
 bV (zl sz ls) (bj ls.length fun m=>match s with
 |.ab=>bV (Nat.beq m 0) (k .ab hp nx) (bV (gU m sz) (grow hp nx el sz ls k) (.bad 70))
 |.slice id off len cap=>bj (len+m) fun need =>
  bV (Nat.ble need cap) (lF id sz ls (off+len*sz) hp fun hp=>k (.slice id off need cap) hp nx)
   (bV (gU need sz) (Kl hp id fun es n c =>
    bV (Nat.beq off 0&&(Nat.beq es sz&&Nat.ble len n)) (He hp nx el sz c len ls k)
     (jv hp id sz len off fun old=>grow hp nx el sz (old++ls) k)) (.bad 71))
 |.bt id off len skip=>bj (len+m) fun need=>hp.gw id (.bad 72) fun o=>match o with
  |.cG f ep e9 es n el' c=>bV (gU need sz&&(Nat.beq es sz&&(Nat.beq off (skip*es)&&(Nat.ble (skip+len) n&&Nat.beq el' el))))
   (vC hp f ep fun _=>bV (Nat.ble (skip+need) n) (lF id sz ls (off+len*sz) hp fun hp=>k (.bt id off need skip) hp nx)
     (bV (Nat.beq skip 0) (Fq ls len c fun c'=>zk hp nx id f ep (e9&&Nat.beq (skip+len) n) es need (skip+len) el' c c' k)
      (jv hp id sz len off fun old=>Fq (old++ls) 0 .e fun c'=>zk hp nx id f ep (e9&&Nat.beq (skip+len) n) es need (skip+len) el' c c' k))) (.bad 74)
  |_=>.bad 75
 |_=>.bad 76) (.bad 77)
end
end Go.aI
namespace Go.aI
noncomputable section
def Km (P:Program)(t:TypeId)(hp:Tr AO)(v:AV)(k:Nat->Rs):Rs :=
 match P.underlying t,v with
 |some .string,.str l _=>k l
 |some (.array n _),_=>k n
 |some (.slice _),.slice _ _ n _=>k n
 |some (.slice _),.bt _ _ n _=>k n
 |some (.slice _),.ab=>k 0
 |some (.map _ _),.bg=>k 0
 |some (.map _ _),.map id=>hp.gw id (.bad 80) fun o=>match o with
  |.map es _=>k es.length
  |_=>.bad 81
 |_,_=>.bad 82
structure TV where run:Tr AO->AV->(Nat->Rs)->Rs
def Kn (P:Program)(t:TypeId):TV :=
 match P.underlying t with
 |some .string=>⟨fun _ v k=>kG v (.bad 82) fun l _=>k l⟩
 |some (.slice _)=>⟨fun _ v k=>G7 v (.bad 82) (k 0) (fun _ _ n _=>k n) fun _ _ n _=>k n⟩
 |_=>⟨fun hp v k=>Km P t hp v k⟩
def kR (len:Nat)(n:Nat):List (List AV)->(List (List AV)->Rs)->Rs :=
 Nat.rec (motive:=fun _=>Nat->List (List AV)->(List (List AV)->Rs)->Rs) (fun _ acc k=>k acc)
  (fun _ ih n acc k=>bj (Nat.mod n 256) fun b=>bj (Nat.div n 256) fun n=>ih n ([.int .u8 (.ofNat b)]::acc) k) len n
def lI (hp:Tr AO)(sz:Nat)(v:AV)(k:List (List AV)->Rs):Rs :=
 match v with
 |.ab=>k []
 |.slice id off len _=>jv hp id sz len off k
 |.bt id off len _=>jv hp id sz len off k
 |.str l n=>bV (Nat.beq sz 1) (kR l n [] k) (.bad 83)
 |_=>.bad 84
def mP (ls:List (List AV)):Nat->(Nat->Rs)->Rs :=
 List.rec (motive:=fun _=>Nat->(Nat->Rs)->Rs) (fun n k=>k n)
  (fun l _ ih n k=>vg 0 l fun v=>match v with|.int .u8 (.ofNat b)=>bV (Nat.blt b 256) (bj (n*256+b) fun n=>ih n k) (.bad 85)|_=>.bad 85) ls
def Dv (P:Program)(src dst:TypeId)(x:Fs):OB :=
 match P.underlying src,P.underlying dst with
 |some (.int _),some (.int kd)=>dV fun tm k=>x.run tm fun v=>asInt v fun _ n=>tD kd n fun n=>k (.int kd n)
 |some .string,some .string=>dV fun tm k=>x.run tm fun v=>match v with|.str l n=>k (.str l n)|_=>.bad 90
 |some .string,some (.slice e)=>match P.underlying e with
  |some (.int .u8)=>⟨fun _ tm hp nx k=>x.run tm fun v=>match v with
   |.str l n=>kR l n [] fun ls=>bV (gU l 1) (grow hp nx e 1 ls k) (.bad 91)
   |_=>.bad 92⟩
  |_=>dK 95
 |some (.slice _),some (.slice e)=>match P.underlying e with
  |some (.int .u8)=>⟨fun _ tm hp nx k=>x.run tm fun v=>match v with
   |.slice id off len cap=>bV (Nat.beq src dst) (hp.gw id (.bad 230) fun o=>match o with
    |.arr _ _ _ _=>k (.slice id off len cap) hp nx
    |_=>.bad 231) (.bad 232)
   |_=>.bad 233⟩
  |_=>dK 234
 |some (.slice e),some .string=>match P.underlying e with
  |some (.int .u8)=>⟨fun _ tm hp nx k=>x.run tm fun v=>match v with
   |.str _ _=>.bad 98
   |v=>lI hp 1 v fun ls=>bj ls.length fun l=>mP ls 0 fun n=>k (.str l n) hp nx⟩
  |_=>dK 96
 |_,_=>dK 97
def mn (P:Program)(t:TypeId)(k:AV)(es:List ME):Nat->Rs->(Nat->ME->Rs)->Rs :=
 List.rec (motive:=fun _=>Nat->Rs->(Nat->ME->Rs)->Rs) (fun _ z _=>z)
  (fun e _ ih i z kk=>lH P 9 t k e.key fun b=>bV b (kk i e) (bj (i+1) fun i=>ih i z kk)) es
def BP (P:Program):Nat->TypeId->AV->Bool
 |0,_,_=>false
 |d+1,t,v=>match P.underlying t with
  |some .bool|some (.int _)|some .string=>true
  |some (.struct fs)=>match v with
   |.agg cs=>fs.toList.all fun f=>match dZ P f.type with
    |true=>BP P d f.type (.agg ((cs.drop f.offset).take (ae P f.type)))
    |false=>match cs[f.offset]? with
     |some v=>BP P d f.type v
     |none=>false
   |_=>false
  |some (.array n e)=>match v with
   |.agg [a,b]=>Nat.beq n 2&&(!dZ P e&&((P.info? e).isSome&&Nat.beq (ae P e) 1))&&(BP P d e a&&BP P d e b)
   |_=>false
  |_=>false
def kH (P:Program)(t:TypeId)(v:AV)(r:Rs):Rs :=
 match P.underlying t with
 |some .bool|some (.int _)|some .string=>r
 |some (.struct _)|some (.array _ _)=>bV (BP P 4 t v) r (.bad 220)
 |_=>.bad 222
def tE (a b:AV):Bool :=
 match a,b with
 |.bool a,.bool b=>a==b
 |.int j a,.int k b=>decide (j=k)&&a==b
 |.str l m,.str l' m'=>aR l m l' m'
 |_,_=>false
def vH:List AV->List AV->Bool
 | [],[]=>true
 |a::as,b::bs=>tE a b&&vH as bs
 |_,_=>false
def oi (a b:AV):Bool :=
 match a,b with
 |.agg xs,.agg ys=>vH xs ys
 |a,b=>tE a b
def pO (v:AV)(i:Nat):List ME->(List ME->Rs)->Rs :=
 Nat.rec (motive:=fun _=>List ME->(List ME->Rs)->Rs) (fun l k=>List.rec (motive:=fun _=>Rs) (.bad 100) (fun e t _=>k (⟨e.key,v,e.born⟩::t)) l)
  (fun _ ih l k=>List.rec (motive:=fun _=>Rs) (.bad 100) (fun e t _=>ih t fun t=>k (e::t)) l) i
def vI (e:ME)(l:List ME):(List ME->Rs)->Rs :=
 List.rec (motive:=fun _=>(List ME->Rs)->Rs) (fun k=>k [e]) (fun x _ ih k=>ih fun t=>k (x::t)) l
def Dw (i:Nat):List ME->(List ME->Rs)->Rs :=
 Nat.rec (motive:=fun _=>List ME->(List ME->Rs)->Rs) (fun l k=>List.rec (motive:=fun _=>Rs) (.bad 101) (fun _ t _=>k t) l)
  (fun _ ih l k=>List.rec (motive:=fun _=>Rs) (.bad 101) (fun e t _=>ih t fun t=>k (e::t)) l) i
def pP (hp:Tr AO)(v:AV)(k:Pz->List ME->Nat->Rs):Rs :=
 MW v (.bad 104) (.bad 104) fun id=>hp.gw id (.bad 102) fun o=>oF o fun es c=>k id es c
def Dx (P:Program)(t:TypeId)(m i:Fs)(ok:Bool):OB :=
 match P.underlying t with
 |some (.map kt et)=>match zeroOf P et with
  |some z =>
   let out (v:AV) (b:Bool) (k:AV->Rs):Rs:=Bool.rec (motive:=fun _=>Rs) (k v) (k (.dC [v,.bool b])) ok
   ⟨fun _ tm hp nx k=>m.run tm fun m=>i.run tm fun i=>kH P kt i (match m with
    |.bg=>out z false fun v=>k v hp nx
    |m=>pP hp m fun _ es _=>mn P kt i es 0 (out z false fun v=>k v hp nx) fun _ e=>out e.val true fun v=>k v hp nx)⟩
  |none=>dK 105
 |_=>dK 106
def xh (P:Program)(t:TypeId)(m i x:Fs):OB :=
 match P.underlying t with
 |some (.map kt _)=>⟨fun _ tm hp nx k=>m.run tm fun m=>i.run tm fun i=>x.run tm fun x=>kH P kt i (pP hp m fun id es c =>
       mn P kt i es 0 (vI ⟨i,x,c⟩ es fun es=>bj (c+1) fun c=>hp.c9 id (.map es c) fun hp=>k aE hp nx)
        fun j e=>bV (oi e.key i) (pO x j es fun es=>hp.c9 id (.map es c) fun hp=>k aE hp nx) (.bad 107))⟩
 |_=>dK 108
def Hf (P:Program)(t:TypeId)(m i:Fs):OB :=
 match P.underlying t with
 |some (.map kt et)=>match zeroOf P et with
  |some z=>⟨fun _ tm hp nx k=>m.run tm fun m=>i.run tm fun i=>kH P kt i (pP hp m fun id es c =>
   mn P kt i es 0 (vI ⟨i,z,c⟩ es fun es=>bj (c+1) fun c'=>hp.c9 id (.map es c') fun hp=>k (.dC [z,.int .i64 (.ofNat c)]) hp nx)
    fun _ e=>bV (oi e.key i) (hp.c9 id (.map es c) fun hp=>k (.dC [e.val,.int .i64 (.ofNat e.born)]) hp nx) (.bad 107))⟩
  |none=>dK 109
 |_=>dK 110
def Dy (b:Nat)(es:List ME):Nat->(Nat->Rs)->Rs :=
 List.rec (motive:=fun _=>Nat->(Nat->Rs)->Rs) (fun _ _=>.bad 111) (fun e _ ih i k=>bV (Nat.beq e.born b) (k i) (bj (i+1) fun i=>ih i k)) es
def zm (m s x:Fs):OB :=
 ⟨fun _ tm hp nx k=>m.run tm fun m=>s.run tm fun s=>x.run tm fun x=>pP hp m fun id es c=>asNat s fun b =>
  Dy b es 0 fun j=>pO x j es fun es=>hp.c9 id (.map es c) fun hp=>k aE hp nx⟩
def Dz (P:Program)(t:TypeId)(m i:Fs):OB :=
 match P.underlying t with
 |some (.map kt _)=>⟨fun _ tm hp nx k=>m.run tm fun m=>i.run tm fun i=>kH P kt i (match m with
       |.bg=>k aE hp nx
       |m=>pP hp m fun id es c=>mn P kt i es 0 (hp.c9 id (.map es c) fun hp=>k aE hp nx) fun j _=>Dw j es fun es=>hp.c9 id (.map es c) fun hp=>k aE hp nx)⟩
 |_=>dK 113
def Og (a b:Rs):Rs:=Rs.rec (motive:=fun _=>Rs) b (fun n=>.bad n) a
def QU (b:Nat)(l:List Nat):Bool:=List.rec (motive:=fun _=>Bool) false (fun x _ ih=>Bool.rec (motive:=fun _=>Bool) ih true (Nat.beq x b)) l
def pQ (seen:List Nat)(es:List ME)(z:Rs)(k:ME->Rs):Bool->Rs :=
 List.rec (motive:=fun _=>Bool->Rs) (fun some=>Bool.rec (motive:=fun _=>Rs) z .ok some)
  (fun e _ ih some=>Bool.rec (motive:=fun _=>Rs) (Og (k e) (ih true)) (ih some) (QU e.born seen)) es
def Oh (since:Nat)(es:List ME):Bool:=List.rec (motive:=fun _=>Bool) true (fun e _ ih=>Bool.rec (motive:=fun _=>Bool) false ih (Nat.blt e.born since)) es
def BQ (P:Program)(t:TypeId)(x:Fs):OB :=
 match P.underlying t with
 |some (.map _ _)=>⟨fun _ tm hp nx k=>x.run tm fun v=>MW v (.bad 261) (.bad 262) fun m=>hp.gw m (.bad 263) fun o=>oF o fun es c=>newObj hp nx (.iter m c [] c) fun id hp nx=>k (.ptr id 0) hp nx⟩
 |_=>dK 264
def MY (it:Fs):OB :=
 ⟨fun _ tm hp nx k=>it.run tm fun v=>jU v fun id off=>bV (Nat.beq off 0) (hp.gw id (.bad 265) fun o=>xf o fun m since seen at'=>hp.gw m (.bad 266) fun o=>oF o fun es c =>
  bV (Oh since es&&Nat.ble since at') (pQ seen es (k (.dC [.bool false]) hp nx) (fun e=>hp.c9 id (.iter m since (e.born::seen) c) fun hp=>k (.dC [.bool true,e.key,e.val]) hp nx) false) (.bad 267)) (.bad 268)⟩
def Hg (b:Nat)(es:List ME):(ME->Rs)->Rs :=
 List.rec (motive:=fun _=>(ME->Rs)->Rs) (fun _=>.bad 269) (fun e _ ih k=>bV (Nat.beq e.born b) (k e) (ih k)) es
def zo (it:Fs):OB :=
 ⟨fun _ tm hp nx k=>it.run tm fun v=>jU v fun id off=>bV (Nat.beq off 0) (hp.gw id (.bad 265) fun o=>xf o fun m since seen at'=>hp.gw m (.bad 266) fun o=>oF o fun es c =>
  bV (Nat.beq c at') (List.rec (motive:=fun _=>Rs) (.bad 270) (fun b _ _=>Hg b es fun e=>k (.dC [e.key,e.val]) hp nx) seen) (.bad 271)) (.bad 268)⟩
def Ko (mx:Bool)(v y:AV)(k:AV->Rs):Rs :=
 asInt v fun ka a=>asInt y fun kb b=>bV (decide (ka=kb)) (bV (Bool.rec (motive:=fun _=>Bool) (decide (b<a)) (decide (b > a)) mx) (k (.int ka b)) (k (.int ka a))) (.bad 114)
def zp (P:Program)(b:Builtin)(ats:List TypeId)(args:List Operand):OB :=
 match b,ats,args with
 |.len,t::_,[x]=>⟨fun _ tm hp nx k=>(cH x).run tm fun v=>(Kn P t).run hp v fun n=>k (.int .i64 (.ofNat n)) hp nx⟩
 |.append,[ts,tx],[s,x]=>match P.underlying ts,P.underlying tx with
  |some (.slice _),some (.int _)=>dK 117
  |some (.slice e),some _=>match zeroOf P e with
   |some z=>match Nat.ble (P.bytesOf e) 1000000&&(Nat.beq z.cells.length (ae P e)&&Nat.blt 0 (ae P e))with
    |true=>⟨fun _ tm hp nx k=>(cH s).run tm fun s=>(cH x).run tm fun x=>lI hp (ae P e) x fun ls=>s8 hp nx e (ae P e) s ls k⟩
    |false=>dK 204
   |none=>dK 205
  |_,_=>dK 118
 |.min,_,[x,y]=>dV fun tm k=>(cH x).run tm fun a=>(cH y).run tm fun b=>Ko false a b k
 |.max,_,[x,y]=>dV fun tm k=>(cH x).run tm fun a=>(cH y).run tm fun b=>Ko true a b k
 |.delete,t::_,[m,i]=>Dz P t (cH m) (cH i)
 |_,_,_=>dK 121
def sJ (a:List AV)(b:List AV):List AV:=List.rec (motive:=fun _=>List AV) b (fun x _ ih=>x::ih) a
def mq (p:Pz):Nat:=Pz.rec (motive:=fun _=>Nat) 1 (fun _ ih=>Nat.mul 2 ih) (fun _ ih=>Nat.succ (Nat.mul 2 ih)) p
def cQ:Code->Bool
 |.seq a b=>cQ a&&cQ b
 |.cond _ a b=>cQ a&&cQ b
 |.block _ b=>cQ b
 |.loop b=>cQ b
 |.scope b=>cQ b
 |.rangeFunc _ _ _ _=>false
 |_=>true
def xi (nt:Nat)(ps:List Tmp):List AV->Tm->(Tm->Rs)->Rs :=
 List.rec (motive:=fun _=>List AV->Tm->(Tm->Rs)->Rs) (fun vs tm k=>List.rec (motive:=fun _=>Rs) (k tm) (fun _ _ _=>.bad 285) vs)
  (fun p _ ih vs tm k=>List.rec (motive:=fun _=>Rs) (.bad 285) (fun v vs _=>bV (Nat.blt p nt) ((tC p).run tm v fun tm=>ih vs tm k) (.bad 286)) vs) ps
def iH (id:Pz)(st:LS)(hp:Tr AO)(k:Tr AO->Rs):Rs :=
 hp.gw id (.bad 284) fun o=>lD o fun f nt tm ps x y _=>hp.c9 id (.loop f nt tm ps x y st) k
def isReady (st:LS)(r:Rs):Rs:=LS.rec (motive:=fun _=>Rs) r (.bad 287) (fun _=>.bad 287) st
def xj (call:bP)(j:Nat)(args:List AV)(hp:Tr AO)(nx:Pz)(k:AV->Tr AO->Pz->Rs):Rs :=
 hp.gw (aX (Nat.pred j)) (.bad 284) fun o=>lD o fun f nt tm ps x y st=>bV (cQ x&&cQ y) (xi nt ps.toList args tm fun tm =>
  call.code f nt x tm hp nx fun e tm hp nx=>Ex.rec (motive:=fun _=>Rs)
   (hp.gw (aX (Nat.pred j)) (.bad 284) fun o=>lD o fun _ _ _ _ _ _ st=>isReady st (iH (aX (Nat.pred j)) .busy hp fun hp =>
    call.code f nt y tm hp nx fun e _ hp nx=>Ex.rec (motive:=fun _=>Rs)
     (iH (aX (Nat.pred j)) .ready hp fun hp=>k (.bool true) hp nx)
     (fun i=>iH (aX (Nat.pred j)) (.done (.ext i)) hp fun hp=>k (.bool false) hp nx)
     (iH (aX (Nat.pred j)) (.done .ret) hp fun hp=>k (.bool false) hp nx) e))
   (fun _=>.bad 288) (.bad 288) e) (.bad 289)
def Hh (P:Program)(c:Call):OB :=
 match c.callee with
 |.builtin b=>zp P b c.argTypes.toList c.args.toList
 |.value f=>⟨fun call tm hp nx k=>(cH f).run tm fun fv=>zh c.args.toList tm fun vs=>BM fv (.bad 122) fun f first captured=>match f with
  |.func g=>call.run g (sJ first (sJ vs captured)) hp nx k
  |.yield j=>List.rec (motive:=fun _=>Rs) (List.rec (motive:=fun _=>Rs) (xj call j vs hp nx k) (fun _ _ _=>.bad 122) captured) (fun _ _ _=>.bad 122) first
  |_=>.bad 122⟩
 |.invoke _ _=>dK 123
def Vf (op:UnOp)(v:AV)(k:AV->Rs):Rs :=
 match op,v with
 |.not,.bool b=>c7 (!b) fun b=>k (.bool b)
 |.neg,.int kd n=>vE kd (Int.sub 0 n) fun n=>k (.int kd n)
 |op,v=>match Hb v with
  |some c=>Hc (Op.unary op c) k
  |none=>.bad 138
def zs (P:Program)(o:Oper):OB :=
 match o.op with
 |.move x|.assign x=>dV (cH x).run
 |.pick c a b=>dV fun tm k=>(cH c).run tm fun c=>asBool c fun c=>Bool.rec (motive:=fun _=>Rs) ((cH b).run tm k) ((cH a).run tm k) c
 |.alloc e=>match zeroOf P e with
  |some z=>⟨fun _ tm hp nx k=>bj z.cells.length fun es=>lE hp nx es 1 e (one z.cells) fun id hp nx=>k (.ptr id 0) hp nx⟩
  |none=>dK 130
 |.box e x=>⟨fun _ tm hp nx k=>(cH x).run tm fun v=>bj v.cells.length fun es=>lE hp nx es 1 e (one v.cells) fun id hp nx=>k (.ptr id 0) hp nx⟩
 |.build t ps=>match zeroOf P t,P.underlying t with
  |some z,some (.struct fs)=>match fs.toList.mapM (fun f=>(P.info? f.type).map fun i=>(f.offset,i.size))with
   |some places=>dV fun tm k=>rU (fun i=>places[i]?) (ps.toList) tm z.cells fun cs=>k (.agg cs)
   |none=>dK 202
  |some z,some (.array _ e)=>match P.info? e with
   |some _=>dV fun tm k=>rU (fun i=>some (i*ae P e,ae P e)) (ps.toList) tm z.cells fun cs=>k (.agg cs)
   |none=>dK 203
  |_,_=>dK 131
 |.buildSlice t len ps=>match P.underlying t with
  |some (.slice e)=>match zeroOf P e with
   |some z=>match Nat.ble len 10000&&(Nat.ble (ae P e) 1000&&(Nat.beq z.cells.length (ae P e)&&Nat.blt 0 (ae P e)))with
    |true=>⟨fun _ tm hp nx k=>rU (fun i=>some (i*ae P e,ae P e)) (ps.toList) tm (fS len z.cells) fun cs=>xg (ae P e) len cs 0 .e fun c =>
     lE hp nx (ae P e) len e c fun id hp nx=>k (.slice id 0 len len) hp nx⟩
    |false=>dK 132
   |none=>dK 133
  |_=>dK 134
 |.load t a=>match cD P t,dZ P t with
  |true,true=>⟨fun _ tm hp nx k=>(cH a).run tm fun v=>jU v fun id off=>kQ hp id off (ae P t) fun cs=>k (.agg cs) hp nx⟩
  |true,false=>⟨fun _ tm hp nx k=>(cH a).run tm fun v=>jU v fun id off=>pN hp id off fun v=>k v hp nx⟩
  |false,_=>dK 198
 |.store t a x=>match P.info? t with
  |some _=>⟨fun _ tm hp nx k=>(cH a).run tm fun p=>(cH x).run tm fun v=>jU p fun id off =>
   bV (Nat.beq v.cells.length (ae P t)) (jD hp id off v.cells fun hp=>k aE hp nx) (.bad 135)⟩
  |none=>dK 135
 |.nilCheck x=>dV fun tm k=>(cH x).run tm fun v=>MU v (.bad 136) (fun p o=>k (.ptr p o)) fun f a b=>match f with
  |.func f=>k (.func (.func f) a b)
  |_=>.bad 136
 |.binOp op t x y _=>match Dt P op t with
  |true=>dV fun tm k=>(cH x).run tm fun a=>(cH y).run tm fun b=>(Of P op t).run a b k
  |false=>dK 137
 |.unOp op _ x=>dV fun tm k=>(cH x).run tm fun v=>Vf op v k
 |.convert src dst x=>Dv P src dst (cH x)
 |.makeFunc fn first captured=>match G9 fn with
  |true=>dV fun tm k=>zh first.toList tm fun a=>zh captured.toList tm fun b=>k (.func fn a b)
  |false=>dK 282
 |.makeMap t none=>⟨fun _ tm hp nx k=>newObj hp nx (.map [] 0) fun id hp nx=>k (.map id) hp nx⟩
 |.makeMap t (some r)=>dK 139
 |.makeSlice t l c=>match P.underlying t with
  |some (.slice e)=>match zeroOf P e with
   |some z=>match Nat.beq z.cells.length (ae P e)&&(Nat.ble (ae P e) 1000&&(Nat.blt 0 (ae P e)&&Nat.ble (P.bytesOf e) 1000000))with
    |true=>⟨fun _ tm hp nx k=>(cH l).run tm fun l=>(cH c).run tm fun c=>asNat l fun l=>asNat c fun c=>bV (Nat.ble l c&&Nat.ble c 10000)
     (Du c z.cells 0 .e fun cs=>lE hp nx (ae P e) c e cs fun id hp nx=>k (.slice id 0 l c) hp nx) (.bad 140)⟩
    |false=>dK 141
   |none=>dK 142
  |_=>dK 143
 |.slice t x lo hi mx=>BO P t (cH x) (lo.map cH) (hi.map cH) (mx.map cH)
 |.fieldAddr t x f=>match fq P t f with
  |some (off,ft)=>match Nat.beq (ae P ft) 0 with
   |false=>dV fun tm k=>(cH x).run tm fun v=>jU v fun id o=>bj (o+off) fun o=>k (.ptr id o)
   |true=>dK 144
  |none=>dK 145
 |.field t x f=>match fq P t f with
  |some (off,ft)=>match cD P ft,dZ P ft with
   |false,_=>dK 199
   |true,true=>dV fun tm k=>(cH x).run tm fun v=>GY v (.bad 146) fun cs=>pM off cs fun cs=>rT (ae P ft) cs fun cs=>k (.agg cs)
   |true,false=>dV fun tm k=>(cH x).run tm fun v=>GY v (.bad 147) fun cs=>vg off cs k
  |none=>dK 148
 |.indexAddr t x i=>match P.underlying t with
  |some (.slice e)=>match P.info? e with
   |some _=>dV fun tm k=>(cH x).run tm fun v=>(cH i).run tm fun i=>asNat i fun i=>G7 v (.bad 151) (.bad 151)
    (fun id off len _=>bV (Nat.blt i len) (bj (off+i*ae P e) fun o=>k (.ptr id o)) (.bad 149))
    (fun id off len _=>bV (Nat.blt i len) (bj (off+i*ae P e) fun o=>k (.ptr id o)) (.bad 150))
   |none=>dK 153
  |some (.array n e)=>match P.info? e with
   |some _=>dV fun tm k=>(cH x).run tm fun v=>(cH i).run tm fun i=>asNat i fun i=>jU v fun id off =>
    bV (Nat.blt i n) (bj (off+i*ae P e) fun o=>k (.ptr id o)) (.bad 152)
   |none=>dK 153
  |_=>dK 153
 |.index t x i=>match P.underlying t with
  |some .string=>dV fun tm k=>(cH x).run tm fun v=>(cH i).run tm fun i=>asNat i fun i=>kG v (.bad 155) fun l n=>bV (Nat.blt i l) (bj (Nat.mod (Nat.shiftRight n (Nat.mul 8 (Nat.sub l (Nat.succ i)))) 256) fun b=>k (.int .u8 (.ofNat b))) (.bad 154)
  |_=>dK 160
 |.lookup t m i ok=>Dx P t (cH m) (cH i) ok
 |.mapUpdate t m i x|.insert t m i x=>xh P t (cH m) (cH i) (cH x)
 |.mapEntry t m i=>Hf P t (cH m) (cH i)
 |.entryStore _ m s x=>zm (cH m) (cH s) (cH x)
 |.makeInterface t x=>match P.underlying t with
  |some (.interface _)=>dK 161
  |some _=>dV fun tm k=>(cH x).run tm fun v=>k (.iface t v)
  |none=>dK 162
 |.extract x i=>dV fun tm k=>(cH x).run tm fun v=>GZ v (.bad 163) fun vs=>vg i vs k
 |.call c=>Hh P c
 |.range t x=>BQ P t (cH x)
 |.next it false=>MY (cH it)
 |.entry it=>zo (cH it)
 |_=>dK 164
structure SB where run:bP->Tm->Tr AO->Pz->(Tm->Tr AO->Pz->Rs)->Rs
def lJ (nt:Nat)(d:Option Tmp)(b:OB):SB :=
 match d with
 |none=>⟨fun call tm hp nx k=>b.run call tm hp nx fun _ hp nx=>k tm hp nx⟩
 |some t=>match Nat.blt t nt with
  |true=>⟨fun call tm hp nx k=>b.run call tm hp nx fun v hp nx=>(tC t).run tm v fun tm=>k tm hp nx⟩
  |false=>⟨fun _ _ _ _ _=>.bad 170⟩
def oG (a b:Bool):Bool:=Bool.rec (motive:=fun _=>Bool) (Bool.rec (motive:=fun _=>Bool) true false b) (Bool.rec (motive:=fun _=>Bool) false true b) a
def mQ (ops:Array Oper)(nt:Nat)(j:Nat):Option Tmp :=
 match (ops[j]?).bind (·.dst)with
 |some d=>if Nat.blt d nt then some d else none
 |none=>none
def fb (P:Program)(nt:Nat)(ops:Array Oper)(o:Oper):SB :=
 match o.guard with
 |none=>lJ nt o.dst (zs P o)
 |some (j,want)=>match mQ ops nt j with
  |none=>⟨fun _ _ _ _ _=>.bad 171⟩
  |some d=>⟨fun call tm hp nx k=>(pK d).run tm fun v=>G8 v ((lJ nt o.dst (dV fun _ k=>k aE)).run call tm hp nx k) fun b =>
   bV (oG b want) ((lJ nt o.dst (zs P o)).run call tm hp nx k) ((lJ nt o.dst (dV fun _ k=>k aE)).run call tm hp nx k)⟩
def dq (P:Program)(nt:Nat)(ops:Array Oper)(l:List Oper):SB :=
 List.rec (motive:=fun _=>SB) ⟨fun _ tm hp nx k=>k tm hp nx⟩ (fun o _ ih=>⟨fun call tm hp nx k=>(fb P nt ops o).run call tm hp nx fun tm hp nx=>ih.run call tm hp nx k⟩) l
def fK (P:Program)(o:Oper):Bool :=
 match o.op with
 |.move _|.assign _|.pick ..|.build ..|.load ..|.nilCheck _|.binOp ..|.unOp ..|.makeFunc ..|.fieldAddr ..|.field ..|.indexAddr ..|.index ..|.lookup ..|.makeInterface ..|.extract ..=>true
 |.convert src dst _=>match P.underlying src,P.underlying dst with
  |some (.int _),some (.int _)=>true
  |some .string,some .string=>true
  |some (.slice _),some .string=>true
  |_,_=>false
 |.slice t _ _ _ none=>match P.underlying t with|some .string=>true|_=>false
 |.call c=>match c.callee with
  |.builtin .len|.builtin .min|.builtin .max=>true
  |_=>false
 |_=>false
def gV (P:Program)(o:Oper):Bool :=
 match o.op with
 |.move _|.assign _|.pick ..|.build ..|.nilCheck _|.binOp ..|.unOp ..|.makeFunc ..|.fieldAddr ..|.field ..|.indexAddr ..|.index ..|.makeInterface ..|.extract ..=>true
 |.convert src dst _=>match P.underlying src,P.underlying dst with
  |some (.int _),some (.int _)=>true
  |some .string,some .string=>true
  |_,_=>false
 |_=>false
def vh (P:Program)(o:Oper):Bool :=
 match o.op with
 |.alloc _|.box ..|.buildSlice ..|.makeMap ..=>true
 |_=>false
structure Ph where
 es:List Nat
 rs:List Nat
 sp:List Nat
 fs:List Nat
 h:Option Nat
 h2:Option (Nat×List Nat×List Nat)
def qT (p:Pz):Pz->Bool :=
 Pz.rec (motive:=fun _=>Pz->Bool) (fun q=>Pz.rec (motive:=fun _=>Bool) true (fun _ _=>false) (fun _ _=>false) q)
  (fun _ ih q=>Pz.rec (motive:=fun _=>Bool) false (fun q _=>ih q) (fun _ _=>false) q)
  (fun _ ih q=>Pz.rec (motive:=fun _=>Bool) false (fun _ _=>false) (fun q _=>ih q) q) p
def To (a b:AV):Bool :=
 match a,b with
 |.bool a,.bool b=>a==b
 |.int j a,.int k b=>decide (j=k)&&a==b
 |.str l m,.str l' m'=>Nat.beq l l'&&Nat.beq m m'
 |.float j a,.float k b=>decide (j=k)&&Nat.beq a b
 |.ptr p o,.ptr q o'=>qT p q&&Nat.beq o o'
 |.dY,.dY=>true
 |.slice p o l c,.slice q o' l' c'=>qT p q&&(Nat.beq o o'&&(Nat.beq l l'&&Nat.beq c c'))
 |.bt p o l c,.bt q o' l' c'=>qT p q&&(Nat.beq o o'&&(Nat.beq l l'&&Nat.beq c c'))
 |.ab,.ab=>true
 |.map p,.map q=>qT p q
 |.bg,.bg=>true
 |.cy,.cy=>true
 |.nilIface,.nilIface=>true
 |_,_=>false
def Tp (f:AV->AV->Bool)(a:List AV):List AV->Bool :=
 List.rec (motive:=fun _=>List AV->Bool) (fun b=>List.rec (motive:=fun _=>Bool) true (fun _ _ _=>false) b)
  (fun x _ ih b=>List.rec (motive:=fun _=>Bool) false (fun y t _=>Bool.rec (motive:=fun _=>Bool) false (ih t) (f x y)) b) a
def Oi (a b:AV):Bool :=
 match a,b with
 |.agg x,.agg y=>Tp To x y
 |a,b=>To a b
def Tq (a b:AV):Bool :=
 match a,b with
 |.dC x,.dC y=>Tp Oi x y
 |a,b=>Oi a b
def af (ops:Array Oper)(i:Nat):Oper:=ops.getD i default
def Oj (n:Nat):SB:=⟨fun _ _ _ _ _=>.bad n⟩
def BR (P:Program)(nt:Nat)(ops:Array Oper)(o:Oper):SB :=
 match o.dst with
 |none=>⟨fun call tm hp nx K=>(fb P nt ops o).run call tm hp nx fun _ _ _=>K tm hp nx⟩
 |some d=>⟨fun call tm hp nx K=>(fb P nt ops o).run call tm hp nx fun tm' _ _=>(pK d).run tm' fun v=>(pK d).run tm fun u=>bV (Tq v u) (K tm hp nx) (.bad 213)⟩
def jE (P:Program)(nt:Nat)(ops:Array Oper)(l:List Oper):SB :=
 List.rec (motive:=fun _=>SB) ⟨fun _ tm hp nx k=>k tm hp nx⟩ (fun o _ ih=>⟨fun call tm hp nx k=>(BR P nt ops o).run call tm hp nx fun tm hp nx=>ih.run call tm hp nx k⟩) l
mutual
def sK:AV->AV->Bool
 |.bool a,.bool b=>a==b
 |.int j a,.int k b=>decide (j=k)&&a==b
 |.str l m,.str l' m'=>Nat.beq l l'&&Nat.beq m m'
 |.float j a,.float k b=>decide (j=k)&&Nat.beq a b
 |.ptr p o,.ptr q o'=>qT p q&&Nat.beq o o'
 |.dY,.dY=>true
 |.slice p o l c,.slice q o' l' c'=>qT p q&&(Nat.beq o o'&&(Nat.beq l l'&&Nat.beq c c'))
 |.bt p o l c,.bt q o' l' c'=>qT p q&&(Nat.beq o o'&&(Nat.beq l l'&&Nat.beq c c'))
 |.ab,.ab=>true
 |.map p,.map q=>qT p q
 |.bg,.bg=>true
 |.func f a b,.func g c d=>decide (f=g)&&(tF a c&&tF b d)
 |.cy,.cy=>true
 |.iface t v,.iface u x=>Nat.beq t u&&sK v x
 |.nilIface,.nilIface=>true
 |.agg xs,.agg ys=>tF xs ys
 |.dC xs,.dC ys=>tF xs ys
 |_,_=>false
def tF:List AV->List AV->Bool
 | [],[]=>true
 |x::xs,y::ys=>sK x y&&tF xs ys
 |_,_=>false
end
def DA:Tr (List AV)->Tr (List AV)->Bool
 |.e,.e=>true
 |.n l none r,.n l' none r'=>DA l l'&&DA r r'
 |.n l (some v) r,.n l' (some v') r'=>tF v v'&&(DA l l'&&DA r r')
 |_,_=>false
def Fu:List ME->List ME->Bool
 | [],[]=>true
 |x::xs,y::ys=>sK x.key y.key&&(sK x.val y.val&&(Nat.beq x.born y.born&&Fu xs ys))
 |_,_=>false
def TW:AO->AO->Bool
 |.arr es n el c,.arr es' n' el' c'=>Nat.beq es es'&&(Nat.beq n n'&&(Nat.beq el el'&&DA c c'))
 |.cG f ep tp es n el c,.cG f' ep' tp' es' n' el' c'=>qT f f'&&(Nat.beq ep ep'&&(oG tp tp'&&(Nat.beq es es'&&(Nat.beq n n'&&(Nat.beq el el'&&DA c c')))))
 |.dJ ep s,.dJ ep' s'=>Nat.beq ep ep'&&oG s s'
 |.map es c,.map es' c'=>Nat.beq c c'&&Fu es es'
 |.fa,.fa=>true
 |.gone,.gone=>true
 |.iter m s l c,.iter m' s' l' c'=>qT m m'&&(Nat.beq s s'&&(decide (l=l')&&Nat.beq c c'))
 |_,_=>false
def qU:Tr AO->Tr AO->Bool
 |.e,_=>true
 |.n l none r,.n l' _ r'=>qU l l'&&qU r r'
 |.n l (some v) r,.n l' (some v') r'=>TW v v'&&(qU l l'&&qU r r')
 |.n _ _ _,_=>false
def DB {α:Type}(f:α->α->Bool)(a b:gH α):Bool :=
 f a.a0 b.a0&&(f a.a1 b.a1&&(f a.a2 b.a2&&(f a.a3 b.a3&&(f a.a4 b.a4&&(f a.a5 b.a5&&(f a.a6 b.a6&&f a.a7 b.a7))))))
def qV {α:Type}(f:α->α->Bool):Tr α->Tr α->Bool
 |.e,.e=>true
 |.n l none r,.n l' none r'=>qV f l l'&&qV f r r'
 |.n l (some v) r,.n l' (some v') r'=>f v v'&&(qV f l l'&&qV f r r')
 |_,_=>false
def vJ:List Pz->List Pz->Bool
 | [],[]=>true
 |x::xs,y::ys=>qT x y&&vJ xs ys
 |_,_=>false
def Ol (a b:Tm):Bool:=DB (DB sK) a.lo b.lo&&(qV sK a.hi b.hi&&vJ a.ml b.ml)
def TX (P:Program)(nt:Nat)(ops:Array Oper)(es rs sp fs:List Nat)(rest:SB)(h:Option Nat):SB :=
 ⟨fun call tm hp nx K =>
  (dq P nt ops (es.map (af ops))).run call tm hp nx fun tm hp nx =>
  (jE P nt ops (rs.map (af ops))).run call tm hp nx fun tm hp nx =>
  (dq P nt ops (sp.map (af ops))).run call tm hp nx fun _ _ _ =>
  (dq P nt ops (fs.map (af ops))).run call tm hp nx fun tm hp nx =>
  Option.rec (motive:=fun _=>Rs) (K tm hp nx) (fun h=>(fb P nt ops (af ops h)).run call tm hp nx fun tm hp nx=>rest.run call tm hp nx K) h⟩
def vK (P:Program)(nt:Nat)(ops:Array Oper)(h:Nat)(rs:List Nat):SB :=
 TX P nt ops [] rs [] [] (TX P nt ops [] [] [] [] (Oj 210) none) (some h)
def xk (K:Tm->Tr AO->Pz->Rs)(tmA:Tm)(hpA:Tr AO)(nxA:Pz)(tmB:Tm)(hpB:Tr AO)(nxB:Pz):Rs :=
 bV (Ol tmA tmB) (bV (qT nxA nxB) (bV (qU hpA hpB) (K tmA hpA nxA) (.bad 252)) (.bad 251)) (.bad 250)
def BS (P:Program)(nt:Nat)(ops:Array Oper)(hA hB:Nat)(rsB:List Nat)(call:bP)(tm:Tm)(hp:Tr AO)(nx:Pz)(K:Tm->Tr AO->Pz->Rs)(tmA:Tm)(hpA:Tr AO)(nxA:Pz):Rs :=
 (fb P nt ops (af ops hB)).run call tm hp nx fun tm hp nx=>(vK P nt ops hA rsB).run call tm hp nx (xk K tmA hpA nxA)
def MZ (P:Program)(nt:Nat)(ops:Array Oper)(hA hB:Nat)(rsA rsB:List Nat)(call:bP)(tm:Tm)(hp:Tr AO)(nx:Pz)(K:Tm->Tr AO->Pz->Rs):Rs :=
 (fb P nt ops (af ops hA)).run call tm hp nx fun tm' hp' nx'=>(vK P nt ops hB rsA).run call tm' hp' nx' (BS P nt ops hA hB rsB call tm hp nx K)
def Qu (P:Program)(nt:Nat)(ops:Array Oper)(ph:Ph)(rest:SB):SB :=
 match ph.h2 with
 |none=>TX P nt ops ph.es ph.rs ph.sp ph.fs rest ph.h
 |some (hB,rsA,rsB)=>match ph.h with
  |some hA=>⟨fun call tm hp nx K=>(dq P nt ops (ph.es.map (af ops))).run call tm hp nx fun tm hp nx =>
   (jE P nt ops (ph.rs.map (af ops))).run call tm hp nx fun tm hp nx=>MZ P nt ops hA hB rsA rsB call tm hp nx K⟩
  |none=>Oj 253
def oj (P:Program)(nt:Nat)(ops:Array Oper)(plan:List Ph):SB :=
 List.rec (motive:=fun _=>SB) (Oj 210) (fun ph _ ih=>Qu P nt ops ph ih) plan
def lk (ops:Array Oper)(i j:Nat):Bool:=match (af ops j).dst with|some d=>((af ops i).looksAt ops).contains d|none=>false
def bit (b:Array Nat)(j i:Nat):Bool:=(b.getD j 0).testBit i
def BT (ops:Array Oper)(E F CF:List Nat):List Nat->List Nat->Bool
 | [],_=>true
 |i::l,CE=>E.contains i&&!CE.contains i&&(F.all fun f=>!(lk ops i f)||CF.contains f)&&(E.all fun e=>!(lk ops i e)||CE.contains e)&&BT ops E F CF l (i::CE)
def sL (ops:Array Oper)(E F CE:List Nat):List Nat->List Nat->Bool
 | [],_=>true
 |f::l,CF=>F.contains f&&!CF.contains f&&(F.all fun g=>!(lk ops f g)||CF.contains g)&&(E.all fun e=>!(lk ops f e)||CE.contains e)&&sL ops E F CE l (f::CF)
def tG (o:Oper):Bool:=(match o.op with|.store ..=>true|_=>false)&&(o.dst.isNone&&o.guard.isNone)
def xm (h:Nat)(rs:List Nat):List Ph:=[⟨[],rs,[],[],some h,none⟩,⟨[],[],[],[],none,none⟩]
def xo (ops:Array Oper)(b:Array Nat)(E F H:List Nat)(h:Nat)(rs:List Nat)(CE CF CH:List Nat):Bool :=
 (rs.all fun i=>CE.contains i&&(F.all fun f=>!(lk ops i f)||CF.contains f)) &&
 (E.all fun i=>CE.contains i)&&(F.all fun f=>CF.contains f)&&(H.all fun i=>(h::CH).contains i)&&(H.contains h&&!CH.contains h) &&
 (E.all fun i=>rs.contains i||bit b i h||(CH.any fun h=>bit b h i))&&(E.all fun i=>(h::CH).any fun h=>bit b h i)
def pR (ops:Array Oper)(b:Array Nat)(E F H:List Nat):List Ph->List Nat->List Nat->List Nat->Bool
 | [],_,_,_=>false
 |ph::rest,CE,CF,CH =>
  BT ops E F CF ph.es CE &&
  (ph.rs.all fun i=>CE.contains i&&(F.all fun f=>!(lk ops i f)||CF.contains f)) &&
  (E.all fun i=>ph.es.contains i||ph.rs.contains i||(H.any fun h=>!CH.contains h&&bit b i h)||(CH.any fun h=>bit b h i)) &&
  (F.all fun f=>CF.contains f||ph.sp.contains f||(H.any fun h=>!CH.contains h&&bit b f h)) &&
  sL ops E F (ph.es.reverse++CE) ph.sp CF &&
  sL ops E F (ph.es.reverse++CE) ph.fs CF &&
  match ph.h,ph.h2 with
  |some h,none=>H.contains h&&!CH.contains h&&(H.all fun h'=>CH.contains h'||h'==h||bit b h' h)&&(F.all fun f=>!(lk ops h f)||(ph.fs.reverse++CF).contains f) &&
   (F.all fun f=>(ph.fs.reverse++CF).contains f||!(lk ops f h)||bit b f h)&&(ph.fs.all fun f=>bit b h f)&&pR ops b E F H rest (ph.es.reverse++CE) (ph.fs.reverse++CF) (h::CH)
  |some h,some (h2,rsA,rsB)=>(ph.sp.isEmpty&&ph.fs.isEmpty&&rest.isEmpty)&&(H.contains h&&!CH.contains h)&&(H.contains h2&&!CH.contains h2)&&(!(h==h2))&&(H.all fun h'=>CH.contains h'||h'==h||h'==h2)&&(F.all fun f=>CF.contains f) &&
   tG (af ops h)&&tG (af ops h2)&&xo ops b E F H h2 rsA (ph.es.reverse++CE) CF (h::CH)&&xo ops b E F H h rsB (ph.es.reverse++CE) CF (h2::CH)
  |none,_=>(E.all fun i=>(ph.es.reverse++CE).contains i)&&(F.all fun i=>(ph.fs.reverse++CF).contains i)&&(H.all fun i=>CH.contains i)
def jF (o:Oper):Bool:=match o.op with|.select ..=>false|_=>true
def DC (P:Program)(o:Oper):Bool:=gV P o||(vh P o&&o.guard.isNone&&o.dst.isSome)
def Om (ph:Ph):List Nat:=ph.h.toList++(ph.h2.map (·.1)).toList
def BU (P:Program)(ops:Array Oper)(plan:List Ph):Bool :=
 let b:=Region.before ops
 let rg:=List.range ops.size
 let E:=plan.flatMap (·.es)
 let F:=plan.flatMap (·.fs)
 let H:=plan.flatMap Om
 (rg.all fun i=>(E.contains i&&!F.contains i&&!H.contains i)||(!E.contains i&&F.contains i&&!H.contains i)||(!E.contains i&&!F.contains i&&H.contains i)) &&
 (E.all fun i=>decide (i<ops.size))&&(F.all fun i=>decide (i<ops.size))&&(H.all fun i=>decide (i<ops.size)) &&
 (rg.all fun i=>(af ops i).after.toList.all fun e=>!(Region.binds .any e)||decide (e.on<i)) &&
 (E.all fun i=>fK P (af ops i))&&(F.all fun i=>DC P (af ops i))&&(rg.all fun i=>jF (af ops i)) &&
 (rg.all fun i=>(E++F).all fun j=>(!(lk ops i j)||bit b i j)&&(i==j||(af ops j).dst.isNone||(af ops i).dst != (af ops j).dst)) &&
 pR ops b E F H plan [] [] []
def tH (P:Program)(ops:Array Oper)(plan:List Ph):Bool:=plan.isEmpty||BU P ops plan
structure CB where run:Nat->bP->Tm->Tr AO->Pz->(Ex->Tm->Tr AO->Pz->Rs)->Rs
def BV (P:Program)(g:Nat):Bool:=match P.funcs[g]? with|some fn=>!fn.body.isNone&&!(fn.name == "runtime.NumGoroutine")|none=>false
def oH (P:Program)(fid nt:Nat)(g:Operand)(ps:Array Tmp)(x y:Code)(call:bP)(tm:Tm)(hp:Tr AO)(nx:Pz)(K:Ex->Tm->Tr AO->Pz->Rs):Rs :=
 (cH g).run tm fun fv=>BM fv (.bad 281) fun f first captured=>match f,first with
  |.func gf,[]=>bV (BV P gf) (newObj hp nx .fa fun idD hp nx=>newObj hp nx (.loop fid nt ⟨tm.lo,tm.hi,[]⟩ ps x y .ready) fun idL hp nx =>
   call.run gf (.func (.yield (mq idL)) [] []::captured) hp nx fun _ hp nx =>
    hp.gw idL (.bad 284) fun o=>lD o fun _ _ _ _ _ _ st=>hp.c9 idL .gone fun hp =>
     LS.rec (motive:=fun _=>Rs) (K .eJ ⟨tm.lo,tm.hi,idD::tm.ml⟩ hp nx) (.bad 287) (fun e=>Ex.rec (motive:=fun _=>Rs) (.bad 287) (fun i=>K (.ext i) ⟨tm.lo,tm.hi,idD::tm.ml⟩ hp nx) (K .ret ⟨tm.lo,tm.hi,idD::tm.ml⟩ hp nx) e) st) (.bad 283)
  |_,_=>.bad 281
def zt (P:Program)(fid nt:Nat)(pl:Nat->List Ph)(c:Code):CB :=
 Code.rec (motive:=fun _=>CB)
  ⟨fun _ _ tm hp nx K=>K .eJ tm hp nx⟩
  (fun id ops draw=>match draw with
   |false=>⟨fun _ call tm hp nx K=>(dq P nt ops ops.toList).run call tm hp nx fun tm hp nx=>K .eJ tm hp nx⟩
   |true=>⟨fun _ call tm hp nx K=>(oj P nt ops (pl id)).run call tm hp nx fun tm hp nx=>K .eJ tm hp nx⟩)
  (fun _ _ a b=>⟨fun fu call tm hp nx K=>a.run fu call tm hp nx fun e tm hp nx=>Ex.rec (motive:=fun _=>Rs) (b.run fu call tm hp nx K) (fun id=>K (.ext id) tm hp nx) (K .ret tm hp nx) e⟩)
  (fun c _ _ a b=>⟨fun fu call tm hp nx K=>(cH c).run tm fun v=>asBool v fun v=>Bool.rec (motive:=fun _=>Rs) (b.run fu call tm hp nx K) (a.run fu call tm hp nx K) v⟩)
  (fun id _ b=>⟨fun fu call tm hp nx K=>b.run fu call tm hp nx fun e tm hp nx=>Ex.rec (motive:=fun _=>Rs) (K .eJ tm hp nx) (fun j=>bV (Nat.beq j id) (K .eJ tm hp nx) (K (.ext j) tm hp nx)) (K .ret tm hp nx) e⟩)
  (fun _ b=>⟨fun fu call tm hp nx K=>(Nat.rec (motive:=fun _=>Tm->Tr AO->Pz->Rs) (fun _ _ _=>.bad 180)
   (fun _ ih tm hp nx=>b.run fu call tm hp nx fun e tm hp nx=>Ex.rec (motive:=fun _=>Rs) (ih tm hp nx) (fun j=>K (.ext j) tm hp nx) (K .ret tm hp nx) e) fu) tm hp nx⟩)
  (fun g ps x y _ _=>⟨fun _ call tm hp nx K=>oH P fid nt g ps x y call tm hp nx K⟩)
  (fun id=>⟨fun _ _ tm hp nx K=>K (.ext id) tm hp nx⟩)
  (fun _ b=>b)
  (fun _=>⟨fun _ _ tm hp nx K=>K .eJ tm hp nx⟩)
  (fun _=>⟨fun _ _ _ _ _ _=>.bad 182⟩)
  ⟨fun _ _ tm hp nx K=>K .ret tm hp nx⟩
  (fun _=>⟨fun _ _ _ _ _ _=>.bad 183⟩)
  c
def dL (P:Program)(pl:Nat->List Ph):Code->Bool
 |.region id ops true=>tH P ops (pl id)
 |.seq a b=>dL P pl a&&dL P pl b
 |.cond _ a b=>dL P pl a&&dL P pl b
 |.block _ b=>dL P pl b
 |.loop b=>dL P pl b
 |.scope b=>dL P pl b
 |.rangeFunc _ _ x y=>cQ x&&cQ y
 |_=>true
structure FB where run:Nat->bP->List AV->Tr AO->Pz->(AV->Tr AO->Pz->Rs)->Rs
def iP (vs:List AV):Nat->Tm->(Tm->Rs)->Rs :=
 List.rec (motive:=fun _=>Nat->Tm->(Tm->Rs)->Rs) (fun _ t k=>k t) (fun v _ ih i t k=>(tC i).run t v fun t=>bj (Nat.succ i) fun i=>ih i t k) vs
def BW (P:Program)(r:ResultVar)(tm:Tm)(hp:Tr AO)(k:AV->Rs):Rs :=
 match r with
 |.tmp t=>(pK t).run tm k
 |.cell a t=>(pK a).run tm fun v=>jU v fun id off =>
  match cD P t,dZ P t with
  |false,_=>.bad 200
  |true,true=>kQ hp id off (ae P t) fun cs=>k (.agg cs)
  |true,false=>pN hp id off k
def oI (P:Program)(rs:List ResultVar):Tm->Tr AO->(List AV->Rs)->Rs :=
 List.rec (motive:=fun _=>Tm->Tr AO->(List AV->Rs)->Rs) (fun _ _ k=>k []) (fun r _ ih tm hp k=>BW P r tm hp fun v=>ih tm hp fun vs=>k (v::vs)) rs
def Fv (l:List Pz):Tr AO->(Tr AO->Rs)->Rs :=
 List.rec (motive:=fun _=>Tr AO->(Tr AO->Rs)->Rs) (fun hp k=>k hp) (fun id _ ih hp k=>hp.gw id (.bad 292) fun o=>BN o (hp.c9 id .gone fun hp=>ih hp k)) l
def Hi (vs:List AV)(k:AV->Rs):Rs :=
 match vs with
 | [v]=>k v
 |vs=>k (.dC vs)
def Ts (P:Program)(Pl:Nat->Nat->List Ph)(f:Nat):FB :=
 match P.funcs[f]? with
 |some fn=>match fn.body with
  |some c=>match fn.name == "runtime.NumGoroutine" with
   |false=>⟨fun fu call args hp nx k=>bV (Nat.ble args.length fn.ntmps) (iP args 0 .e fun tm=>(zt P f fn.ntmps (Pl f) c).run fu call tm hp nx fun e tm hp nx =>
    Ex.rec (motive:=fun _=>Rs) (Fv tm.ml hp fun hp=>oI P fn.results.toList tm hp fun vs=>Hi vs fun v=>k v hp nx) (fun _=>.bad 191) (Fv tm.ml hp fun hp=>oI P fn.results.toList tm hp fun vs=>Hi vs fun v=>k v hp nx) e) (.bad 192)⟩
   |true=>⟨fun _ _ _ _ _ _=>.bad 193⟩
  |none=>match fn.name == "math.Float64frombits"&&(fn.origin == "math.Float64frombits"||fn.origin == "")with
   |true=>⟨fun _ _ args hp nx k=>(match args with
    | [.int .u64 (.ofNat n)]=>k (.float .f64 n) hp nx
    |_=>.bad 197)⟩
   |false=>⟨fun _ _ _ _ _ _=>.bad 194⟩
 |none=>⟨fun _ _ _ _ _ _=>.bad 195⟩
def QV (P:Program)(Pl:Nat->Nat->List Ph)(fu:Nat)(ih:bP)(f nt:Nat)(c:Code)(tm:Tm)(hp:Tr AO)(nx:Pz)(K:Ex->Tm->Tr AO->Pz->Rs):Rs :=
 bV (dL P (Pl f) c) ((zt P f nt (Pl f) c).run fu ih tm hp nx K) (.bad 293)
end
end Go.aI
namespace Go.aI
open Go.RowKit
def Tr.get {α:Type}:Tr α->Pz->Option α
 |.e,_=>none
 |.n _ v _,.h=>v
 |.n l _ _,.o p=>l.get p
 |.n _ _ r,.i p=>r.get p
def Tr.set {α:Type}:Tr α->Pz->α->Tr α
 |.e,.h,x=>.n .e (some x) .e
 |.e,.o p,x=>.n (Tr.e.set p x) none .e
 |.e,.i p,x=>.n .e none (Tr.e.set p x)
 |.n l _ r,.h,x=>.n l (some x) r
 |.n l v r,.o p,x=>.n (l.set p x) v r
 |.n l v r,.i p,x=>.n l v (r.set p x)
theorem Tr.fD {α:Type}(p:Pz):(Tr.e:Tr α).get p=none:=by cases p<;>rfl
theorem Tr.DD {α:Type}(p:Pz):∀(t:Tr α)(z:Rs)(k:α->Rs),t.gw p z k=match t.get p with|some v=>k v|none=>z:=by
 induction p with
 |h=>intro t z k;cases t with
  |e=>rfl
  |n l v r=>cases v<;>rfl
 |o p ih=>intro t z k;cases t with
  |e=>rfl
  |n l v r=>exact ih l z k
 |i p ih=>intro t z k;cases t with
  |e=>rfl
  |n l v r=>exact ih r z k
theorem Tr.cz {α:Type}(p:Pz):∀(t:Tr α)(x:α)(k:Tr α->Rs),t.c9 p x k=k (t.set p x):=by
 induction p with
 |h=>intro t x k;cases t<;>rfl
 |o p ih=>intro t x k;cases t with
  |e=>exact ih .e x _
  |n l v r=>exact ih l x _
 |i p ih=>intro t x k;cases t with
  |e=>exact ih .e x _
  |n l v r=>exact ih r x _
theorem Tr.s9 {α:Type}(p:Pz):∀(t:Tr α)(x:α)(q:Pz),(t.set p x).get q=if q=p then some x else t.get q:=by
 induction p with
 |h=>intro t x q;cases t<;>cases q<;>simp[Tr.set,Tr.get,Tr.fD]
 |o p ih=>intro t x q;cases t<;>cases q<;>simp[Tr.set,Tr.get,Tr.fD,ih]
 |i p ih=>intro t x q;cases t<;>cases q<;>simp[Tr.set,Tr.get,Tr.fD,ih]
theorem Tr.br {α:Type}(p:Pz)(t:Tr α)(x:α):(t.set p x).get p=some x:=by rw[Tr.s9,if_pos rfl]
theorem Tr.cI {α:Type}{p q:Pz}(h:q≠p)(t:Tr α)(x:α):(t.set p x).get q=t.get q:=by rw[Tr.s9,if_neg h]
theorem dt {α:Type}{p:Pz}{t:Tr α}{n:Nat}{k:α->Rs}(h:t.gw p (.bad n) k=.ok):∃v,t.get p=some v/\k v=.ok:=by
 rw[Tr.DD]at h;cases hg:t.get p with
 |none=>rw[hg]at h;cases h
 |some v=>rw[hg]at h;exact⟨v,rfl,h⟩
def Pz.num:Pz->Nat
 |.h=>1
 |.o p=>2*p.num
 |.i p=>2*p.num+1
theorem Pz.nM (p:Pz):1<=p.num:=by induction p<;>simp[Pz.num]<;>omega
theorem Pz.Kp:∀{p q:Pz},p.num=q.num->p=q:=by
 intro p
 induction p with
 |h=>intro q;cases q with
  |h=>intro _;rfl
  |o q=>intro h;have:=q.nM;simp only[Pz.num]at h;omega
  |i q=>intro h;have:=q.nM;simp only[Pz.num]at h;omega
 |o p ih=>intro q;have:=p.nM;cases q with
  |h=>intro h;simp only[Pz.num]at h;omega
  |o q=>intro h;simp only[Pz.num]at h;rw[ih (by omega:p.num=q.num)]
  |i q=>intro h;simp only[Pz.num]at h;omega
 |i p ih=>intro q;have:=p.nM;cases q with
  |h=>intro h;simp only[Pz.num]at h;omega
  |o q=>intro h;simp only[Pz.num]at h;omega
  |i q=>intro h;simp only[Pz.num]at h;rw[ih (by omega:p.num=q.num)]
def Pz.succ:Pz->Pz
 |.h=>.o .h
 |.o p=>.i p
 |.i p=>.o p.succ
theorem Pz.Hj (p:Pz):∀k:Pz->Rs,p.MT k=k p.succ:=by
 induction p with
 |h=>intro k;rfl
 |o p _=>intro k;rfl
 |i p ih=>intro k;exact ih _
theorem Pz.cw (p:Pz):p.succ.num=p.num+1:=by
 induction p with
 |h=>rfl
 |o p _=>rfl
 |i p ih=>simp only[Pz.succ,Pz.num,ih];omega
theorem lK:∀(f m:Nat),1<=m->m<=f->(qR f m).num=m:=by
 intro f
 induction f with
 |zero=>intro m h1 h2;omega
 |succ f ih =>
  intro m h1 h2;show (Bool.rec (motive:=fun _=>Pz) (Bool.rec (motive:=fun _=>Pz) (.o (qR f (Nat.div m 2))) (.i (qR f (Nat.div m 2))) (Nat.beq (Nat.mod m 2) 1)) .h (Nat.ble m 1)).num=m;cases hb:Nat.ble m 1 with
  |true=>have:=zcu hb;simp only[Pz.num];omega
  |false =>
   have hm:¬m<=1:=fun h=>by rw[zbv h]at hb;cases hb
   have hd:1<=m/2:=by omega
   have hr:=ih (m/2) hd (by omega);cases hc:Nat.beq (Nat.mod m 2) 1 with
   |true=>have h3:m%2=1:=zab hc;show 2*(qR f (m/2)).num+1=m;rw[hr];omega
   |false =>
    have h3:¬m%2=1:=fun h=>by have:Nat.beq (m%2) 1=true:=by rw[h];rfl
                              rw[show Nat.beq (Nat.mod m 2) 1=Nat.beq (m%2) 1 from rfl,this]at hc;cases hc
    show 2*(qR f (m/2)).num=m;rw[hr];omega
theorem Fw {a b:Nat}(h:aX a=aX b):a=b:=by
 have ha:=lK (a+1) (a+1) (by omega) (by omega);have hb:=lK (b+1) (b+1) (by omega) (by omega);have:(aX a).num=(aX b).num:=by rw[h]
 unfold aX at this;omega
theorem mR {a b:Nat}(h:a≠b):aX a≠aX b:=fun e=>h (Fw e)
theorem On (β:Type)(p:Pz):∀k:Pz->β,Ve β p k=k p:=by
 induction p with
 |h=>intro k;rfl
 |o p ih=>intro k;exact ih _
 |i p ih=>intro k;exact ih _
theorem vL (β:Type)(n:Nat)(k:Pz->β):BJ β n k=k (aX n):=On _ _ _
noncomputable def o8 {α:Type}(d:Nat)(o:gH α):α:=match d with|0=>o.a0|1=>o.a1|2=>o.a2|3=>o.a3|4=>o.a4|5=>o.a5|6=>o.a6|_=>o.a7
noncomputable def p8 {α:Type}(d:Nat)(x:α)(o:gH α):gH α:=match d with
 |0=>{ o with a0:=x }|1=>{ o with a1:=x }|2=>{ o with a2:=x }|3=>{ o with a3:=x }|4=>{ o with a4:=x }|5=>{ o with a5:=x }|6=>{ o with a6:=x }|_=>{ o with a7:=x }
theorem d8 {d:Nat}(h:d<8):d=0∨d=1∨d=2∨d=3∨d=4∨d=5∨d=6∨d=7:=by omega
theorem M0 {α:Type}{d e:Nat}(hd:d<8)(he:e<8)(x:α)(o:gH α):o8 d (p8 e x o)=if d=e then x else o8 d o:=by
 rcases d8 hd with rfl|rfl|rfl|rfl|rfl|rfl|rfl|rfl<;>rcases d8 he with rfl|rfl|rfl|rfl|rfl|rfl|rfl|rfl<;>rfl
theorem M1 {α:Type}(d:Nat)(o:gH α)(k:α->Rs):(g1 α d).run o k=k (o8 d o):=by
 match d with
 |0=>rfl
 |1=>rfl
 |2=>rfl
 |3=>rfl
 |4=>rfl
 |5=>rfl
 |6=>rfl
 |n+7=>rfl
theorem QW {α:Type}(d:Nat)(o:gH α)(f:α->(α->Rs)->Rs)(g:α->α)(hf:∀x k,f x k=k (g x))(k:gH α->Rs):(s1 α d).run o f k=k (p8 d (g (o8 d o)) o):=by
 match d with
 |0=>exact hf _ _
 |1=>exact hf _ _
 |2=>exact hf _ _
 |3=>exact hf _ _
 |4=>exact hf _ _
 |5=>exact hf _ _
 |6=>exact hf _ _
 |n+7=>exact hf _ _
theorem QX {α:Type}(d:Nat)(o:gH α)(x:α)(k:gH α->Rs):(s2 α d).run o x k=k (p8 d x o):=by
 match d with
 |0=>rfl
 |1=>rfl
 |2=>rfl
 |3=>rfl
 |4=>rfl
 |5=>rfl
 |6=>rfl
 |n+7=>rfl
noncomputable def Tm.at (tm:Tm)(t:Nat):AV:=if t<=63 then o8 (t%8) (o8 (t/8) tm.lo)else (tm.hi.get (aX t)).getD aE
noncomputable def Tm.put (tm:Tm)(t:Nat)(v:AV):Tm:=if t<=63 then { tm with lo:=p8 (t/8) (p8 (t%8) v (o8 (t/8) tm.lo)) tm.lo }else { tm with hi:=tm.hi.set (aX t) v }
theorem lL (t:Nat)(tm:Tm)(k:AV->Rs):(pK t).run tm k=k (tm.at t):=by
 unfold pK Tm.at;cases h:Nat.ble t 63 with
 |true =>
  rw[if_pos (zcu h)];show (g1 (gH AV) (Nat.div t 8)).run tm.lo (fun o=>(g1 AV (Nat.mod t 8)).run o k)=_;rw[M1,M1];rfl
 |false =>
  rw[if_neg (fun h'=>by rw[zbv h']at h;cases h)];simp only[vL];show tm.hi.gw (aX t) (k aE) k=_;rw[Tr.DD];cases tm.hi.get (aX t)<;>rfl
theorem lM (t:Nat)(tm:Tm)(v:AV)(k:Tm->Rs):(tC t).run tm v k=k (tm.put t v):=by
 unfold tC Tm.put;cases h:Nat.ble t 63 with
 |true =>
  rw[if_pos (zcu h)];show (s1 (gH AV) (Nat.div t 8)).run tm.lo (fun o k=>(s2 AV (Nat.mod t 8)).run o v k) (fun lo=>k ⟨lo,tm.hi,tm.ml⟩)=_;rw[QW _ _ _ (fun o=>p8 (Nat.mod t 8) v o) (fun x k=>QX _ _ _ _)];rfl
 |false =>
  rw[if_neg (fun h'=>by rw[zbv h']at h;cases h)];simp only[vL];show tm.hi.c9 (aX t) v (fun hi=>k ⟨tm.lo,hi,tm.ml⟩)=_;rw[Tr.cz]
theorem Tm.oJ (tm:Tm)(t:Nat)(v:AV):(tm.put t v).ml=tm.ml:=by
 unfold Tm.put;split<;>rfl
theorem Tm.Hk (tm:Tm)(t:Nat)(v:AV)(u:Nat):(tm.put t v).at u=if u=t then v else tm.at u:=by
 unfold Tm.put Tm.at;by_cases ht:t<=63
 ·by_cases hu:u<=63
  ·simp only[if_pos ht,if_pos hu];rw[M0 (by omega) (by omega)];by_cases h1:u/8=t/8
   ·rw[if_pos h1,M0 (by omega) (by omega)];by_cases h2:u%8=t%8
    ·rw[if_pos h2,if_pos (by omega)]
    ·rw[if_neg h2,if_neg (by omega),h1]
   ·rw[if_neg h1,if_neg (by omega)]
  ·simp only[if_pos ht,if_neg hu];rw[if_neg (by omega)]
 ·by_cases hu:u<=63
  ·simp only[if_neg ht,if_pos hu];rw[if_neg (by omega)]
  ·simp only[if_neg ht,if_neg hu];rw[Tr.s9];by_cases h:u=t
   ·subst h;rw[if_pos rfl,if_pos rfl];rfl
   ·rw[if_neg (mR h),if_neg h]
theorem Tm.ec (tm:Tm)(t:Nat)(v:AV):(tm.put t v).at t=v:=by rw[Tm.Hk,if_pos rfl]
theorem Tm.fT {t u:Nat}(h:u≠t)(tm:Tm)(v:AV):(tm.put t v).at u=tm.at u:=by rw[Tm.Hk,if_neg h]
theorem Tm.TY (t:Nat):Tm.e.at t=aE:=by
 unfold Tm.at;by_cases h:t<=63
 ·rw[if_pos h];have h1:t/8<8:=by omega
  have h2:t%8<8:=by omega
  generalize t/8=a at h1;generalize t%8=b at h2;rcases d8 h1 with rfl|rfl|rfl|rfl|rfl|rfl|rfl|rfl<;>rcases d8 h2 with rfl|rfl|rfl|rfl|rfl|rfl|rfl|rfl<;>rfl
 ·rw[if_neg h];show ((Tr.e:Tr AV).get (aX t)).getD aE=aE;rw[Tr.fD];rfl
theorem zy (x y:Rs):bV true x y=x:=rfl
theorem vM (x y:Rs):bV false x y=y:=rfl
theorem aJ {b:Bool}{x:Rs}{n:Nat}(h:bV b x (.bad n)=.ok):b=true/\x=.ok:=by
 cases b with
 |true=>exact⟨rfl,h⟩
 |false=>cases h
theorem bQ {b:Bool}{x y:Rs}(h:bV b x y=.ok):(b=true/\x=.ok)∨(b=false/\y=.ok):=by
 cases b with
 |true=>exact .inl ⟨rfl,h⟩
 |false=>exact .inr ⟨rfl,h⟩
theorem aG (n:Nat)(k:Nat->Rs):bj n k=k n:=by cases n<;>rfl
theorem cO (z:Int)(k:Int->Rs):mM z k=k z:=by
 cases z with
 |ofNat m=>exact aG m fun m=>k (.ofNat m)
 |negSucc m=>exact aG m fun m=>k (.negSucc m)
theorem bc (b:Bool)(k:Bool->Rs):c7 b k=k b:=by cases b<;>rfl
theorem db {v:AV}{k:IntKind->Int->Rs}(h:asInt v k=.ok):∃kd n,v=.int kd n/\k kd n=.ok:=by
 cases v<;>first|exact⟨_,_,rfl,h⟩|cases h
theorem vN {v:AV}{k:Bool->Rs}(h:asBool v k=.ok):∃b,v=.bool b/\k b=.ok:=by
 cases v<;>first|exact⟨_,rfl,h⟩|cases h
theorem gW {v:AV}{k:Pz->Nat->Rs}(h:jU v k=.ok):∃p o,v=.ptr p o/\k p o=.ok:=by
 cases v<;>first|exact⟨_,_,rfl,h⟩|cases h
theorem jG {v:AV}{k:Nat->Rs}(h:asNat v k=.ok):∃kd n,v=.int kd (.ofNat n)/\k n=.ok:=by
 obtain⟨kd,n,rfl,h⟩:=db h;cases n with
 |ofNat n=>exact⟨kd,n,rfl,h⟩
 |negSucc n=>cases h
theorem ai {a b:Nat}(h:Nat.beq a b=true):a=b:=zab h
theorem aK {a b:Nat}(h:Nat.ble a b=true):a<=b:=zcu h
theorem av {a b:Nat}(h:Nat.blt a b=true):a<b:=zcu h
theorem BX {a b:Nat}(h:Nat.ble a b=false):b<a:=by
 rcases zdp b a with h'|h'
 ·exact h'
 ·rw[zbv h']at h;cases h
theorem Oo {a b:Nat}(h:Nat.blt a b=false):b<=a:=by have:=BX (a:=a.succ) (b:=b) h;omega
theorem qW {a b:Nat}(h:Nat.beq a b=false):a≠b:=fun e=>by rw[e,zcf]at h;cases h
theorem nN {α:Type}(r:Nat):∀{l:List α}{k:α->Rs},vg r l k=.ok->∃v,l[r]?=some v/\k v=.ok:=by
 induction r with
 |zero=>intro l k h;cases l with
  |nil=>cases h
  |cons x t=>exact⟨x,rfl,h⟩
 |succ r ih=>intro l k h;cases l with
  |nil=>cases h
  |cons x t=>obtain⟨v,h1,h2⟩:=ih h;exact⟨v,by simpa using h1,h2⟩
theorem mU (n:Nat):∀{l:List AV}{k:List AV->Rs},rT n l k=.ok->n<=l.length/\k (l.take n)=.ok:=by
 induction n with
 |zero=>intro l k h;exact⟨zbl _,by rw[List.take_zero];exact h⟩
 |succ n ih=>intro l k h;cases l with
  |nil=>cases h
  |cons x t=>obtain⟨h1,h2⟩:=ih h;exact⟨by simpa using h1,by simpa using h2⟩
theorem mX (n:Nat):∀{l:List AV}{k:List AV->Rs},pM n l k=.ok->n<=l.length/\k (l.drop n)=.ok:=by
 induction n with
 |zero=>intro l k h;exact⟨zbl _,by rw[zc];exact h⟩
 |succ n ih=>intro l k h;cases l with
  |nil=>cases h
  |cons x t=>obtain⟨h1,h2⟩:=ih h;exact⟨by simpa using h1,by simpa using h2⟩
theorem Hl (vs:List AV):∀{l:List AV}{k:List AV->Rs},MX vs l k=.ok->vs.length<=l.length/\k (vs++l.drop vs.length)=.ok:=by
 induction vs with
 |nil=>intro l k h;exact⟨zbl _,h⟩
 |cons v vs ih=>intro l k h;cases l with
  |nil=>cases h
  |cons x t=>obtain⟨h1,h2⟩:=ih h;exact⟨by simpa using h1,by simpa using h2⟩
def fh (r:Nat)(vs l:List AV):List AV:=l.take r++vs++l.drop (r+vs.length)
theorem oK (r:Nat):∀{vs l:List AV}{k:List AV->Rs},pL r vs l k=.ok->r+vs.length<=l.length/\k (fh r vs l)=.ok:=by
 induction r with
 |zero=>intro vs l k h;obtain⟨h1,h2⟩:=Hl vs h;exact⟨by omega,by simpa [fh] using h2⟩
 |succ r ih=>intro vs l k h;cases l with
  |nil=>cases h
  |cons x t =>
   obtain⟨h1,h2⟩:=ih (vs:=vs) (l:=t) (k:=fun t=>k (x::t)) h;exact⟨by simp only[zbi];omega,by simpa [fh,Nat.add_right_comm] using h2⟩
theorem vO (v:AV)(z:Rs)(kk:Nat->Nat->Rs):kG v z kk=(match v with|.str l n=>kk l n|_=>z):=by cases v<;>rfl
theorem Fx (v:AV)(z:Rs)(kk:List AV->Rs):GZ v z kk=(match v with|.dC vs=>kk vs|_=>z):=by cases v<;>rfl
theorem gK {a b:IntKind}(h:eM a b=true):a=b:=by cases a<;>cases b<;>first|rfl|cases h
def bytesOf:Nat->Nat->List UInt8
 |0,_=>[]
 |l+1,n=>bytesOf l (n/256)++[UInt8.ofNat (n%256)]
theorem aD:∀l n,(bytesOf l n).length=l
 |0,_=>rfl
 |l+1,n=>by simp[bytesOf,aD l]
structure En where
 aS:Pz->Nat
 sh:Pz->Nat
 kS:Pz->Nat
noncomputable def jV (ι:En):Fn->Fn
 |.yield j=>.yield (ι.aS (aX (j-1)))
 |f=>f
theorem zB {f:Fn}(h:G9 f=true)(ι:En):jV ι f=f:=by cases f<;>first|rfl|cases h
def qX:Nat->Nat×Nat
 |0=>(0,0)
 |n+1=>match qX n with
  |(0,b)=>(b+1,0)
  |(a+1,b)=>(a,b+1)
theorem jW (s b a:Nat)(h:a+b=s):∃n,qX n=(a,b):=by
 match b,a with
 |0,0=>exact⟨0,rfl⟩
 |0,a+1=>obtain⟨n,hn⟩:=jW a a 0 (by omega);exact⟨n+1,by simp[qX,hn]⟩
 |b+1,a=>obtain⟨n,hn⟩:=jW s b (a+1) (by omega);exact⟨n+1,by simp[qX,hn]⟩
 termination_by (s,b)
def pS (b o len cap:Nat):Addr:=if len=0/\cap=0 then ⟨b,(qX o).1,match (qX o).2 with|0=>none|s+1=>some s⟩else ⟨b,o,none⟩
theorem mY {b o len cap:Nat}(h:¬(len=0/\cap=0)):pS b o len cap=⟨b,o,none⟩:=if_neg h
theorem gL (b len cap:Nat):pS b 0 len cap=⟨b,0,none⟩:=by unfold pS;split<;>rfl
theorem vP (a:Addr):∃o,pS a.block o 0 0=a:=by
 obtain⟨b,o,s⟩:=a;cases s with
 |none=>obtain⟨n,hn⟩:=jW _ 0 o rfl;exact⟨n,by simp[pS,hn]⟩
 |some s=>obtain⟨n,hn⟩:=jW _ (s+1) o rfl;exact⟨n,by simp[pS,hn]⟩
mutual
noncomputable def ak (ι:En):AV->Value
 |.bool b=>.bool b
 |.int k n=>.int k n
 |.str l n=>.string ⟨(bytesOf l n).toArray⟩
 |.float k b=>.float k b
 |.ptr id off=>.pointer (some ⟨ι.aS id,ι.sh id+off,none⟩)
 |.dY=>.pointer none
 |.slice id off len cap=>.slice (some ⟨ι.aS id,ι.sh id+off,none⟩) len cap
 |.bt id off len skip=>.slice (some ⟨ι.aS id,ι.sh id+off,none⟩) len (ι.kS id-skip)
 |.ab=>.slice none 0 0
 |.map id=>.map (some (ι.aS id))
 |.bg=>.map none
 |.func fn first captured=>.func (jV ι fn) (ao ι first).toArray (ao ι captured).toArray
 |.cy=>.nilFunc
 |.iface t v=>.iface t (ak ι v)
 |.nilIface=>.nilIface
 |.agg cs=>.agg (ao ι cs).toArray
 |.dC vs=>.tuple (ao ι vs).toArray
 |.cN b o len cap=>.slice (some (pS b o len cap)) len cap
 |.cu b o=>.pointer (some ⟨b,o,none⟩)
 |.cV b=>.map (some b)
 |.zg b=>.func (.yield b) #[] #[]
noncomputable def ao (ι:En):List AV->List Value
 | []=>[]
 |v::vs=>ak ι v::ao ι vs
end
theorem jr (ι:En):∀l,ao ι l=l.map (ak ι)
 | []=>by simp[ao]
 |v::vs=>by simp[ao,jr ι vs]
theorem aq (ι:En)(l:List AV):(ao ι l).length=l.length:=by rw[jr];simp
theorem fe (ι:En)(a b:List AV):ao ι (a++b)=ao ι a++ao ι b:=by simp[jr]
theorem vQ (ι:En)(n:Nat)(a:List AV):ao ι (a.take n)=(ao ι a).take n:=by simp[jr]
theorem vR (ι:En)(n:Nat)(a:List AV):ao ι (a.drop n)=(ao ι a).drop n:=by simp[jr]
theorem bu (ι:En)(a:List AV)(i:Nat):(ao ι a)[i]?=(a[i]?).map (ak ι):=by simp[jr]
theorem du (ι:En):ak ι aE=undef:=by simp[aE,ak,ao,undef]
theorem bZ (ι:En)(v:AV):(ak ι v).cells=(ao ι v.cells).toArray:=by
 cases v<;>simp[AV.cells,Value.cells,ak,ao]
theorem jX:∀(l n:Nat),bytesOf l (n%256 ^ l)=bytesOf l n
 |0,_=>rfl
 |l+1,n=>by
  have h1:n%256 ^ (l+1)/256=n/256%256 ^ l:=by rw[zdq,zct,Nat.mod_mul_right_div_self]
  have h2:n%256 ^ (l+1)%256=n%256:=by rw[zdq,zct,Nat.mod_mul_right_mod]
  simp only[bytesOf];rw[h1,h2,jX l]
theorem lN (l n b:Nat)(hb:b<256):bytesOf (l+1) (n*256+b)=bytesOf l n++[UInt8.ofNat b]:=by
 simp only[bytesOf];rw[show (n*256+b)/256=n by omega,show (n*256+b)%256=b by omega]
theorem pT:∀(l:List UInt8)(k n:Nat),bytesOf (k+l.length) (l.foldl (fun n b=>n*256+b.toNat) n)=bytesOf k n++l
 | [],k,n=>by simp
 |b::l,k,n=>by
  have h:=pT l (k+1) (n*256+b.toNat);rw[lN _ _ _ b.toNat_lt]at h;simp only[List.foldl_cons,zbi];rw[show k+(l.length+1)=k+1+l.length by omega,h];simp
theorem mZ (l:List UInt8):bytesOf l.length (xe l)=l:=by
 have:=pT l 0 0;simpa [xe,bytesOf] using this
theorem rV:∀(l m n:Nat),bytesOf l m=bytesOf l n->m%256 ^ l=n%256 ^ l
 |0,m,n,_=>by simp[Nat.mod_one]
 |l+1,m,n,h=>by
  simp only[bytesOf]at h;have hl:(bytesOf l (m/256)).length=(bytesOf l (n/256)).length:=by rw[aD,aD]
  obtain⟨h1,h2⟩:=List.append_inj h hl;have hi:=rV l _ _ h1
  have h3:m%256=n%256:=by
   have h4:(UInt8.ofNat (m%256)).toNat=(UInt8.ofNat (n%256)).toNat:=by rw[List.cons.inj h2 |>.1]
   simp only[zdm]at h4;omega
  have e1:m%256 ^ (l+1)=256*(m/256%256 ^ l)+m%256:=by
   rw[zdq,zct,Nat.mod_mul];omega
  have e2:n%256 ^ (l+1)=256*(n/256%256 ^ l)+n%256:=by
   rw[zdq,zct,Nat.mod_mul];omega
  rw[e1,e2,hi,h3]
theorem js (n:Nat):lG n=256 ^ n:=by
 unfold lG;rw[show Nat.shiftLeft 1 (8*n)=1 <<< (8*n)from rfl,Nat.shiftLeft_eq,zes,Nat.pow_mul]
theorem dX (l m l' m':Nat):aR l m l' m'=(bytesOf l m==bytesOf l' m'):=by
 unfold aR jq;rw[js,js,zcv];simp only[za,beq_iff_eq];constructor
 ·rintro⟨h1,h2⟩
  have h1:=ai h1;have h2:=ai h2;subst h1;have h3:m%256 ^ l=m'%256 ^ l:=h2;rw[<-jX l m,h3,jX]
 ·intro h;have hl:l=l':=by rw[<-aD l m,h,aD]
  subst hl;have h3:=rV l m m' h;exact⟨zcf _,by show Nat.beq (m%256 ^ l) (m'%256 ^ l)=true;rw[h3];exact zcf _⟩
theorem na:∀(l' l m m':Nat),bytesOf (l+l') (m*256 ^ l'+m'%256 ^ l')=bytesOf l m++bytesOf l' m'
 |0,l,m,m'=>by simp[bytesOf,Nat.mod_one]
 |l'+1,l,m,m'=>by
  have e:m'%256 ^ (l'+1)=256*(m'/256%256 ^ l')+m'%256:=by rw[zdq,zct,Nat.mod_mul];omega
  have e2:m*256 ^ (l'+1)+m'%256 ^ (l'+1)=(m*256 ^ l'+m'/256%256 ^ l')*256+m'%256:=by
   rw[e,zdq,zbh,Nat.mul_assoc];omega
  rw[e2,show l+(l'+1)=(l+l')+1 by omega,lN _ _ _ (Nat.mod_lt _ (by decide)),na l' l m];simp[bytesOf]
theorem lO:∀(d l n:Nat),bytesOf l (n/256 ^ d)=(bytesOf (l+d) n).take l
 |0,l,n=>by
  rw[Nat.pow_zero,Nat.div_one,zbu,zbz (by rw[aD];exact zad _)]
 |d+1,l,n=>by
  have h:=lO d l (n/256);rw[Nat.div_div_eq_div_mul,<-Nat.pow_succ']at h;rw[h,show l+(d+1)=(l+d)+1 by omega];simp only[bytesOf];rw[zco (by rw[aD];omega)]
theorem pU:∀(l d n:Nat),bytesOf l n=(bytesOf (d+l) n).drop d
 |0,d,n=>by
  rw[zcg (by rw[aD];exact zad _)];rfl
 |l+1,d,n=>by
  rw[show d+(l+1)=(d+l)+1 by omega];simp only[bytesOf];rw[zda (by rw[aD];omega),<-pU l d]
theorem nb:∀(l n i:Nat),i<l->(bytesOf l n)[i]?=some (UInt8.ofNat (n/256 ^ (l-(i+1))%256))
 |0,_,_,h=>by omega
 |l+1,n,i,h=>by
  simp only[bytesOf];by_cases hi:i<l
  ·rw[zau (by rw[aD];exact hi),nb l (n/256) i hi,Nat.div_div_eq_div_mul,<-Nat.pow_succ',show (l-(i+1)).succ=l+1-(i+1) by omega]
  ·have:i=l:=by omega
   subst this;rw[zay (by rw[aD];exact zad _),aD];simp
end Go.aI
namespace Go.aI
open Go.RowKit
def al (nx:Pz)(ι ι':En):Prop:=∀id:Pz,id.num<nx.num->ι'.aS id=ι.aS id/\ι'.sh id=ι.sh id/\ι'.kS id=ι.kS id
theorem al.refl (nx:Pz)(ι:En):al nx ι ι:=fun _ _=>⟨rfl,rfl,rfl⟩
theorem al.trans {nx nx':Pz}{a b c:En}(h:al nx a b)(h':al nx' b c)(hle:nx.num<=nx'.num):al nx a c:=fun id hid =>
 ⟨(h' id (by omega)).1.trans (h id hid).1,(h' id (by omega)).2.1.trans (h id hid).2.1,(h' id (by omega)).2.2.trans (h id hid).2.2⟩
def eK (ι:En)(C:Array Value)(base es n:Nat)(c:Tr (List AV)):Prop :=
 ∀q,q<n->∃l,c.get (aX q)=some l/\l.length=es/\∀r,r<es->C[base+(q*es+r)]?=(l[r]?).map (ak ι)
def live (hp:Tr AO)(f:Pz)(ep:Nat):Prop:=∃ix,hp.get f=some (.dJ ep ix)
def own (hp:Tr AO):AO->Prop
 |.cG f ep _ _ _ _ _=>live hp f ep
 |.dJ _ _=>False
 |_=>True
def fL (fz:Nat×Nat)(m:Nat):Prop:=fz.1=fz.2∨m<=fz.1
theorem fL.no {fz:Nat×Nat}{m:Nat}(h:fL fz m)(o:Nat)(ho:o<m):¬(fz.1<=o/\o<fz.2):=by
 rcases h with h|h<;>omega
noncomputable def dP (ι:En)(e:ME):MapEntry:=⟨ak ι e.key,ak ι e.val,e.born⟩
def Oq:Ex->Option Code
 |.eJ=>none
 |.ext id=>some (.exit id)
 |.ret=>some .ret
def vi:LS->LoopState
 |.ready=>.ready
 |.busy=>.busy
 |.done _=>.done
def oL:LS->Option Code
 |.done e=>Oq e
 |_=>none
def ji (ι:En)(hp:Tr AO)(w:World)(id:Pz):AO->Prop
 |.arr es n el c=>∃C fz,w.heap[ι.aS id]?=some (.cells C el fz)/\ι.sh id=0/\C.size=n*es/\eK ι C 0 es n c/\fL fz C.size
 |.cG f ep _ es n el c=>live hp f ep->∃C fz,w.heap[ι.aS id]?=some (.cells C el fz)/\ι.sh id+ι.kS id*es<=C.size/\n<=ι.kS id/\eK ι C (ι.sh id) es n c/\fL fz C.size
 |.dJ _ _=>True
 |.map es clock=>∃E:Array MapEntry,w.heap[ι.aS id]?=some (.map E clock)/\E.toList=es.map (dP ι)
 |.loop _ nt tm ps x y st=>∃fn tmps D,w.heap[ι.aS id]?=some (.loop { state:=vi st,pending:=oL st,fn,tmps,params:=ps,assign:=x,body:=y,defers:=D })/\tmps.size=nt/\tm.ml=[]/\∀t,tmps.getD t undef=ak ι (tm.at t)
 |.fa=>w.heap[ι.aS id]?=some (.deferred (some []))
 |.gone=>(w.heap[ι.aS id]?).isSome=true
 |.iter m since seen clock=>w.heap[ι.aS id]?=some (.mapIter (some (ι.aS m)) since seen.reverse.toArray clock)/\ι.sh id=0
def iu:AO->Option Pz
 |.cG f _ _ _ _ _ _=>some f
 |_=>none
structure Kept (B:Nat->Prop) (w w':World):Prop where
 os:w'.os=w.os
 tape:w'.tape=w.tape
 output:w'.output=w.output
 size:w.heap.size<=w'.heap.size
 block:∀k,B k->w'.heap[k]?=w.heap[k]?
theorem Kept.refl (B:Nat->Prop)(w:World):Kept B w w:=⟨rfl,rfl,rfl,zad _,fun _ _=>rfl⟩
theorem Kept.trans {B:Nat->Prop}{a b c:World}(h:Kept B a b)(k:Kept B b c):Kept B a c :=
 ⟨k.os.trans h.os,k.tape.trans h.tape,k.output.trans h.output,zam h.size k.size,fun i hi=>(k.block i hi).trans (h.block i hi)⟩
theorem Kept.mono {B B':Nat->Prop}{a b:World}(h:Kept B a b)(hB:∀k,B' k->B k):Kept B' a b:=⟨h.os,h.tape,h.output,h.size,fun k hk=>h.block k (hB k hk)⟩
theorem Kept.drew {B:Nat->Prop}{a w:World}(h:Kept B a w):Kept B a w.drew:=⟨h.os,h.tape,h.output,h.size,h.block⟩
theorem Kept.alloc {B:Nat->Prop}{a w:World}(h:Kept B a w)(hB:∀k,B k->k<w.heap.size)(o:Obj):Kept B a (w.alloc o) :=
 h.trans ⟨rfl,rfl,rfl,by simp,fun k hk=>Below.heap_alloc _ _ _ (hB k hk)⟩
theorem Kept.setCell {B:Nat->Prop}{a w:World}(h:Kept B a w){p:Addr}(hp:¬B p.block)(u:Value):Kept B a (w.setCell p u) :=
 h.trans ⟨rfl,rfl,rfl,by simp[World.setCell],fun k hk=>Below.heap_setCell _ _ _ _ (fun e=>hp (e▸hk))⟩
structure Core (B:Nat->Prop) (w0:World) (ι:En) (hp:Tr AO) (w:World):Prop where
 below:Kept B w0 w
 room:∀k,B k->k<w.heap.size
 obj:∀id o,hp.get id=some o->ji ι hp w id o
 base:∀id o,hp.get id=some o->own hp o->¬B (ι.aS id)
 sep:∀id id' o o',id≠id'->hp.get id=some o->hp.get id'=some o'->own hp o->own hp o'->ι.aS id=ι.aS id'->∃f,iu o=some f/\iu o'=some f
 e9:∀id id' f ep es n el c f' ep' tp' es' n' el' c',id≠id'->hp.get id=some (.cG f ep true es n el c)->hp.get id'=some (.cG f' ep' tp' es' n' el' c')->live hp f ep->live hp f' ep' ->
  (f=f'->tp'=false)/\(ι.aS id=ι.aS id'->n<ι.kS id->ι.sh id'+n'*es'<=ι.sh id+n*es)
structure Wf (hp:Tr AO) (nx:Pz):Prop where
 lt:∀id o,hp.get id=some o->id.num<nx.num
 dJ:∀id f ep tp es n el c,hp.get id=some (.cG f ep tp es n el c)->f.num<nx.num
 ep:∀id f ep tp es n el c e s,hp.get id=some (.cG f ep tp es n el c)->hp.get f=some (.dJ e s)->ep<=e
 ix:∀f e id id' tp es n el c tp' es' n' el' c',hp.get f=some (.dJ e true)->hp.get id=some (.cG f e tp es n el c)->hp.get id'=some (.cG f e tp' es' n' el' c')->id=id'
theorem gx (b o n:Nat):(⟨b,o,none⟩:Addr).add n=⟨b,o+n,none⟩:=by
 unfold Addr.add;split
 ·rename_i h;subst h;rfl
 ·rfl
theorem nO {w:World}{b:Nat}{C:Array Value}{el:TypeId}{fz:Nat×Nat}(h:w.heap[b]?=some (.cells C el fz))(o:Nat):w.cell? ⟨b,o,none⟩=C[o]?:=by
 simp[World.cell?,h]
theorem Fy {w:World}{b:Nat}{C:Array Value}{el:TypeId}{fz:Nat×Nat}(h:w.heap[b]?=some (.cells C el fz))(o:Nat):w.frozen? ⟨b,o,none⟩=(decide (fz.1<=o)&&decide (o<fz.2)):=by
 obtain⟨lo,hi⟩:=fz;simp[World.frozen?,h]
theorem pV {hp:Tr AO}{f:Pz}{ep:Nat}{k:Bool->Rs}(h:vC hp f ep k=.ok):∃ix,hp.get f=some (.dJ ep ix)/\k ix=.ok:=by
 obtain⟨o,ho,h⟩:=dt h;cases o with
 |dJ e ix =>
  obtain⟨he,hk⟩:=aJ h;have:=ai he;subst this;exact⟨ix,ho,hk⟩
 |arr=>cases h
 |cG=>cases h
 |map=>cases h
 |iter=>cases h
 |loop=>cases h
 |fa=>cases h
 |gone=>cases h
def tI (ι:En)(w:World)(id:Pz)(es n:Nat)(c:Tr (List AV)):Prop :=
 ∃C el fz,w.heap[ι.aS id]?=some (.cells C el fz)/\ι.sh id+n*es<=C.size/\eK ι C (ι.sh id) es n c/\fL fz C.size
theorem xq {hp:Tr AO}{id:Pz}{k:Nat->Nat->Tr (List AV)->Rs}(h:Kl hp id k=.ok) :
  ∃es n c,k es n c=.ok/\(∃o,hp.get id=some o/\own hp o)/\∀B w0 ι w,Core B w0 ι hp w->tI ι w id es n c:=by
 obtain⟨o,ho,h⟩:=dt h;cases o with
 |arr es n el c =>
  refine⟨es,n,c,h,⟨_,ho,trivial⟩,fun B w0 ι w hc=>?_⟩;obtain⟨C,fz,h1,h2,h3,h4,h5⟩:=hc.obj _ _ ho;exact⟨C,el,fz,h1,by rw[h2,h3];omega,by rw[h2];exact h4,h5⟩
 |cG f ep tp es n el c =>
  obtain⟨ix,hf,h⟩:=pV h;refine⟨es,n,c,h,⟨_,ho,⟨ix,hf⟩⟩,fun B w0 ι w hc=>?_⟩;obtain⟨C,fz,h1,h2,h3,h4,h5⟩:=hc.obj _ _ ho ⟨ix,hf⟩;exact⟨C,el,fz,h1,zam (zen (zae _ h3) _) h2,h4,h5⟩
 |dJ=>cases h
 |map=>cases h
 |iter=>cases h
 |loop=>cases h
 |fa=>cases h
 |gone=>cases h
theorem pW {es n:Nat}{c:Tr (List AV)}{off:Nat}{k:Nat->Nat->List AV->Rs}(h:vD es n c off k=.ok) :
  ∃l,off/es<n/\c.get (aX (off/es))=some l/\k (off/es) (off%es) l=.ok:=by
 unfold vD at h;rw[aG,aG]at h;obtain⟨h1,h⟩:=aJ h;obtain⟨l,h2,h⟩:=dt h;exact⟨l,av h1,h2,h⟩
theorem tI.cell {ι:En}{w:World}{id:Pz}{es n:Nat}{c:Tr (List AV)}(h:tI ι w id es n c){off:Nat}{l:List AV}(hq:off/es<n)(hl:c.get (aX (off/es))=some l)(i:Nat)(hi:off%es+i<l.length) :
  w.cell? ⟨ι.aS id,ι.sh id+(off+i),none⟩=(l[off%es+i]?).map (ak ι):=by
 obtain⟨C,el,fz,h1,h2,h3,h4⟩:=h;obtain⟨l',hl',hlen,hr⟩:=h3 _ hq;rw[hl]at hl';cases hl';rw[nO h1,<-hr _ (by omega)];congr 2;have:=zek off es;rw[zct]at this;omega
theorem rW {hp:Tr AO}{id:Pz}{off:Nat}{k:AV->Rs}(h:pN hp id off k=.ok) :
  ∃v,k v=.ok/\∀B w0 ι w,Core B w0 ι hp w->w.cell? ⟨ι.aS id,ι.sh id+off,none⟩=some (ak ι v):=by
 obtain⟨es,n,c,h,_,hrow⟩:=xq h;obtain⟨l,hq,hl,h⟩:=pW h;obtain⟨v,hv,h⟩:=nN _ h;refine⟨v,h,fun B w0 ι w hc=>?_⟩
 have hlt:off%es<l.length:=by
  rcases zdp (off%es) l.length with h'|h'
  ·exact h'
  ·rw[zbr h']at hv;cases hv
 have:=(hrow B w0 ι w hc).cell hq hl 0 (by omega);rw[zbu,zbu,hv]at this;exact this
def pX (ι:En)(w:World)(id:Pz)(off:Nat)(l:List AV):Prop:=∀i,i<l.length->w.cell? ⟨ι.aS id,ι.sh id+(off+i),none⟩=(l[i]?).map (ak ι)
theorem lP {hp:Tr AO}{id:Pz}{off sz:Nat}{k:List AV->Rs}(h:kQ hp id off sz k=.ok) :
  ∃l,k l=.ok/\∀B w0 ι w,Core B w0 ι hp w->l.length=sz/\pX ι w id off l:=by
 obtain⟨es,n,c,h,_,hrow⟩:=xq h;obtain⟨l,hq,hl,h⟩:=pW h;rcases bQ h with ⟨hb,h⟩|⟨hb,h⟩
 ·rw[za]at hb;have h1:=ai hb.1;have h2:off%es=0:=ai hb.2;refine⟨l,h,fun B w0 ι w hc=>⟨?_,fun i hi=>?_⟩⟩
  ·obtain⟨C,el,fz,_,_,h3,_⟩:=hrow B w0 ι w hc;obtain⟨l',hl',hlen,_⟩:=h3 _ hq;rw[hl]at hl';cases hl';rw[hlen,h1]
  ·have:=(hrow B w0 ι w hc).cell hq hl i (by omega);rw[h2,zaq]at this;exact this
 ·obtain⟨h1,h⟩:=mX _ h;obtain⟨h2,h⟩:=mU _ h;rw[zas]at h2;refine⟨(l.drop (off%es)).take sz,h,fun B w0 ι w hc=>⟨by rw[zaf,zas];omega,fun i hi=>?_⟩⟩;rw[zaf,zas]at hi;rw[(hrow B w0 ι w hc).cell hq hl i (by omega),zci,if_pos (by omega),zbb]
end Go.aI
namespace Go.aI
open Go.RowKit
def bm (w:World)(b o:Nat):List Value->World
 | []=>w
 |v::vs=>bm (w.setCell ⟨b,o,none⟩ v) b (o+1) vs
def ei (C:Array Value)(o:Nat):List Value->Array Value
 | []=>C
 |v::vs=>ei (C.setIfInBounds o v) (o+1) vs
theorem bp:∀(vs:List Value)(C:Array Value)(o:Nat),(ei C o vs).size=C.size
 | [],_,_=>rfl
 |v::vs,C,o=>by simp only[ei];rw[bp vs];simp
theorem dM:∀(vs:List Value)(C:Array Value)(o i:Nat),o+vs.length<=C.size->(ei C o vs)[i]?=if o<=i/\i<o+vs.length then vs[i-o]? else C[i]?
 | [],C,o,i,_=>by simp only[ei,zei];rw[if_neg (by omega)]
 |v::vs,C,o,i,h=>by
  simp only[ei];simp only[zbi]at h;rw[dM vs _ _ _ (by simp;omega)];simp only[zbi];by_cases h1:o+1<=i/\i<o+1+vs.length
  ·rw[if_pos h1,if_pos (by omega),show i-o=(i-(o+1))+1 by omega,zbm]
  ·rw[if_neg h1,zdo];by_cases h2:o=i
   ·subst h2;rw[if_pos rfl,if_pos (by omega),if_pos (by omega),zdr];rfl
   ·rw[if_neg h2,if_neg (by omega)]
theorem vj {w:World}{b o:Nat}{v:Value}{C:Array Value}{el:TypeId}{fz:Nat×Nat}(h:w.heap[b]?=some (.cells C el fz)) :
  (w.setCell ⟨b,o,none⟩ v).heap[b]?=some (.cells (C.setIfInBounds o v) el fz):=by
 simp[World.setCell,zcm,h]
theorem de:∀(vs:List Value)(w:World)(b o:Nat)(C:Array Value)(el:TypeId)(fz:Nat×Nat),w.heap[b]?=some (.cells C el fz) ->
  (bm w b o vs).heap[b]?=some (.cells (ei C o vs) el fz)
 | [],_,_,_,_,_,_,h=>h
 |v::vs,w,b,o,C,el,fz,h=>de vs _ b (o+1) _ el fz (vj h)
theorem gM:∀(vs:List Value)(w:World)(b o k:Nat),k≠b->(bm w b o vs).heap[k]?=w.heap[k]?
 | [],_,_,_,_,_=>rfl
 |v::vs,w,b,o,k,h=>by
  simp only[bm];rw[gM vs _ b (o+1) k h];exact Below.heap_setCell w ⟨b,o,none⟩ v k h
theorem iI:∀(vs:List Value)(w:World)(b o:Nat),(bm w b o vs).heap.size=w.heap.size
 | [],_,_,_=>rfl
 |v::vs,w,b,o=>by simp only[bm];rw[iI vs];simp[World.setCell]
theorem eN {B:Nat->Prop}{w0:World}:∀(vs:List Value)(w:World)(b o:Nat),¬B b->Kept B w0 w->Kept B w0 (bm w b o vs)
 | [],_,_,_,_,h=>h
 |v::vs,w,b,o,hb,h=>eN vs _ b (o+1) hb (h.setCell (p:=⟨b,o,none⟩) hb v)
theorem vS {v:AV}{vs:List AV}(h:flat (v::vs)=true):sH v=true/\flat vs=true:=by
 unfold flat at h;cases hb:sH v with
 |true=>simp only[hb]at h;exact⟨rfl,h⟩
 |false=>simp only[hb]at h;cases h
def vk:Value->Bool
 |.agg _=>false
 |.tuple _=>false
 |_=>true
theorem Kq (ι:En){v:AV}(h:sH v=true):vk (ak ι v)=true:=by
 cases v<;>first|(simp[ak,vk];done)|cases h
theorem DE {w:World}{b:Nat}(h:(w.heap[b]?).isSome=true):b<w.heap.size:=by
 rcases zdp b w.heap.size with h'|h'
 ·exact h'
 ·rw[zed h']at h;cases h
theorem ji.bE {ι:En}{hp hp':Tr AO}{w w':World}{id:Pz}{o:AO}(h:ji ι hp w id o)(ho:own hp' o->own hp o)(hb:own hp' o->w'.heap[ι.aS id]?=w.heap[ι.aS id]?):ji ι hp' w' id o:=by
 cases o with
 |arr es n el c =>
  obtain⟨C,fz,h1,h2⟩:=h;exact⟨C,fz,by rw[hb trivial];exact h1,h2⟩
 |cG f ep tp es n el c =>
  intro hl;obtain⟨C,fz,h1,h2⟩:=h (ho hl);exact⟨C,fz,by rw[hb hl];exact h1,h2⟩
 |dJ=>trivial
 |map es c =>
  obtain⟨E,h1,h2⟩:=h;exact⟨E,by rw[hb trivial];exact h1,h2⟩
 |iter=>exact⟨by rw[hb trivial];exact h.1,h.2⟩
 |loop=>obtain⟨fn,tmps,D,h1,h2⟩:=h;exact⟨fn,tmps,D,by rw[hb trivial];exact h1,h2⟩
 |fa=>show w'.heap[ι.aS id]?=_;rw[hb trivial];exact h
 |gone=>show (w'.heap[ι.aS id]?).isSome=true;rw[hb trivial];exact h
theorem oM (r:Nat)(vs l:List AV)(h:r+vs.length<=l.length)(i:Nat):(fh r vs l)[i]?=if r<=i/\i<r+vs.length then vs[i-r]? else l[i]?:=by
 unfold fh;by_cases h1:i<r
 ·rw[if_neg (by omega),zbc,zau (by rw[zaf];omega),zci,if_pos h1]
 ·rw[zbc,zay (by rw[zaf];omega),zaf,zcl (by omega)];by_cases h2:i<r+vs.length
  ·rw[if_pos ⟨by omega,h2⟩,zau (by omega)]
  ·rw[if_neg (by omega),zay (by omega),zbb];congr 1;omega
theorem om (r:Nat)(vs l:List AV)(h:r+vs.length<=l.length):(fh r vs l).length=l.length:=by
 unfold fh;simp only[zak,zaf,zas];omega
theorem rX {ι:En}{C:Array Value}{base es n:Nat}{c:Tr (List AV)}(h:eK ι C base es n c){off:Nat}{l vs:List AV}(hq:off/es<n)(hl:c.get (aX (off/es))=some l)
  (hr:off%es+vs.length<=l.length) (hC:base+n*es<=C.size):eK ι (ei C (base+off) (ao ι vs)) base es n (c.set (aX (off/es)) (fh (off%es) vs l)):=by
 have hdm:off/es*es+off%es=off:=by have:=zek off es;rw[zct]at this;exact this
 obtain⟨l0,hl0,hlen,hget⟩:=h _ hq;rw[hl]at hl0;cases hl0
 have hmul:off/es*es+es<=n*es:=by
  have:=zae es (zcd hq);rw[zax]at this;exact this
 have hb:base+off+(ao ι vs).length<=C.size:=by rw[aq];omega
 intro q hqn;by_cases hqq:q=off/es
 ·subst hqq;refine⟨_,Tr.br _ _ _,by rw[om _ _ _ hr,hlen],fun r hr'=>?_⟩;rw[dM _ _ _ _ hb,oM _ _ _ hr,aq];by_cases hx:off%es<=r/\r<off%es+vs.length
  ·rw[if_pos (by omega),if_pos hx,bu];congr 2;omega
  ·rw[if_neg (by omega),if_neg hx];exact hget r hr'
 ·obtain⟨l',hl',hlen',hget'⟩:=h q hqn;refine⟨l',by rw[Tr.cI (mR hqq)];exact hl',hlen',fun r hr'=>?_⟩;rw[dM _ _ _ _ hb,aq,if_neg,hget' r hr'];intro hx;rcases Nat.lt_or_gt_of_ne hqq with hlt|hgt
  ·have:=zae es (zcd hlt);rw[zax]at this;omega
  ·have:=zae es (zcd hgt);rw[zax]at this;omega
def lQ (w:World)(b o n:Nat):Prop:=∀i,i<n->(∃u,w.cell? ⟨b,o+i,none⟩=some u)/\w.frozen? ⟨b,o+i,none⟩=false
theorem kT {w:World}{b o n:Nat}{C:Array Value}{el:TypeId}{fz:Nat×Nat}(h:w.heap[b]?=some (.cells C el fz))(hn:o+n<=C.size)(hf:fL fz C.size):lQ w b o n:=by
 intro i hi;refine⟨⟨C[o+i]'(by omega),by rw[nO h];exact zbe (by omega)⟩,?_⟩;rw[Fy h];have:=hf.no (o+i) (by omega);by_cases hx:fz.1<=o+i
 ·have hy:¬o+i<fz.2:=fun hy=>this ⟨hx,hy⟩;simp[hy]
 ·simp[hx]
theorem ah {α:Type}{p q:Pz}{t:Tr α}{x y:α}(h:(t.set p x).get q=some y):(q=p/\x=y)∨(q≠p/\t.get q=some y):=by
 rw[Tr.s9]at h;by_cases hq:q=p
 ·rw[if_pos hq]at h;exact .inl ⟨hq,Option.some.inj h⟩
 ·rw[if_neg hq]at h;exact .inr ⟨hq,h⟩
theorem vT {es n off m:Nat}{l:Nat}(hq:off/es<n)(hr:off%es+m<=l)(hl:l=es):off+m<=n*es:=by
 have hdm:off/es*es+off%es=off:=by have:=zek off es;rw[zct]at this;exact this
 have:=zae es (zcd hq);rw[zax]at this;omega
def mr (hp hp':Tr AO)(id:Pz)(off:Nat)(vs:List AV):Prop :=
 (∀nx,Wf hp nx->Wf hp' nx)/\∀B w0 ι w nx,Wf hp nx->Core B w0 ι hp w->Core B w0 ι hp' (bm w (ι.aS id) (ι.sh id+off) (ao ι vs))/\lQ w (ι.aS id) (ι.sh id+off) vs.length
theorem Ks {hp:Tr AO}{id:Pz}{off es n:Nat}{el:TypeId}{c:Tr (List AV)}{l vs:List AV}(ho:hp.get id=some (.arr es n el c))(hq:off/es<n)(hl:c.get (aX (off/es))=some l)
  (hr:off%es+vs.length<=l.length):mr hp (hp.set id (.arr es n el (c.set (aX (off/es)) (fh (off%es) vs l)))) id off vs:=by
 have hfam:∀f e s,(hp.set id (.arr es n el (c.set (aX (off/es)) (fh (off%es) vs l)))).get f=some (.dJ e s)->hp.get f=some (.dJ e s):=by
  intro f e s h;rcases ah h with ⟨_,h⟩|⟨_,h⟩
  ·cases h
  ·exact h
 have hseg:∀i f e tp es' n' el' c',(hp.set id (.arr es n el (c.set (aX (off/es)) (fh (off%es) vs l)))).get i=some (.cG f e tp es' n' el' c')->hp.get i=some (.cG f e tp es' n' el' c'):=by
  intro i f e tp es' n' el' c' h;rcases ah h with ⟨_,h⟩|⟨_,h⟩
  ·cases h
  ·exact h
 have hlive:∀f e,live (hp.set id (.arr es n el (c.set (aX (off/es)) (fh (off%es) vs l)))) f e->live hp f e:=fun f e ⟨s,h⟩=>⟨s,hfam _ _ _ h⟩;refine⟨fun nx hw=>⟨?_,?_,?_,?_⟩,fun B w0 ι w nx hw hc=>?_⟩
 ·intro i o h;rcases ah h with ⟨rfl,_⟩|⟨_,h⟩
  ·exact hw.lt _ _ ho
  ·exact hw.lt _ _ h
 ·intro i f e tp es' n' el' c' h;exact hw.dJ _ _ _ _ _ _ _ _ (hseg _ _ _ _ _ _ _ _ h)
 ·intro i f e tp es' n' el' c' e' s h h';exact hw.ep _ _ _ _ _ _ _ _ _ _ (hseg _ _ _ _ _ _ _ _ h) (hfam _ _ _ h')
 ·intro f e i i' tp es' n' el' c' tp' es'' n'' el'' c'' h h1 h2;exact hw.ix _ _ _ _ _ _ _ _ _ _ _ _ _ _ (hfam _ _ _ h) (hseg _ _ _ _ _ _ _ _ h1) (hseg _ _ _ _ _ _ _ _ h2)
 ·obtain⟨C,fz,h1,h2,h3,h4,h5⟩:=hc.obj _ _ ho;obtain⟨l0,hl0,hlen,_⟩:=h4 _ hq;rw[hl]at hl0;cases hl0;have hroom:=vT hq hr hlen;refine⟨⟨eN _ _ _ _ (hc.base _ _ ho trivial) hc.below,fun k hk=>by rw[iI];exact hc.room k hk,?_,?_,?_,?_⟩,?_⟩
  ·intro i o h;rcases ah h with ⟨rfl,rfl⟩|⟨hne,h⟩
   ·refine⟨_,fz,de _ _ _ _ _ _ _ h1,h2,by rw[bp];exact h3,?_,by rw[bp];exact h5⟩;have:=rX (base:=0) h4 (vs:=vs) hq hl hr (by rw[h3];omega);rw[h2];exact this
   ·refine (hc.obj _ _ h).bE (fun ho'=>?_) (fun ho'=>?_)
    ·cases o with
     |cG=>exact hlive _ _ ho'
     |_=>exact ho'
    ·refine gM _ _ _ _ _ (fun e=>?_)
     have ho2:own hp o:=by
      cases o with
      |cG=>exact hlive _ _ ho'
      |_=>exact ho'
     obtain⟨f,_,h6⟩:=hc.sep _ _ _ _ hne h ho ho2 trivial e;cases h6
  ·intro i o h ho';rcases ah h with ⟨rfl,rfl⟩|⟨hne,h⟩
   ·exact hc.base _ _ ho trivial
   ·refine hc.base _ _ h ?_;cases o with
    |cG=>exact hlive _ _ ho'
    |_=>exact ho'
  ·intro i i' o o' hne h h' ho1 ho2 e;rcases ah h with ⟨hi,hoo⟩|⟨hne1,g⟩
   ·rcases ah h' with ⟨hi',_⟩|⟨hne2,g'⟩
    ·exact absurd (hi.trans hi'.symm) hne
    ·have ho2':own hp o':=by
       cases o' with
       |cG=>exact hlive _ _ ho2
       |_=>exact ho2
     obtain⟨f,h6,_⟩:=hc.sep i i' (.arr es n el c) _ hne (hi▸ho) g' trivial ho2' e;cases h6
   ·have ho1':own hp o:=by
      cases o with
      |cG=>exact hlive _ _ ho1
      |_=>exact ho1
    rcases ah h' with ⟨hi',_⟩|⟨hne2,g'⟩
    ·obtain⟨f,_,h6⟩:=hc.sep i i' _ (.arr es n el c) hne g (hi'▸ho) ho1' trivial e;cases h6
    ·refine hc.sep _ _ _ _ hne g g' ho1' ?_ e;cases o' with
     |cG=>exact hlive _ _ ho2
     |_=>exact ho2
  ·intro i i' f e es' n' el' c' f' e' tp' es'' n'' el'' c'' hne h h' hl1 hl2;exact hc.e9 _ _ _ _ _ _ _ _ _ _ _ _ _ _ _ hne (hseg _ _ _ _ _ _ _ _ h) (hseg _ _ _ _ _ _ _ _ h') (hlive _ _ hl1) (hlive _ _ hl2)
  ·exact kT h1 (by rw[h2,h3];omega) h5
theorem pY {hp hp':Tr AO}{id f:Pz}{ep ep' off es n:Nat}{e9:Bool}{el:TypeId}{c:Tr (List AV)}{l vs:List AV}(ho:hp.get id=some (.cG f ep e9 es n el c))(hlv:live hp f ep)
  (hq:off/es<n) (hl:c.get (aX (off/es))=some l) (hr:off%es+vs.length<=l.length)
  (hA:hp'.get id=some (.cG f ep' e9 es n el (c.set (aX (off/es)) (fh (off%es) vs l))))
  (hB:∀i o,i≠id->hp'.get i=some o->hp.get i=some o∨∃e s,o=.dJ e s)
  (hC:∀i o,i≠id->hp'.get i=some o->own hp' o->hp.get i=some o/\own hp o/\iu o≠some f) {B:Nat->Prop} {w0 w:World} {ι:En} (hc:Core B w0 ι hp w) :
  Core B w0 ι hp' (bm w (ι.aS id) (ι.sh id+off) (ao ι vs))/\lQ w (ι.aS id) (ι.sh id+off) vs.length:=by
 obtain⟨C,fz,h1,h2,h3,h4,h5⟩:=hc.obj _ _ ho hlv;obtain⟨l0,hl0,hlen,_⟩:=h4 _ hq;rw[hl]at hl0;cases hl0;have hroom:=vT hq hr hlen;have hkap:n*es<=ι.kS id*es:=zae _ h3
 have hsep:∀i o,i≠id->hp'.get i=some o->own hp' o->ι.aS i≠ι.aS id:=by
  intro i o hne h ho' e;obtain⟨g1,g2,g3⟩:=hC i o hne h ho';obtain⟨f',h6,h7⟩:=hc.sep i id o _ hne g1 ho g2 hlv e;cases h7;exact g3 h6
 refine⟨⟨eN _ _ _ _ (hc.base _ _ ho hlv) hc.below,fun k hk=>by rw[iI];exact hc.room k hk,?_,?_,?_,?_⟩,kT h1 (by omega) h5⟩
 ·intro i o h;by_cases hi:i=id
  ·subst hi;rw[hA]at h;cases h;intro _;refine⟨_,fz,de _ _ _ _ _ _ _ h1,by rw[bp];exact h2,h3,?_,by rw[bp];exact h5⟩;exact rX h4 hq hl hr (by omega)
  ·rcases hB i o hi h with g|⟨e,s,rfl⟩
   ·refine (hc.obj _ _ g).bE (fun ho'=>(hC i o hi h ho').2.1) (fun ho'=>gM _ _ _ _ _ (hsep i o hi h ho'))
   ·trivial
 ·intro i o h ho';by_cases hi:i=id
  ·subst hi;exact hc.base _ _ ho hlv
  ·obtain⟨g1,g2,_⟩:=hC i o hi h ho';exact hc.base _ _ g1 g2
 ·intro i i' o o' hne h h' ho1 ho2 e;by_cases hi:i=id
  ·subst hi;exact absurd e.symm (hsep i' o' (fun x=>hne x.symm) h' ho2)
  ·by_cases hi':i'=id
   ·subst hi';exact absurd e (hsep i o hi h ho1)
   ·obtain⟨g1,g2,_⟩:=hC i o hi h ho1;obtain⟨g1',g2',_⟩:=hC i' o' hi' h' ho2;exact hc.sep _ _ _ _ hne g1 g1' g2 g2' e
 ·intro i i' f1 e es' n' el' c' f2 e' tp' es'' n'' el'' c'' hne h h' hl1 hl2;by_cases hi:i=id
  ·subst hi;rw[hA]at h;cases h;obtain⟨_,_,g3⟩:=hC i' _ (fun x=>hne x.symm) h' hl2;exact⟨fun e=>absurd (congrArg some e.symm) g3,fun e=>absurd e.symm (hsep i' _ (fun x=>hne x.symm) h' hl2)⟩
  ·by_cases hi':i'=id
   ·subst hi';rw[hA]at h';cases h';obtain⟨_,_,g3⟩:=hC i _ hi h hl1;exact⟨fun e=>absurd (congrArg some e) g3,fun e=>absurd e (hsep i _ hi h hl1)⟩
   ·obtain⟨g1,g2,_⟩:=hC i _ hi h hl1;obtain⟨g1',g2',_⟩:=hC i' _ hi' h' hl2;exact hc.e9 _ _ _ _ _ _ _ _ _ _ _ _ _ _ _ hne g1 g1' g2 g2'
theorem xr {hp:Tr AO}{id f:Pz}{ep off es n:Nat}{e9:Bool}{el:TypeId}{c:Tr (List AV)}{l vs:List AV}(ho:hp.get id=some (.cG f ep e9 es n el c))(hf:hp.get f=some (.dJ ep true))
  (hq:off/es<n) (hl:c.get (aX (off/es))=some l) (hr:off%es+vs.length<=l.length):mr hp (hp.set id (.cG f ep e9 es n el (c.set (aX (off/es)) (fh (off%es) vs l)))) id off vs:=by
 have hne:f≠id:=fun e=>by rw[e,ho]at hf;cases hf
 generalize hx:(AO.cG f ep e9 es n el (c.set (aX (off/es)) (fh (off%es) vs l)))=x
 have hfam:∀g e s,(hp.set id x).get g=some (.dJ e s)->hp.get g=some (.dJ e s):=by
  intro g e s h;rcases ah h with ⟨_,h⟩|⟨_,h⟩
  ·rw[<-hx]at h;cases h
  ·exact h
 have hseg:∀i g e tp es' n' el' c',(hp.set id x).get i=some (.cG g e tp es' n' el' c')->∃tp es' n' el' c',hp.get i=some (.cG g e tp es' n' el' c'):=by
  intro i g e tp es' n' el' c' h;rcases ah h with ⟨hi,h⟩|⟨_,h⟩
  ·rw[<-hx]at h;cases h;exact⟨_,_,_,_,_,hi▸ho⟩
  ·exact⟨_,_,_,_,_,h⟩
 refine⟨fun nx hw=>⟨?_,?_,?_,?_⟩,fun B w0 ι w nx hw hc=>?_⟩
 ·intro i o h;rcases ah h with ⟨hi,_⟩|⟨_,h⟩
  ·exact hi▸hw.lt _ _ ho
  ·exact hw.lt _ _ h
 ·intro i g e tp es' n' el' c' h;obtain⟨_,_,_,_,_,h⟩:=hseg _ _ _ _ _ _ _ _ h;exact hw.dJ _ _ _ _ _ _ _ _ h
 ·intro i g e tp es' n' el' c' e' s h h';obtain⟨_,_,_,_,_,h⟩:=hseg _ _ _ _ _ _ _ _ h;exact hw.ep _ _ _ _ _ _ _ _ _ _ h (hfam _ _ _ h')
 ·intro g e i i' tp es' n' el' c' tp' es'' n'' el'' c'' h h1 h2;obtain⟨_,_,_,_,_,h1⟩:=hseg _ _ _ _ _ _ _ _ h1;obtain⟨_,_,_,_,_,h2⟩:=hseg _ _ _ _ _ _ _ _ h2;exact hw.ix _ _ _ _ _ _ _ _ _ _ _ _ _ _ (hfam _ _ _ h) h1 h2
 ·refine pY (ep':=ep) ho ⟨_,hf⟩ hq hl hr (by rw[Tr.br,hx]) (fun i o hi h=>.inl (by rwa[Tr.cI hi]at h)) (fun i o hi h ho'=>?_) hc;rw[Tr.cI hi]at h;cases o with
  |arr=>exact⟨h,trivial,fun e=>by cases e⟩
  |map=>exact⟨h,trivial,fun e=>by cases e⟩
  |iter=>exact⟨h,trivial,fun e=>by cases e⟩
  |loop=>exact⟨h,trivial,fun e=>by cases e⟩
  |fa=>exact⟨h,trivial,fun e=>by cases e⟩
  |gone=>exact⟨h,trivial,fun e=>by cases e⟩
  |dJ=>exact ho'.elim
  |cG g e tp es' n' el' c' =>
   obtain⟨s,hs⟩:=ho';have hs:=hfam _ _ _ hs;refine⟨h,⟨s,hs⟩,fun e'=>hi ?_⟩;cases e';rw[hf]at hs;cases hs;exact hw.ix _ _ _ _ _ _ _ _ _ _ _ _ _ _ hf h ho
theorem xt {hp:Tr AO}{id f:Pz}{ep off es n:Nat}{e9 s0:Bool}{el:TypeId}{c:Tr (List AV)}{l vs:List AV}(ho:hp.get id=some (.cG f ep e9 es n el c))(hf:hp.get f=some (.dJ ep s0))
  (hq:off/es<n) (hl:c.get (aX (off/es))=some l) (hr:off%es+vs.length<=l.length) :
  mr hp ((hp.set f (.dJ (ep+1) true)).set id (.cG f (ep+1) e9 es n el (c.set (aX (off/es)) (fh (off%es) vs l)))) id off vs:=by
 have hne:f≠id:=fun e=>by rw[e,ho]at hf;cases hf
 generalize hx:(AO.cG f (ep+1) e9 es n el (c.set (aX (off/es)) (fh (off%es) vs l)))=x
 have hget:∀i o,((hp.set f (.dJ (ep+1) true)).set id x).get i=some o->(i=id/\x=o)∨(i≠id/\i=f/\o=.dJ (ep+1) true)∨(i≠id/\i≠f/\hp.get i=some o):=by
  intro i o h;rcases ah h with ⟨hi,h⟩|⟨hi,h⟩
  ·exact .inl ⟨hi,h⟩
  ·rcases ah h with ⟨hi',h⟩|⟨hi',h⟩
   ·exact .inr (.inl ⟨hi,hi',h.symm⟩)
   ·exact .inr (.inr ⟨hi,hi',h⟩)
 refine⟨fun nx hw=>⟨?_,?_,?_,?_⟩,fun B w0 ι w nx hw hc=>?_⟩
 ·intro i o h;rcases hget i o h with ⟨hi,_⟩|⟨_,hi,_⟩|⟨_,_,h⟩
  ·exact hi▸hw.lt _ _ ho
  ·exact hi▸hw.lt _ _ hf
  ·exact hw.lt _ _ h
 ·intro i g e tp es' n' el' c' h;rcases hget i _ h with ⟨hi,h⟩|⟨_,hi,h⟩|⟨_,_,h⟩
  ·rw[<-hx]at h;cases h;exact hw.dJ _ _ _ _ _ _ _ _ ho
  ·cases h
  ·exact hw.dJ _ _ _ _ _ _ _ _ h
 ·intro i g e tp es' n' el' c' e' s h h';rcases hget g _ h' with ⟨_,h'⟩|⟨_,hg,h'⟩|⟨_,hg,h'⟩
  ·rw[<-hx]at h';cases h'
  ·cases h';rcases hget i _ h with ⟨hi,h⟩|⟨_,hi,h⟩|⟨_,_,h⟩
   ·rw[<-hx]at h;cases h;exact zad _
   ·cases h
   ·exact Nat.le_succ_of_le (hw.ep _ _ _ _ _ _ _ _ _ _ h (hg▸hf))
  ·rcases hget i _ h with ⟨hi,h⟩|⟨_,hi,h⟩|⟨_,_,h⟩
   ·rw[<-hx]at h;cases h;exact absurd rfl hg
   ·cases h
   ·exact hw.ep _ _ _ _ _ _ _ _ _ _ h h'
 ·intro g e i i' tp es' n' el' c' tp' es'' n'' el'' c'' h h1 h2;rcases hget g _ h with ⟨_,h⟩|⟨_,hg,h⟩|⟨_,hg,h⟩
  ·rw[<-hx]at h;cases h
  ·cases h
   have key:∀j tp es' n' el' c',((hp.set f (.dJ (ep+1) true)).set id x).get j=some (.cG g (ep+1) tp es' n' el' c')->j=id:=by
    intro j tp es' n' el' c' h;rcases hget j _ h with ⟨hi,h⟩|⟨_,hi,h⟩|⟨_,_,h⟩
    ·exact hi
    ·cases h
    ·have:=hw.ep _ _ _ _ _ _ _ _ _ _ h (hg▸hf);omega
   rw[key _ _ _ _ _ _ h1,key _ _ _ _ _ _ h2]
  ·rcases hget i _ h1 with ⟨_,h1⟩|⟨_,_,h1⟩|⟨_,_,h1⟩
   ·rw[<-hx]at h1;cases h1;exact absurd rfl hg
   ·cases h1
   ·rcases hget i' _ h2 with ⟨_,h2⟩|⟨_,_,h2⟩|⟨_,_,h2⟩
    ·rw[<-hx]at h2;cases h2;exact absurd rfl hg
    ·cases h2
    ·exact hw.ix _ _ _ _ _ _ _ _ _ _ _ _ _ _ h h1 h2
 ·have hff:((hp.set f (.dJ (ep+1) true)).set id x).get f=some (.dJ (ep+1) true):=by rw[Tr.cI hne,Tr.br]
  refine pY (ep':=ep+1) ho ⟨_,hf⟩ hq hl hr (by rw[Tr.br,hx]) (fun i o hi h=>?_) (fun i o hi h ho'=>?_) hc
  ·rcases hget i o h with ⟨h1,_⟩|⟨_,_,h1⟩|⟨_,_,h1⟩
   ·exact absurd h1 hi
   ·exact .inr ⟨_,_,h1⟩
   ·exact .inl h1
  ·rcases hget i o h with ⟨h1,_⟩|⟨_,_,h1⟩|⟨_,hif,h1⟩
   ·exact absurd h1 hi
   ·rw[h1]at ho';exact ho'.elim
   ·cases o with
    |arr=>exact⟨h1,trivial,fun e=>by cases e⟩
    |map=>exact⟨h1,trivial,fun e=>by cases e⟩
    |iter=>exact⟨h1,trivial,fun e=>by cases e⟩
    |loop=>exact⟨h1,trivial,fun e=>by cases e⟩
    |fa=>exact⟨h1,trivial,fun e=>by cases e⟩
    |gone=>exact⟨h1,trivial,fun e=>by cases e⟩
    |dJ=>exact ho'.elim
    |cG g e tp es' n' el' c' =>
     obtain⟨s,hs⟩:=ho';by_cases hg:g=f
     ·subst hg;rw[hff]at hs;cases hs;have:=hw.ep _ _ _ _ _ _ _ _ _ _ h1 hf;omega
     ·refine⟨h1,⟨s,?_⟩,fun e'=>hg (Option.some.inj e')⟩;rcases hget g _ hs with ⟨_,h3⟩|⟨_,h3,_⟩|⟨_,_,h3⟩
      ·rw[<-hx]at h3;cases h3
      ·exact absurd h3 hg
      ·exact h3
theorem kI {hp:Tr AO}{id:Pz}{off:Nat}{vs:List AV}{k:Tr AO->Rs}(h:jD hp id off vs k=.ok):∃hp',k hp'=.ok/\flat vs=true/\mr hp hp' id off vs:=by
 obtain⟨hfl,h⟩:=aJ h;obtain⟨o,ho,h⟩:=dt h;cases o with
 |arr es n el c =>
  obtain⟨l,hq,hl,h⟩:=pW h;obtain⟨hr,h⟩:=oK _ h;rw[Tr.cz,Tr.cz]at h;exact⟨_,h,hfl,Ks ho hq hl hr⟩
 |cG f ep e9 es n el c =>
  obtain⟨ix,hf,h⟩:=pV h;obtain⟨l,hq,hl,h⟩:=pW h;obtain⟨hr,h⟩:=oK _ h;simp only[Tr.cz,aG]at h;rcases bQ h with ⟨rfl,h⟩|⟨rfl,h⟩
  ·exact⟨_,h,hfl,xr ho hf hq hl hr⟩
  ·exact⟨_,h,hfl,xt ho hf hq hl hr⟩
 |dJ=>cases h
 |map=>cases h
 |iter=>cases h
 |loop=>cases h
 |fa=>cases h
 |gone=>cases h
end Go.aI
namespace Go.aI
open Go.RowKit
theorem ck {hp:Tr AO}{nx:Pz}{x o:AO}(hw:Wf hp nx)(hx:∀e s,x≠.dJ e s)(h:own (hp.set nx x) o):own hp o:=by
 cases o with
 |cG f e tp es n el c =>
  obtain⟨s,hs⟩:=h;rcases ah hs with ⟨_,h'⟩|⟨_,h'⟩
  ·exact absurd h' (hx e s)
  ·exact⟨s,h'⟩
 |_=>exact h
theorem pZ {B:Nat->Prop}{w0 w:World}{ι:En}{hp:Tr AO}{nx:Pz}{o:AO}{x:Obj}(hw:Wf hp nx)(hc:Core B w0 ι hp w)(hb:ι.aS nx=w.heap.size)(ho:iu o=none)(hx:∀e s,o≠.dJ e s)
  (hob:ji ι (hp.set nx o) (w.alloc x) nx o):Core B w0 ι (hp.set nx o) (w.alloc x):=by
 have hlt:∀i p,hp.get i=some p->own hp p->ι.aS i<w.heap.size:=by
  intro i p hi hp';have:=hc.obj _ _ hi;cases p with
  |arr es n el c=>obtain⟨C,fz,h1,_⟩:=this;exact (Array.getElem?_eq_some_iff.1 h1).1
  |cG f e tp es n el c=>obtain⟨C,fz,h1,_⟩:=this hp';exact (Array.getElem?_eq_some_iff.1 h1).1
  |dJ=>exact hp'.elim
  |map es c=>obtain⟨E,h1,_⟩:=this;exact (Array.getElem?_eq_some_iff.1 h1).1
  |iter=>exact (Array.getElem?_eq_some_iff.1 this.1).1
  |loop=>obtain⟨_,_,_,h1,_⟩:=this;exact (Array.getElem?_eq_some_iff.1 h1).1
  |fa=>exact (Array.getElem?_eq_some_iff.1 this).1
  |gone=>exact DE this
 have hne:∀i p,hp.get i=some p->i≠nx:=fun i p hi e=>by have:=hw.lt _ _ hi;rw[e]at this;omega
 refine⟨hc.below.alloc hc.room x,fun k hk=>by have:=hc.room k hk;simp;omega,?_,?_,?_,?_⟩
 ·intro i p hi;rcases ah hi with ⟨rfl,rfl⟩|⟨hi',hi⟩
  ·exact hob
  ·exact (hc.obj _ _ hi).bE (ck hw hx) fun ho'=>Below.heap_alloc _ _ _ (hlt _ _ hi (ck hw hx ho'))
 ·intro i p hi ho';rcases ah hi with ⟨rfl,_⟩|⟨hi',hi⟩
  ·rw[hb];exact fun h=>by have:=hc.room _ h;omega
  ·exact hc.base _ _ hi (ck hw hx ho')
 ·intro i i' p p' hii hi hi' ho1 ho2 e;rcases ah hi with ⟨h1,h2⟩|⟨h1,g1⟩
  ·rcases ah hi' with ⟨h3,_⟩|⟨h3,g3⟩
   ·exact absurd (h1.trans h3.symm) hii
   ·have:=hlt _ _ g3 (ck hw hx ho2);rw[h1,hb]at e;omega
  ·rcases ah hi' with ⟨h3,_⟩|⟨h3,g3⟩
   ·have:=hlt _ _ g1 (ck hw hx ho1);rw[h3,hb]at e;omega
   ·exact hc.sep _ _ _ _ hii g1 g3 (ck hw hx ho1) (ck hw hx ho2) e
 ·intro i i' f e es n el c f' e' tp' es' n' el' c' hii hi hi' hl hl';rcases ah hi with ⟨_,h2⟩|⟨h1,g1⟩
  ·rw[h2]at ho;cases ho
  ·rcases ah hi' with ⟨_,h4⟩|⟨h3,g3⟩
   ·rw[h4]at ho;cases ho
   ·have q1:own hp (.cG f e true es n el c):=ck hw hx hl;have q2:own hp (.cG f' e' tp' es' n' el' c'):=ck hw hx hl';exact hc.e9 _ _ _ _ _ _ _ _ _ _ _ _ _ _ _ hii g1 g3 q1 q2
theorem oN {hp:Tr AO}{nx:Pz}{o:AO}(hw:Wf hp nx)(ho:iu o=none)(hx:∀e s,o≠.dJ e s):Wf (hp.set nx o) nx.succ:=by
 refine⟨?_,?_,?_,?_⟩
 ·intro i p h;rw[Pz.cw];rcases ah h with ⟨rfl,_⟩|⟨_,h⟩
  ·omega
  ·have:=hw.lt _ _ h;omega
 ·intro i f e tp es n el c h;rw[Pz.cw];rcases ah h with ⟨_,h⟩|⟨_,h⟩
  ·rw[h]at ho;cases ho
  ·have:=hw.dJ _ _ _ _ _ _ _ _ h;omega
 ·intro i f e tp es n el c e' s h h';rcases ah h with ⟨_,h⟩|⟨_,h⟩
  ·rw[h]at ho;cases ho
  ·rcases ah h' with ⟨_,h'⟩|⟨_,h'⟩
   ·exact absurd h' (hx _ _)
   ·exact hw.ep _ _ _ _ _ _ _ _ _ _ h h'
 ·intro f e i i' tp es n el c tp' es' n' el' c' h h1 h2;rcases ah h with ⟨_,h⟩|⟨_,h⟩
  ·exact absurd h (hx _ _)
  ·rcases ah h1 with ⟨_,h1⟩|⟨_,h1⟩
   ·rw[h1]at ho;cases ho
   ·rcases ah h2 with ⟨_,h2⟩|⟨_,h2⟩
    ·rw[h2]at ho;cases ho
    ·exact hw.ix _ _ _ _ _ _ _ _ _ _ _ _ _ _ h h1 h2
theorem Hm {B:Nat->Prop}{w0 w:World}{ι:En}{hp:Tr AO}{nx:Pz}{ep:Nat}{s:Bool}(hw:Wf hp nx)(hc:Core B w0 ι hp w):Core B w0 ι (hp.set nx (.dJ ep s)) w:=by
 have hown:∀i o,hp.get i=some o->own (hp.set nx (.dJ ep s)) o->own hp o:=by
  intro i o hi h;cases o with
  |cG f e tp es n el c =>
   obtain⟨s',hs⟩:=h;rcases ah hs with ⟨h1,_⟩|⟨_,h'⟩
   ·have:=hw.dJ _ _ _ _ _ _ _ _ hi;rw[h1]at this;omega
   ·exact⟨s',h'⟩
  |_=>exact h
 refine⟨hc.below,hc.room,?_,?_,?_,?_⟩
 ·intro i o h;rcases ah h with ⟨_,rfl⟩|⟨_,h⟩
  ·trivial
  ·exact (hc.obj _ _ h).bE (hown _ _ h) fun _=>rfl
 ·intro i o h ho;rcases ah h with ⟨_,rfl⟩|⟨_,h⟩
  ·exact ho.elim
  ·exact hc.base _ _ h (hown _ _ h ho)
 ·intro i i' o o' hne h h' ho ho' e;rcases ah h with ⟨_,rfl⟩|⟨_,h⟩
  ·exact ho.elim
  ·rcases ah h' with ⟨_,rfl⟩|⟨_,h'⟩
   ·exact ho'.elim
   ·exact hc.sep _ _ _ _ hne h h' (hown _ _ h ho) (hown _ _ h' ho') e
 ·intro i i' f e es n el c f' e' tp' es' n' el' c' hne h h' hl hl';rcases ah h with ⟨_,h⟩|⟨_,h⟩
  ·cases h
  ·rcases ah h' with ⟨_,h'⟩|⟨_,h'⟩
   ·cases h'
   ·exact hc.e9 _ _ _ _ _ _ _ _ _ _ _ _ _ _ _ hne h h' (hown _ _ h hl) (hown _ _ h' hl')
theorem Hn {hp:Tr AO}{nx:Pz}{ep:Nat}{s:Bool}(hw:Wf hp nx):Wf (hp.set nx (.dJ ep s)) nx.succ:=by
 refine⟨?_,?_,?_,?_⟩
 ·intro i p h;rw[Pz.cw];rcases ah h with ⟨rfl,_⟩|⟨_,h⟩
  ·omega
  ·have:=hw.lt _ _ h;omega
 ·intro i f e tp es n el c h;rw[Pz.cw];rcases ah h with ⟨_,h⟩|⟨_,h⟩
  ·cases h
  ·have:=hw.dJ _ _ _ _ _ _ _ _ h;omega
 ·intro i f e tp es n el c e' s' h h';rcases ah h with ⟨_,h⟩|⟨_,h⟩
  ·cases h
  ·rcases ah h' with ⟨h1,_⟩|⟨_,h'⟩
   ·have:=hw.dJ _ _ _ _ _ _ _ _ h;rw[h1]at this;omega
   ·exact hw.ep _ _ _ _ _ _ _ _ _ _ h h'
 ·intro f e i i' tp es n el c tp' es' n' el' c' h h1 h2;rcases ah h1 with ⟨_,h1⟩|⟨_,h1⟩
  ·cases h1
  ·rcases ah h2 with ⟨_,h2⟩|⟨_,h2⟩
   ·cases h2
   ·rcases ah h with ⟨h3,_⟩|⟨_,h⟩
    ·have:=hw.dJ _ _ _ _ _ _ _ _ h1;rw[h3]at this;omega
    ·exact hw.ix _ _ _ _ _ _ _ _ _ _ _ _ _ _ h h1 h2
theorem lR {B:Nat->Prop}{w0 w w':World}{ι:En}{hp:Tr AO}{nx f:Pz}{ep es m:Nat}{tp:Bool}{el:TypeId}{c:Tr (List AV)}(hw:Wf hp nx)(hc:Core B w0 ι hp w)
  (hob:ji ι (hp.set nx (.cG f ep tp es m el c)) w' nx (.cG f ep tp es m el c)) (hkeep:∀i o,hp.get i=some o->own hp o->ji ι hp w' i o) (hbelow:Kept B w0 w') (hroom:∀k,B k->k<w'.heap.size) (hbase:¬B (ι.aS nx))
  (hblk:∀i o,hp.get i=some o->own hp o->ι.aS i=ι.aS nx->iu o=some f)
  (ht1:tp=true->∀i f' e' tp' es' n' el' c',hp.get i=some (.cG f' e' tp' es' n' el' c')->live hp f' e'->(f=f'->tp'=false)/\(ι.aS nx=ι.aS i->m<ι.kS nx->ι.sh i+n'*es'<=ι.sh nx+m*es))
  (ht2:∀i f' e' es' n' el' c',hp.get i=some (.cG f' e' true es' n' el' c')->live hp f' e'->(f'=f->tp=false)/\(ι.aS i=ι.aS nx->n'<ι.kS i->ι.sh nx+m*es<=ι.sh i+n'*es')) :
  Core B w0 ι (hp.set nx (.cG f ep tp es m el c)) w':=by
 have hx:∀e s,AO.cG f ep tp es m el c≠.dJ e s:=fun e s h=>by cases h
 have hne:∀i p,hp.get i=some p->i≠nx:=fun i p hi e=>by have:=hw.lt _ _ hi;rw[e]at this;omega
 refine⟨hbelow,hroom,?_,?_,?_,?_⟩
 ·intro i p hi;rcases ah hi with ⟨rfl,rfl⟩|⟨hi',hi⟩
  ·exact hob
  ·cases p with
   |dJ=>trivial
   |arr=>exact (hkeep _ _ hi trivial).bE (fun h=>h) (fun _=>rfl)
   |map=>exact (hkeep _ _ hi trivial).bE (fun h=>h) (fun _=>rfl)
   |iter=>exact (hkeep _ _ hi trivial).bE (fun h=>h) (fun _=>rfl)
   |loop=>exact (hkeep _ _ hi trivial).bE (fun h=>h) (fun _=>rfl)
   |fa=>exact (hkeep _ _ hi trivial).bE (fun h=>h) (fun _=>rfl)
   |gone=>exact (hkeep _ _ hi trivial).bE (fun h=>h) (fun _=>rfl)
   |cG f' e' tp' es' n' el' c' =>
    intro hl;have hl':live hp f' e':=ck (o:=.cG f' e' tp' es' n' el' c') hw hx hl;exact hkeep _ _ hi hl' hl'
 ·intro i p hi ho';rcases ah hi with ⟨rfl,_⟩|⟨hi',hi⟩
  ·exact hbase
  ·exact hc.base _ _ hi (ck hw hx ho')
 ·intro i i' p p' hii hi hi' ho1 ho2 e;rcases ah hi with ⟨h1,h2⟩|⟨h1,g1⟩
  ·rcases ah hi' with ⟨h3,_⟩|⟨h3,g3⟩
   ·exact absurd (h1.trans h3.symm) hii
   ·rw[h1]at e;exact⟨f,by rw[<-h2];rfl,hblk _ _ g3 (ck hw hx ho2) e.symm⟩
  ·rcases ah hi' with ⟨h3,h4⟩|⟨h3,g3⟩
   ·rw[h3]at e;exact⟨f,hblk _ _ g1 (ck hw hx ho1) e,by rw[<-h4];rfl⟩
   ·exact hc.sep _ _ _ _ hii g1 g3 (ck hw hx ho1) (ck hw hx ho2) e
 ·intro i i' f1 e1 es1 n1 el1 c1 f2 e2 tp2 es2 n2 el2 c2 hii hi hi' hl hl';have q1:live hp f1 e1:=ck (o:=.cG f1 e1 true es1 n1 el1 c1) hw hx hl;have q2:live hp f2 e2:=ck (o:=.cG f2 e2 tp2 es2 n2 el2 c2) hw hx hl';rcases ah hi with ⟨h1,h2⟩|⟨h1,g1⟩
  ·rcases ah hi' with ⟨h3,_⟩|⟨h3,g3⟩
   ·exact absurd (h1.trans h3.symm) hii
   ·cases h2;rw[h1];exact ht1 rfl _ _ _ _ _ _ _ _ g3 q2
  ·rcases ah hi' with ⟨h3,h4⟩|⟨h3,g3⟩
   ·cases h4;rw[h3];exact ht2 _ _ _ _ _ _ _ g1 q1
   ·exact hc.e9 _ _ _ _ _ _ _ _ _ _ _ _ _ _ _ hii g1 g3 q1 q2
theorem zC {hp:Tr AO}{nx f:Pz}{ep es m:Nat}{tp s:Bool}{el:TypeId}{c:Tr (List AV)}(hw:Wf hp nx)(hf:hp.get f=some (.dJ ep s))(hs:s=true->∀i e tp es n el c,hp.get i≠some (.cG f e tp es n el c)) :
  Wf (hp.set nx (.cG f ep tp es m el c)) nx.succ:=by
 have hflt:=hw.lt _ _ hf
 have hfam:∀g e s',(hp.set nx (.cG f ep tp es m el c)).get g=some (.dJ e s')->hp.get g=some (.dJ e s'):=by
  intro g e s' h;rcases ah h with ⟨_,h⟩|⟨_,h⟩
  ·cases h
  ·exact h
 refine⟨?_,?_,?_,?_⟩
 ·intro i p h;rw[Pz.cw];rcases ah h with ⟨rfl,_⟩|⟨_,h⟩
  ·omega
  ·have:=hw.lt _ _ h;omega
 ·intro i g e tp es n el c h;rw[Pz.cw];rcases ah h with ⟨_,h⟩|⟨_,h⟩
  ·cases h;omega
  ·have:=hw.dJ _ _ _ _ _ _ _ _ h;omega
 ·intro i g e tp es n el c e' s' h h';have h':=hfam _ _ _ h';rcases ah h with ⟨_,h⟩|⟨_,h⟩
  ·cases h;rw[hf]at h';cases h';exact zad _
  ·exact hw.ep _ _ _ _ _ _ _ _ _ _ h h'
 ·intro g e i i' tp' es' n' el' c' tp'' es'' n'' el'' c'' h h1 h2;have h:=hfam _ _ _ h;rcases ah h1 with ⟨a1,h1⟩|⟨a1,h1⟩
  ·cases h1;rw[hf]at h;cases h;rcases ah h2 with ⟨a2,_⟩|⟨_,h2⟩
   ·exact a1.trans a2.symm
   ·exact absurd h2 (hs rfl _ _ _ _ _ _ _)
  ·rcases ah h2 with ⟨a2,h2⟩|⟨a2,h2⟩
   ·cases h2;rw[hf]at h;cases h;exact absurd h1 (hs rfl _ _ _ _ _ _ _)
   ·exact hw.ix _ _ _ _ _ _ _ _ _ _ _ _ _ _ h h1 h2
end Go.aI
namespace Go.aI
open Go.RowKit
def eG (hp:Tr AO)(id f:Pz)(ep es n:Nat)(el:TypeId)(c:Tr (List AV)):Tr AO:=(hp.set f (.dJ ep false)).set id (.cG f ep false es n el c)
theorem cg {hp:Tr AO}{id f:Pz}{ep es n:Nat}{el:TypeId}{c:Tr (List AV)}{i:Pz}{o:AO}(h:(eG hp id f ep es n el c).get i=some o) :
  (i=id/\o=.cG f ep false es n el c)∨(i≠id/\i=f/\o=.dJ ep false)∨(i≠id/\i≠f/\hp.get i=some o):=by
 rcases ah h with ⟨hi,h⟩|⟨hi,h⟩
 ·exact .inl ⟨hi,h.symm⟩
 ·rcases ah h with ⟨hi',h⟩|⟨hi',h⟩
  ·exact .inr (.inl ⟨hi,hi',h.symm⟩)
  ·exact .inr (.inr ⟨hi,hi',h⟩)
section
variable {hp:Tr AO}{nx id f:Pz}{ep ep' es n n0:Nat}{e9 s0:Bool}{el:TypeId}{c:Tr (List AV)}
theorem iJ (hw:Wf hp nx)(ho:hp.get id=some (.cG f ep e9 es n el c))(hf:hp.get f=some (.dJ ep s0))(hep:ep'=ep∨ep'=ep+1){i:Pz}{o:AO}(hi:i≠id)(hg:hp.get i=some o)
  (h:own (eG hp id f ep' es n0 el c) o):own hp o/\(iu o=some f->ep'=ep):=by
 cases o with
 |arr=>exact⟨trivial,fun e=>by cases e⟩
 |map=>exact⟨trivial,fun e=>by cases e⟩
 |iter=>exact⟨trivial,fun e=>by cases e⟩
 |loop=>exact⟨trivial,fun e=>by cases e⟩
 |fa=>exact⟨trivial,fun e=>by cases e⟩
 |gone=>exact⟨trivial,fun e=>by cases e⟩
 |dJ=>exact h.elim
 |cG g e tp es' n' el' c' =>
  obtain⟨s,hs⟩:=h;rcases cg hs with ⟨_,h1⟩|⟨_,h1,h2⟩|⟨_,h1,h2⟩
  ·cases h1
  ·cases h2;have h3:=hw.ep _ _ _ _ _ _ _ _ _ _ hg (h1▸hf);have h4:ep'=ep:=by omega
   subst h4;exact⟨⟨s0,h1▸hf⟩,fun _=>rfl⟩
  ·exact⟨⟨s,h2⟩,fun e=>absurd (Option.some.inj e) h1⟩
theorem xu (hw:Wf hp nx)(ho:hp.get id=some (.cG f ep e9 es n el c))(hf:hp.get f=some (.dJ ep s0))(hep:ep'=ep∨ep'=ep+1):Wf (eG hp id f ep' es n0 el c) nx:=by
 refine⟨?_,?_,?_,?_⟩
 ·intro i o h;rcases cg h with ⟨hi,_⟩|⟨_,hi,_⟩|⟨_,_,h⟩
  ·exact hi▸hw.lt _ _ ho
  ·exact hi▸hw.lt _ _ hf
  ·exact hw.lt _ _ h
 ·intro i g e tp es' n' el' c' h;rcases cg h with ⟨_,h⟩|⟨_,_,h⟩|⟨_,_,h⟩
  ·cases h;exact hw.dJ _ _ _ _ _ _ _ _ ho
  ·cases h
  ·exact hw.dJ _ _ _ _ _ _ _ _ h
 ·intro i g e tp es' n' el' c' e' s h h';rcases cg h' with ⟨_,h'⟩|⟨_,hg,h'⟩|⟨_,hg,h'⟩
  ·cases h'
  ·cases h';rcases cg h with ⟨_,h⟩|⟨_,_,h⟩|⟨_,_,h⟩
   ·cases h;exact zad _
   ·cases h
   ·have:=hw.ep _ _ _ _ _ _ _ _ _ _ h (hg▸hf);omega
  ·rcases cg h with ⟨_,h⟩|⟨_,_,h⟩|⟨_,_,h⟩
   ·cases h;exact absurd rfl hg
   ·cases h
   ·exact hw.ep _ _ _ _ _ _ _ _ _ _ h h'
 ·intro g e i i' tp es' n' el' c' tp' es'' n'' el'' c'' h h1 h2;rcases cg h with ⟨_,h⟩|⟨_,_,h⟩|⟨_,hg,h⟩
  ·cases h
  ·cases h
  ·rcases cg h1 with ⟨_,h1⟩|⟨_,_,h1⟩|⟨_,_,h1⟩
   ·cases h1;exact absurd rfl hg
   ·cases h1
   ·rcases cg h2 with ⟨_,h2⟩|⟨_,_,h2⟩|⟨_,_,h2⟩
    ·cases h2;exact absurd rfl hg
    ·cases h2
    ·exact hw.ix _ _ _ _ _ _ _ _ _ _ _ _ _ _ h h1 h2
theorem zD {ι:En}{C:Array Value}{base:Nat}(h:eK ι C base es n c)(hn:n0<=n):eK ι C base es n0 c:=fun q hq=>h q (by omega)
theorem tJ (hw:Wf hp nx)(ho:hp.get id=some (.cG f ep e9 es n el c))(hf:hp.get f=some (.dJ ep s0))(hep:ep'=ep∨ep'=ep+1)(hn0:n0<=n){B:Nat->Prop}{w0 w:World}{ι:En}(hc:Core B w0 ι hp w) :
  Core B w0 ι (eG hp id f ep' es n0 el c) w:=by
 have hlv:live hp f ep:=⟨_,hf⟩;refine⟨hc.below,hc.room,?_,?_,?_,?_⟩
 ·intro i o h;rcases cg h with ⟨hi,h1⟩|⟨_,_,h1⟩|⟨hi,_,h1⟩
  ·rw[hi,h1];intro _;obtain⟨C,fz,g1,g2,g3,g4,g5⟩:=hc.obj _ _ ho hlv;exact⟨C,fz,g1,g2,by omega,zD g4 hn0,g5⟩
  ·rw[h1];trivial
  ·exact (hc.obj _ _ h1).bE (fun h2=>(iJ hw ho hf hep hi h1 h2).1) fun _=>rfl
 ·intro i o h h2;rcases cg h with ⟨hi,_⟩|⟨_,_,h1⟩|⟨hi,_,h1⟩
  ·rw[hi];exact hc.base _ _ ho hlv
  ·rw[h1]at h2;exact h2.elim
  ·exact hc.base _ _ h1 (iJ hw ho hf hep hi h1 h2).1
 ·intro i i' o o' hne h h' k k' e;rcases cg h with ⟨hi,h1⟩|⟨_,_,h1⟩|⟨hi,_,h1⟩
  ·rcases cg h' with ⟨hi',_⟩|⟨_,_,h1'⟩|⟨hi',_,h1'⟩
   ·exact absurd (hi.trans hi'.symm) hne
   ·rw[h1']at k';exact k'.elim
   ·obtain⟨g,g1,g2⟩:=hc.sep id i' (.cG f ep e9 es n el c) _ (fun x=>hi' x.symm) ho h1' hlv (iJ hw ho hf hep hi' h1' k').1 (hi▸e);cases g1;exact⟨f,by rw[h1];rfl,g2⟩
  ·rw[h1]at k;exact k.elim
  ·rcases cg h' with ⟨hi',h1'⟩|⟨_,_,h1'⟩|⟨hi',_,h1'⟩
   ·obtain⟨g,g1,g2⟩:=hc.sep i id _ (.cG f ep e9 es n el c) hi h1 ho (iJ hw ho hf hep hi h1 k).1 hlv (hi'▸e);cases g2;exact⟨f,g1,by rw[h1'];rfl⟩
   ·rw[h1']at k';exact k'.elim
   ·exact hc.sep _ _ _ _ hne h1 h1' (iJ hw ho hf hep hi h1 k).1 (iJ hw ho hf hep hi' h1' k').1 e
 ·intro i i' f1 e1 es1 n1 el1 c1 f2 e2 tp2 es2 n2 el2 c2 hne h h' k k';rcases cg h with ⟨_,h1⟩|⟨_,_,h1⟩|⟨hi,_,h1⟩
  ·cases h1
  ·cases h1
  ·have q1:=(iJ hw ho hf hep hi h1 k).1;rcases cg h' with ⟨hi',h1'⟩|⟨_,_,h1'⟩|⟨hi',_,h1'⟩
   ·cases h1';obtain⟨t1,t2⟩:=hc.e9 i id _ _ _ _ _ _ _ _ _ _ _ _ _ hi h1 ho q1 hlv;refine⟨fun _=>rfl,fun e hlt=>?_⟩;have:=t2 (hi'▸e) hlt;have:=zae es hn0;rw[hi'];omega
   ·cases h1'
   ·exact hc.e9 _ _ _ _ _ _ _ _ _ _ _ _ _ _ _ hne h1 h1' q1 (iJ hw ho hf hep hi' h1' k').1
theorem kU (hw:Wf hp nx)(ho:hp.get id=some (.cG f ep e9 es n el c))(hf:hp.get f=some (.dJ ep s0))(hep:(ep'=ep/\e9=true/\n0=n)∨ep'=ep+1){B:Nat->Prop}{w0 w:World}{ι:En}(hc:Core B w0 ι hp w)
  {i f':Pz} {e' es' n':Nat} {tp':Bool} {el':TypeId} {c':Tr (List AV)} (hi:i≠id) (h:(eG hp id f ep' es n0 el c).get i=some (.cG f' e' tp' es' n' el' c')) (hl:live (eG hp id f ep' es n0 el c) f' e') (hff:f'=f) :
  tp'=false/\(ι.aS i=ι.aS id->n0<ι.kS id->ι.sh i+n'*es'<=ι.sh id+n0*es):=by
 rcases cg h with ⟨h1,_⟩|⟨_,_,h1⟩|⟨_,_,h1⟩
 ·exact absurd h1 hi
 ·cases h1
 ·have hh:=iJ (o:=.cG f' e' tp' es' n' el' c') hw ho hf (hep.imp (·.1) (fun x=>x)) hi h1 hl;have he:=hh.2 (congrArg some hff);rcases hep with ⟨_,ht,hn⟩|h2
  ·subst ht;subst hn;obtain⟨t1,t2⟩:=hc.e9 id i _ _ _ _ _ _ _ _ _ _ _ _ _ (fun x=>hi x.symm) ho h1 ⟨_,hf⟩ hh.1;exact⟨t1 hff.symm,fun e hlt=>t2 e.symm hlt⟩
  ·omega
end
end Go.aI
namespace Go.aI
open Go.RowKit
noncomputable def lay:List (List AV)->Nat->Tr (List AV)->Tr (List AV)
 | [],_,c=>c
 |l::ls,q,c=>lay ls (q+1) (c.set (aX q) l)
theorem lS:∀(ls:List (List AV))(q:Nat)(c:Tr (List AV))(k:Tr (List AV)->Rs),Fq ls q c k=k (lay ls q c)
 | [],_,_,_=>rfl
 |l::ls,q,c,k=>by
  show (c.c9 (aX q) l fun c=>bj (q+1) fun q=>Fq ls q c k)=_;rw[Tr.cz,aG,lS ls];rfl
theorem xw:∀(ls:List (List AV))(q:Nat)(c:Tr (List AV))(i:Nat),(lay ls q c).get (aX i)=if q<=i/\i<q+ls.length then ls[i-q]? else c.get (aX i)
 | [],q,c,i=>by simp only[lay,zei];rw[if_neg (by omega)]
 |l::ls,q,c,i=>by
  simp only[lay,zbi];rw[xw ls];by_cases h:q+1<=i/\i<q+1+ls.length
  ·rw[if_pos h,if_pos (by omega),show i-q=(i-(q+1))+1 by omega,zbm]
  ·rw[if_neg h];by_cases h2:i=q
   ·subst h2;rw[Tr.br,if_pos (by omega),zdr];rfl
   ·rw[Tr.cI (mR h2),if_neg (by omega)]
def even (es:Nat)(ls:List (List AV)):Prop:=∀l∈ls,l.length=es
theorem df {es:Nat}:∀{ls:List (List AV)},even es ls->ls.flatten.length=ls.length*es
 | [],_=>by simp
 |l::ls,h=>by
  have h1:=h l (zac ..);have h2:=df (es:=es) (ls:=ls) fun x hx=>h x (zaa _ hx);simp only[zcc,zak,zbi,h1,h2,zax];omega
theorem zH {es:Nat}:∀{ls:List (List AV)},even es ls->∀(j r:Nat)(l:List AV),ls[j]?=some l->r<es->ls.flatten[j*es+r]?=l[r]?
 | [],_,j,r,l,h,_=>by simp at h
 |x::ls,h,0,r,l,hl,hr=>by
  have h1:=h x (zac ..);simp only[zbf,Option.some.injEq]at hl;subst hl;rw[zcc,zbw,zaq,zau (by omega)]
 |x::ls,h,j+1,r,l,hl,hr=>by
  have h1:=h x (zac ..);rw[zbm]at hl;have:=zH (es:=es) (ls:=ls) (fun y hy=>h y (zaa _ hy)) j r l hl hr;rw[zcc,zay (by rw[h1,zax];omega),h1,<-this];congr 1;rw[zax];omega
theorem rY {es:Nat}{a b:List (List AV)}(ha:even es a)(hb:even es b):even es (a++b):=fun l hl=>by
 rcases List.mem_append.1 hl with h|h
 ·exact ha l h
 ·exact hb l h
theorem gO {ι:En}{C C':Array Value}{base es n:Nat}{c:Tr (List AV)}{ls:List (List AV)}(h:eK ι C base es n c)(he:even es ls)
  (hold:∀i,i<n*es->C'[base+i]?=C[base+i]?) (hnew:∀i,i<ls.length*es->C'[base+(n*es+i)]?=((ls.flatten)[i]?).map (ak ι)):eK ι C' base es (n+ls.length) (lay ls n c):=by
 intro q hq;by_cases hqn:q<n
 ·obtain⟨l,h1,h2,h3⟩:=h q hqn;refine⟨l,by rw[xw,if_neg (by omega)];exact h1,h2,fun r hr=>?_⟩;have:=zae es (zcd hqn);rw[zax]at this;rw[hold _ (by omega),h3 r hr]
 ·have hlt:q-n<ls.length:=by omega
  have hl:ls[q-n]?=some (ls[q-n]'hlt):=zap hlt;have hlen:(ls[q-n]'hlt).length=es:=he _ (zdb hlt);refine⟨_,by rw[xw,if_pos (by omega)];exact hl,hlen,fun r hr=>?_⟩;have hm:=zae es (zcd hlt);rw[zax]at hm
  have e:q*es+r=n*es+((q-n)*es+r):=by
   have:q=n+(q-n):=by omega
   rw[this,zbh];simp only[zcr];omega
  rw[e,hnew _ (by omega),zH he _ _ _ hl hr]
theorem iQ (ι:En)(C:Array Value)(base es:Nat)(c:Tr (List AV)):eK ι C base es 0 c:=fun q hq=>by omega
theorem gX (sz:Nat)(id:Pz)(hp:Tr AO):∀(n off:Nat)(k:List (List AV)->Rs),jv hp id sz n off k=.ok ->
  ∃ls,k ls=.ok/\ls.length=n/\∀B w0 ι w,Core B w0 ι hp w->even sz ls/\pX ι w id off ls.flatten
 |0,off,k,h=>⟨[],h,rfl,fun B w0 ι w hc=>⟨fun l hl=>by simp at hl,fun i hi=>by simp at hi⟩⟩
 |n+1,off,k,h=>by
  obtain⟨l,h,hl⟩:=lP (k:=fun l=>bj (off+sz) fun off=>jv hp id sz n off fun r=>k (l::r)) h;rw[aG]at h;obtain⟨ls,h,hn,hls⟩:=gX sz id hp n _ _ h;refine⟨l::ls,h,by simp[hn],fun B w0 ι w hc=>?_⟩;obtain⟨h1,h2⟩:=hl B w0 ι w hc;obtain⟨h3,h4⟩:=hls B w0 ι w hc;refine⟨fun x hx=>?_,fun i hi=>?_⟩
  ·rcases List.mem_cons.1 hx with rfl|hx
   ·exact h1
   ·exact h3 x hx
  ·rw[zcc];by_cases hlt:i<l.length
   ·rw[zau hlt];exact h2 i hlt
   ·rw[zcc,zak]at hi;have:=h4 (i-l.length) (by omega);rw[zay (by omega),<-this];congr 2;omega
theorem mw:∀(a b:List Value)(w:World)(k o:Nat),bm w k o (a++b)=bm (bm w k o a) k (o+a.length) b
 | [],b,w,k,o=>by simp[bm]
 |v::a,b,w,k,o=>by
  simp only[zef,bm,zbi];rw[mw a b,show o+1+a.length=o+(a.length+1) by omega]
theorem zI {w:World}{a p:Addr}{v u:Value}(h:(w.setCell a v).cell? p=some u):∃u',w.cell? p=some u':=by
 by_cases hb:p.block=a.block
 ·unfold World.cell? at h ⊢;rw[hb]at h ⊢;simp only[World.setCell,zcm]at h;cases hg:w.heap[a.block]? with
  |none=>rw[hg]at h;simp at h
  |some o =>
   rw[hg]at h;cases o with
   |cells c e fz =>
    simp only[if_true,zbk]at h;cases hs:p.spot.isSome with
    |true=>rw[hs]at h;simp at h
    |false =>
     rw[hs]at h;simp only[zag,if_false]at h ⊢
     have hlt:p.off<c.size:=by
      have:=(Array.getElem?_eq_some_iff.1 h).1;split at this
      ·exact this
      ·simpa using this
     exact⟨c[p.off],zbe hlt⟩
   |_=>simp at h
 ·have:(w.setCell a v).cell? p=w.cell? p:=World.cell?_of_block (Below.heap_setCell w a v _ hb);rw[this]at h;exact⟨u,h⟩
theorem nc (w:World)(a p:Addr)(v:Value):(w.setCell a v).frozen? p=w.frozen? p:=by
 unfold World.frozen?;simp only[World.setCell,zcm];by_cases hb:a.block=p.block
 ·rw[if_pos hb];cases w.heap[p.block]? with
  |none=>rfl
  |some o=>cases o<;>rfl
 ·rw[if_neg hb]
theorem p7:∀(vs:List Value)(w:World)(b o:Nat)(p:Addr)(u:Value),(bm w b o vs).cell? p=some u->∃u',w.cell? p=some u'
 | [],w,b,o,p,u,h=>⟨u,h⟩
 |v::vs,w,b,o,p,u,h=>by
  obtain⟨u',h'⟩:=p7 vs _ b (o+1) p u h;exact zI h'
theorem my:∀(vs:List Value)(w:World)(b o:Nat)(p:Addr),(bm w b o vs).frozen? p=w.frozen? p
 | [],w,b,o,p=>rfl
 |v::vs,w,b,o,p=>by simp only[bm];rw[my vs,nc]
theorem mr.append {hp hp1 hp2:Tr AO}{id:Pz}{off:Nat}{a b:List AV}(h:mr hp hp1 id off a)(h':mr hp1 hp2 id (off+a.length) b):mr hp hp2 id off (a++b):=by
 refine⟨fun nx hw=>h'.1 nx (h.1 nx hw),fun B w0 ι w nx hw hc=>?_⟩;obtain⟨c1,p1⟩:=h.2 B w0 ι w nx hw hc;obtain⟨c2,p2⟩:=h'.2 B w0 ι _ nx (h.1 nx hw) c1;refine⟨by rw[fe,mw,aq,zbq];exact c2,fun i hi=>?_⟩;by_cases hlt:i<a.length
 ·exact p1 i hlt
 ·rw[zak]at hi;obtain⟨⟨u,hu⟩,hf⟩:=p2 (i-a.length) (by omega);rw[show ι.sh id+(off+a.length)+(i-a.length)=ι.sh id+off+i by omega]at hu hf;exact⟨p7 _ _ _ _ _ _ hu,by rw[my]at hf;exact hf⟩
theorem mr.nil (hp:Tr AO)(id:Pz)(off:Nat):mr hp hp id off []:=⟨fun _ h=>h,fun _ _ _ _ _ _ hc=>⟨hc,fun i hi=>by simp at hi⟩⟩
theorem rZ {a b:List AV}(ha:flat a=true)(hb:flat b=true):flat (a++b)=true:=by
 induction a with
 |nil=>exact hb
 |cons v a ih =>
  obtain⟨h1,h2⟩:=vS ha;have:=ih h2;show Bool.rec (motive:=fun _=>Bool) false (flat (a++b)) (sH v)=true;rw[h1,this]
theorem kJ (id:Pz)(sz:Nat):∀(ls:List (List AV))(off:Nat)(hp:Tr AO)(k:Tr AO->Rs),lF id sz ls off hp k=.ok->∃hp',k hp'=.ok/\flat ls.flatten=true/\even sz ls/\mr hp hp' id off ls.flatten
 | [],off,hp,k,h=>⟨hp,h,rfl,fun l hl=>by simp at hl,mr.nil _ _ _⟩
 |l::ls,off,hp,k,h=>by
  obtain⟨h0,h⟩:=aJ (b:=Nat.beq l.length sz) (x:=jD hp id off l fun hp=>bj (off+sz) fun off=>lF id sz ls off hp k) (n:=9) h;have hl:=ai h0;obtain⟨hp1,h,hf,hput⟩:=kI h;rw[aG]at h;obtain⟨hp2,h,hf2,he,hput2⟩:=kJ id sz ls _ hp1 k h;refine⟨hp2,h,by rw[zcc];exact rZ hf hf2,fun x hx=>?_,?_⟩
  ·rcases List.mem_cons.1 hx with rfl|hx
   ·exact hl
   ·exact he x hx
  ·rw[zcc];exact hput.append (by rw[hl];exact hput2)
theorem jw (ι:En):∀(vs:List AV),flat vs=true->∀v∈ao ι vs,vk v=true
 | [],_,v,hv=>by simp[ao]at hv
 |x::vs,h,v,hv=>by
  obtain⟨h1,h2⟩:=vS h;simp only[ao,List.mem_cons]at hv;rcases hv with rfl|hv
  ·exact Kq ι h1
  ·exact jw ι vs h2 v hv
end Go.aI
namespace Go.aI
open Go.RowKit
section
variable {P:Program}{w:World}
theorem nP {t:TypeId}{i:TypeInfo}(h:P.info? t=some i):(typeInfo t).run P w=.ok i w:=by
 simp[typeInfo,h]
theorem ay {t:TypeId}{d:TypeDesc}(h:P.underlying t=some d):(underlying t).run P w=.ok d w:=by
 simp[underlying,h]
theorem zJ {t:TypeId}{d:TypeDesc}(h:P.underlying t=some d):∃i,P.info? t=some i:=by
 unfold Program.underlying at h;split at h
 ·rename_i u i hi;exact⟨_,hi⟩
 ·rename_i i hi;exact⟨_,hi⟩
 ·cases h
theorem dE {t:TypeId}{i:TypeInfo}(h:P.info? t=some i):(sizeOf t).run P w=.ok (ae P t) w:=by
 simp[sizeOf,nP h,ae,h]
theorem gY {t:TypeId}{d:TypeDesc}(h:P.underlying t=some d):(sizeOf t).run P w=.ok (ae P t) w:=by
 obtain⟨i,hi⟩:=zJ h;exact dE hi
theorem iK {t:TypeId}{d:TypeDesc}(h:P.underlying t=some d):(isAgg t).run P w=.ok (dZ P t) w:=by
 unfold isAgg dZ;simp[ay h,h];cases d<;>simp
theorem p9 {t:TypeId}(h:dZ P t=true):∃d,P.underlying t=some d:=by
 unfold dZ at h;cases hu:P.underlying t with
 |none=>rw[hu]at h;cases h
 |some d=>exact⟨d,rfl⟩
theorem gy {a:Addr}{v:Value}(h:w.cell? a=some v):(load a).run P w=.ok v w:=by
 simp[h]
theorem run_loadCellsFrom (b o:Nat):∀(l:List Value)(i:Nat)(acc:Array Value),(∀j,j<l.length->w.cell? ⟨b,o+i+j,none⟩=l[j]?) ->
  (loadCellsFrom ⟨b,o,none⟩ i l.length acc).run P w=.ok (acc++l.toArray) w
 | [],i,acc,h=>by simp[loadCellsFrom]
 |v::l,i,acc,h=>by
  have h0:=h 0 (by simp);simp only[zbi,loadCellsFrom]
  rw[gx,Sem.run_bind,gy (by simpa using h0),Result.andThen_ok,run_loadCellsFrom b o l (i+1) _ (fun j hj=>by
   have:=h (j+1) (by simp;omega);rw[zbm]at this;rw[<-this];congr 2
   omega)]
  congr 1;rw[Array.push_eq_append,Array.append_assoc];congr 1;simp
theorem run_loadCells {b o:Nat}{l:List Value}{n:Nat}(hn:n=l.length)(h:∀j,j<l.length->w.cell? ⟨b,o+j,none⟩=l[j]?):(loadCells ⟨b,o,none⟩ n).run P w=.ok l.toArray w:=by
 subst hn;have:=run_loadCellsFrom (P:=P) b o l 0 #[] (fun j hj=>by simpa using h j hj);simpa [loadCells] using this
theorem Ot {v:Value}(h:vk v=true):v.oneCell'=true:=by cases v<;>first|rfl|cases h
theorem gZ (b o:Nat):∀(l:List Value)(i:Nat)(w:World),(∀v∈l,vk v=true)->lQ w b (o+i) l.length->(storeCells ⟨b,o,none⟩ l i).run P w=.ok () (bm w b (o+i) l)
 | [],i,w,_,_=>by simp[storeCells,bm]
 |v::l,i,w,hv,hc=>by
  obtain⟨⟨u,hu⟩,hf⟩:=hc 0 (by simp);rw[zbu]at hu hf;have h1:=Ot (hv v (zac ..));simp only[storeCells,bm];rw[gx,Sem.run_bind,run_store P w _ v _ h1,hu];simp only[hf,zag,if_false,Result.andThen_ok];rw[gZ b o l (i+1) _ (fun x hx=>hv x (zaa _ hx)) (fun j hj=>?_)]
  ·rw[zbq]
  ·obtain⟨⟨u',hu'⟩,hf'⟩:=hc (j+1) (by simp;omega);rw[show o+i+(j+1)=o+(i+1)+j by omega]at hu' hf';refine⟨?_,by rw[nc];exact hf'⟩;have:=hu';by_cases hb:w.cell? ⟨b,o+(i+1)+j,none⟩=(w.setCell ⟨b,o+i,none⟩ v).cell? ⟨b,o+(i+1)+j,none⟩
   ·exact⟨u',by rw[<-hb];exact hu'⟩
   ·exfalso;apply hb;unfold World.cell?;simp only[World.setCell,zcm,if_true];cases w.heap[b]? with
    |none=>rfl
    |some x =>
     cases x with
     |cells c e fz =>
      simp only[zbk,zdl,zag,if_false];rw[zck (by omega)]
     |_=>rfl
end
def BZ (D:Nat):Deferred:={ target:=.collected D,args:=#[] }
noncomputable def marks (ι:En)(l:List Pz):List Deferred:=l.map fun id=>BZ (ι.aS id)
structure bW (ι:En) (nt:Nat) (tm:Tm) (a:Act):Prop where
 size:a.tmps.size=nt
 defers:a.defers=marks ι tm.ml
 val:∀t,a.tmps.getD t undef=ak ι (tm.at t)
theorem zK {d:Nat}(ih:∀v a,il d v=some a->∀ι,ak ι a=v)(ι:En):∀(l:List Value)(l':List AV),l.mapM (il d)=some l'->ao ι l'=l
 | [],l',h=>by simp at h;subst h;rfl
 |v::l,l',h=>by
  rw[zea]at h;cases ha:il d v with
  |none=>rw[ha]at h;cases h
  |some a =>
   rw[ha]at h;cases hl:l.mapM (il d)with
   |none=>rw[hl]at h;cases h
   |some r =>
    rw[hl]at h;cases h;simp only[ao];rw[ih v a ha ι,zK ih ι l r hl]
theorem eR:∀(d:Nat)(v:Value)(a:AV),il d v=some a->∀ι,ak ι a=v
 |0,v,a,h=>by cases h
 |d+1,v,a,h=>by
  intro ι;have ih:=zK (d:=d) (fun v a h ι=>eR d v a h ι) ι;cases v with
  |bool b=>cases h;simp[ak]
  |int k n=>cases h;simp[ak]
  |float k n=>cases h;simp[ak]
  |complex k x y=>cases h
  |string s=>cases h;simp only[ak];rw[mZ]
  |pointer p=>cases p with
   |none=>cases h;simp[ak]
   |some x=>cases h
  |slice p n m=>cases p with
   |some x=>simp[il]at h
   |none=>cases n with
    |succ n=>simp[il]at h
    |zero=>cases m with
     |succ m=>simp[il]at h
     |zero=>cases h;simp[ak]
  |map r=>cases r with
   |none=>cases h;simp[ak]
   |some x=>cases h
  |chan r=>cases h
  |func fn first captured =>
   simp only[il]at h;cases hf:G9 fn with
   |false=>rw[hf]at h;cases h
   |true =>
    cases hx:first.toList.mapM (il d)with
    |none=>rw[hf,hx]at h;cases h
    |some x =>
     cases hy:captured.toList.mapM (il d)with
     |none=>rw[hf,hx,hy]at h;cases h
     |some y =>
      rw[hf,hx,hy]at h;cases h;simp only[ak];rw[ih _ _ hx,ih _ _ hy,zB hf]
  |nilFunc=>cases h;simp[ak]
  |iface t v=>cases h
  |nilIface=>cases h;simp[ak]
  |agg cs =>
   simp only[il]at h;cases hm:cs.toList.mapM (il d)with
   |none=>rw[hm]at h;cases h
   |some l=>rw[hm]at h;cases h;simp only[ak];rw[ih _ _ hm]
  |tuple cs =>
   simp only[il]at h;cases hm:cs.toList.mapM (il d)with
   |none=>rw[hm]at h;cases h
   |some l=>rw[hm]at h;cases h;simp only[ak];rw[ih _ _ hm]
theorem aM {x:Operand}{tm:Tm}{k:AV->Rs}(h:(cH x).run tm k=.ok):∃v,k v=.ok/\∀ι nt a,bW ι nt tm a->a.eval x=ak ι v:=by
 cases x with
 |tmp t =>
  have h:(pK t).run tm k=.ok:=h;rw[lL]at h;exact⟨_,h,fun ι nt a ha=>ha.val t⟩
 |const v =>
  simp only[cH]at h;cases hv:il 8 v with
  |none=>rw[hv]at h;cases h
  |some a=>rw[hv]at h;exact⟨a,h,fun ι nt b _=>(eR 8 v a hv ι).symm⟩
 |global g=>cases h
 |func f=>exact⟨_,h,fun ι nt a _=>by simp[Act.eval,ak,ao,jV]⟩
theorem tb:∀(xs:List Operand){tm:Tm}{k:List AV->Rs},zh xs tm k=.ok->∃vs,k vs=.ok/\∀ι nt a,bW ι nt tm a->xs.map a.eval=ao ι vs
 | [],tm,k,h=>⟨[],h,fun _ _ _ _=>rfl⟩
 |x::xs,tm,k,h=>by
  obtain⟨v,h,hv⟩:=aM (k:=fun v=>zh xs tm fun vs=>k (v::vs)) h;obtain⟨vs,h,hvs⟩:=tb xs h;exact⟨v::vs,h,fun ι nt a ha=>by simp only[zal,ao];rw[hv ι nt a ha,hvs ι nt a ha]⟩
end Go.aI
namespace Go.aI
open Go.RowKit
theorem tK {kd:IntKind}{z:Int}{k:Int->Rs}(h:vE kd z k=.ok):k (kd.wrap z)=.ok:=by
 unfold vE at h;cases kd
 case i64 =>
  cases z with
  |ofNat m =>
   simp only[aG,cO]at h;rcases bQ h with ⟨hb,h⟩|⟨_,h⟩
   ·have:=aK hb;rw[zdn _ ⟨by simp only[zby];omega,by simp only[zby];omega⟩];exact h
   ·exact h
  |negSucc m =>
   simp only[aG,cO]at h;rcases bQ h with ⟨hb,h⟩|⟨_,h⟩
   ·have:=aK hb;rw[zdn _ ⟨by omega,by omega⟩];exact h
   ·exact h
 all_goals (simp only[cO]at h;exact h)
theorem qa {mx:Nat}{kd:IntKind}(hin:∀n:Int,-(mx:Int)-1<=n->n<=mx->kd.wrap n=n){z:Int}{k:Int->Rs}(h:vF mx kd z k=.ok):k (kd.wrap z)=.ok:=by
 unfold vF at h;cases z with
 |ofNat m =>
  rcases bQ h with ⟨hb,h⟩|⟨_,h⟩
  ·rw[aG]at h;have:=aK hb;rw[hin _ (by simp only[zby];omega) (by simp only[zby];omega)];exact h
  ·rw[cO]at h;exact h
 |negSucc m =>
  rcases bQ h with ⟨hb,h⟩|⟨_,h⟩
  ·rw[aG]at h;have:=aK hb;rw[hin _ (by omega) (by omega)];exact h
  ·rw[cO]at h;exact h
theorem qb {mx:Nat}{kd:IntKind}(hin:∀n:Int,0<=n->n<=mx->kd.wrap n=n){z:Int}{k:Int->Rs}(h:vG mx kd z k=.ok):k (kd.wrap z)=.ok:=by
 unfold vG at h;cases z with
 |ofNat m =>
  rcases bQ h with ⟨hb,h⟩|⟨_,h⟩
  ·rw[aG]at h;have:=aK hb;rw[hin _ (by simp only[zby];omega) (by simp only[zby];omega)];exact h
  ·rw[cO]at h;exact h
 |negSucc m =>
  simp only[cO]at h;exact h
theorem tL {kd:IntKind}{z:Int}{k:Int->Rs}(h:tD kd z k=.ok):k (kd.wrap z)=.ok:=by
 cases kd with
 |i8=>exact qa (mx:=127) (fun n h1 h2=>Go.IntWalk.i8_in n ⟨by omega,by omega⟩) h
 |i16=>exact qa (mx:=32767) (fun n h1 h2=>Go.IntWalk.i16_in n ⟨by omega,by omega⟩) h
 |i32=>exact qa (mx:=2147483647) (fun n h1 h2=>Go.IntWalk.i32_in n ⟨by omega,by omega⟩) h
 |i64=>exact qa (mx:=9223372036854775807) (fun n h1 h2=>zdn n ⟨by omega,by omega⟩) h
 |u8=>exact qb (mx:=255) (fun n h1 h2=>Go.IntWalk.u8_in n ⟨by omega,by omega⟩) h
 |u16=>exact qb (mx:=65535) (fun n h1 h2=>Go.IntWalk.u16_in n ⟨by omega,by omega⟩) h
 |u32=>exact qb (mx:=4294967295) (fun n h1 h2=>Go.IntWalk.u32_in n ⟨by omega,by omega⟩) h
 |u64=>exact qb (mx:=18446744073709551615) (fun n h1 h2=>Go.IntWalk.u64_in n ⟨by omega,by omega⟩) h
theorem Ku (a b:Int)(k:Int->Rs):Od a b k=k (Int.add a b):=by
 cases a with
 |ofNat m =>
  cases b with
  |ofNat n=>exact aG (Nat.add m n) fun s=>k (.ofNat s)
  |negSucc n=>exact cO (Int.add (.ofNat m) (.negSucc n)) k
 |negSucc m=>exact cO (Int.add (.negSucc m) b) k
theorem Kw (a b:Int)(k:Int->Rs):Oe a b k=k (Int.sub a b):=by
 cases a with
 |ofNat m =>
  cases b with
  |ofNat n =>
   show bV (Nat.ble n m) (bj (Nat.sub m n) fun s=>k (.ofNat s)) (mM (Int.sub (.ofNat m) (.ofNat n)) k)=_;cases h:Nat.ble n m with
   |true =>
    have:=aK h;show bj (Nat.sub m n) (fun s=>k (.ofNat s))=_;rw[aG];congr 1;show ((m-n:Nat):Int)=(m:Int)-(n:Int);omega
   |false=>exact cO (Int.sub (.ofNat m) (.ofNat n)) k
  |negSucc n=>exact cO (Int.sub (.ofNat m) (.negSucc n)) k
 |negSucc m=>exact cO (Int.sub (.negSucc m) b) k
theorem Ho (a b:Int)(k:Bool->Rs):QS a b k=k (decide (a<b)):=by
 cases a with
 |ofNat m =>
  cases b with
  |ofNat n =>
   show c7 (Nat.ble (Nat.succ m) n) k=_;rw[bc];congr 1;rw[zcv,Nat.ble_eq,decide_eq_true_eq];simp only[zby];omega
  |negSucc n=>exact bc (decide (Int.ofNat m < .negSucc n)) k
 |negSucc m=>exact bc (decide (Int.negSucc m<b)) k
theorem Hp (a b:Int)(k:Bool->Rs):J8 a b k=k (decide (a<=b)):=by
 cases a with
 |ofNat m =>
  cases b with
  |ofNat n =>
   show c7 (Nat.ble m n) k=_;rw[bc];congr 1;rw[zcv,Nat.ble_eq,decide_eq_true_eq];simp only[zby];omega
  |negSucc n=>exact bc (decide (Int.ofNat m<=.negSucc n)) k
 |negSucc m=>exact bc (decide (Int.negSucc m<=b)) k
theorem Hq (a b:Int)(k:Bool->Rs):QT a b k=k (a==b):=by
 cases a with
 |ofNat m =>
  cases b with
  |ofNat n =>
   show c7 (Nat.beq m n) k=_;rw[bc];congr 1;rw[zcv,Nat.beq_eq,beq_iff_eq];simp only[zby];omega
  |negSucc n =>
   show k false=_;congr 1
 |negSucc m =>
  cases b with
  |ofNat n =>
   show k false=_;congr 1
  |negSucc n =>
   show c7 (Nat.beq m n) k=_;rw[bc];congr 1;rw[zcv,Nat.beq_eq,beq_iff_eq];omega
theorem vU (l m l' m':Nat)(k:Bool->Rs):mN l m l' m' k=k (aR l m l' m'):=by
 unfold mN aR;cases h:Nat.beq l l' with
 |true=>show c7 _ k=_;rw[bc,Bool.true_and]
 |false=>rfl
theorem DF (k:AV->Rs)(b:Bool):Ft k b=k (.bool (!b)):=by cases b<;>rfl
theorem DG {s:Sem Value}{k:AV->Rs}(h:Hc s k=.ok):∃v c,s=.pure c/\k v=.ok/\∀ι,ak ι v=c:=by
 unfold Hc at h;split at h
 ·rw[cO]at h;exact⟨_,_,rfl,h,fun ι=>by simp[ak]⟩
 ·rw[bc]at h;exact⟨_,_,rfl,h,fun ι=>by simp[ak]⟩
 ·rw[aG]at h;exact⟨_,_,rfl,h,fun ι=>by simp[ak]⟩
 ·cases h
theorem tM {p:Prop} [Decidable p] (h:decide p=true):p:=of_decide_eq_true h
def Hr (P:Program)(op:BinOp)(t:TypeId)(x y v:AV):Prop:=∀ι w,(binOp op t (ak ι x) (ak ι y)).run P w=.ok (ak ι v) w
theorem Hs {P:Program}{op:BinOp}{t:TypeId}{kd kd':IntKind}{a b:Int}{k:AV->Rs}(h:Hd op t kd a kd' b k=.ok):∃v,k v=.ok/\Hr P op t (.int kd a) (.int kd' b) v:=by
 unfold Hd at h;split at h
 case h_9 =>
  obtain⟨v,c,hs,hk,hr⟩:=DG h;refine⟨v,hk,fun ι w=>?_⟩;simp only[ak];rw[hs,hr];rfl
 case h_1 =>
  obtain⟨hd,g⟩:=aJ h;obtain rfl:=tM hd;exact⟨_,tK g,fun ι w=>by simp[ak,binOp,Op.intArith]<;>rfl⟩
 case h_2 =>
  obtain⟨hd,g⟩:=aJ h;obtain rfl:=tM hd;exact⟨_,tK g,fun ι w=>by simp[ak,binOp,Op.intArith]<;>rfl⟩
 all_goals
  obtain⟨hd,g⟩:=aJ h;obtain rfl:=tM hd;rw[bc]at g;exact⟨_,g,fun ι w=>by simp[ak,binOp,Op.intCmp]⟩
theorem toList_mk (l:List UInt8):(ByteArray.mk l.toArray).toList=l:=by simp
theorem Ht {P:Program}{op:BinOp}{t:TypeId}{l m l' m':Nat}{k:AV->Rs}(h:zi op l m l' m' k=.ok):∃v,k v=.ok/\Hr P op t (.str l m) (.str l' m') v:=by
 unfold zi at h;split at h
 ·rw[aG]at h;obtain⟨hb,h⟩:=aJ h;rw[aG]at h;have hb:=aK hb;refine⟨_,h,fun ι w=>?_⟩;simp only[ak,binOp,Op.stringOp];rw[Sem.run_ite,if_neg]
  ·simp only[Sem.run_pure,Result.ok.injEq,and_true,Value.string.injEq];rw[js,show jq l' m'=m'%256 ^ l' by unfold jq;rw[js];rfl,na];apply ByteArray.ext;simp
  ·have e1:(ByteArray.mk (bytesOf l m).toArray).size=l:=by show (bytesOf l m).toArray.size=l;simp[aD]
   have e2:(ByteArray.mk (bytesOf l' m').toArray).size=l':=by show (bytesOf l' m').toArray.size=l';simp[aD]
   rw[e1,e2];show ¬_ > _;simp only[IntKind.max,IntKind.signed,IntKind.bits];omega
 ·rw[bc]at h;refine⟨_,h,fun ι w=>?_⟩;simp only[ak,binOp,Op.stringOp,toList_mk,dX];rfl
 ·rw[bc]at h;refine⟨_,h,fun ι w=>?_⟩;simp only[ak,binOp,Op.stringOp,toList_mk,dX];rfl
 ·cases h
end Go.aI
namespace Go.aI
open Go.RowKit
theorem extract_mk (l:List Value)(a b:Nat):l.toArray.extract a b=((l.drop a).take (b-a)).toArray:=by simp
theorem qc {P:Program}{w:World}{t:TypeId}{l:List Value}{off:Nat}(h:dZ P t=true):(part t l.toArray off).run P w=.ok (.agg ((l.drop off).take (ae P t)).toArray) w:=by
 obtain⟨d,hd⟩:=p9 h;simp only[part,Sem.run_bind,iK hd,h,Result.andThen_ok,if_true,gY hd,Sem.run_pure];rw[extract_mk];congr 4;omega
theorem g8 {P:Program}{w:World}{t:TypeId}{l:List Value}{off:Nat}{v:Value}{d:TypeDesc}(hd:P.underlying t=some d)(h:dZ P t=false)(hv:l[off]?=some v):(part t l.toArray off).run P w=.ok v w:=by
 simp only[part,Sem.run_bind,iK hd,h,Result.andThen_ok,zag,if_false];rw[zao,hv];rfl
def xx (P:Program)(d:Nat)(t:TypeId)(x y:AV)(b:Bool):Prop:=∀D ι w,d<=D->(Op.equalIn D t (ak ι x) (ak ι y)).run P w=.ok b w
theorem zL {P:Program}:∀{d:Nat}{t:TypeId}{x y:AV}{k:Bool->Rs},lH P d t x y k=.ok->∃u,P.underlying t=some u:=by
 intro d t x y k h;cases d with
 |zero=>cases h
 |succ d =>
  cases hu:P.underlying t with
  |some u=>exact⟨u,rfl⟩
  |none=>simp only[lH,hu]at h;cases h
theorem jY (P:Program):∀(d:Nat)(t:TypeId)(x y:AV)(k:Bool->Rs),lH P d t x y k=.ok->∃b,k b=.ok/\xx P d t x y b
 |0,t,x,y,k,h=>by cases h
 |d+1,t,x,y,k,h=>by
  have up:∀{b:Bool},(∀D ι w,d<=D->(Op.equalIn (D+1) t (ak ι x) (ak ι y)).run P w=.ok b w)->xx P (d+1) t x y b:=by
   intro b hb D ι w hD;obtain⟨D,rfl⟩:∃D',D=D'+1:=⟨D-1,by omega⟩;exact hb D ι w (by omega)
  unfold lH at h;split at h
  case h_1 hu=>rw[bc]at h;exact⟨_,h,up fun D ι w _=>by simp[ak,Op.equalIn,ay hu]⟩
  case h_2 hu =>
   obtain⟨hd,g⟩:=aJ h;obtain rfl:=tM hd;rw[bc]at g;exact⟨_,g,up fun D ι w _=>by simp[ak,Op.equalIn,ay hu]⟩
  case h_3 hu=>rw[bc]at h;exact⟨_,h,up fun D ι w _=>by simp[ak,Op.equalIn,ay hu,dX,beq_toListBytes]⟩
  case h_18 fields xs ys hu =>
   obtain⟨zM,h⟩:P.stoodInHeld t=false/\_:=by
    cases hs:P.stoodInHeld t with
    |true=>rw[hs]at h;cases h
    |false=>rw[hs]at h;exact⟨rfl,h⟩
   have hfs:P.fieldsOf t=fields:=by unfold Program.fieldsOf;rw[hu]
   have key:∀(fs:List Field) (k:Bool->Rs),
     List.rec (motive:=fun _=>(Bool->Rs)->Rs) (fun k=>k true)
     (fun f _ ih k=>bV (f.name == "_") (ih k)
      (pM f.offset xs fun a=>pM f.offset ys fun b=>bj (ae P f.type) fun sz=>rT sz a fun a=>rT sz b fun b =>
       bV (dZ P f.type) (lH P d f.type (.agg a) (.agg b) fun e=>bV e (ih k) (k false))
        (vg 0 a fun a=>vg 0 b fun b=>lH P d f.type a b fun e=>bV e (ih k) (k false)))) fs k=.ok ->
     ∃b,k b=.ok/\∀D ι w,d<=D->(Op.eqFields D (ao ι xs).toArray (ao ι ys).toArray fs).run P w=.ok b w:=by
    intro fs
    induction fs with
    |nil=>intro k h;exact⟨true,h,fun D ι w _=>rfl⟩
    |cons f fs ih =>
     intro k h;rcases bQ h with ⟨hn,h⟩|⟨hn,h⟩
     ·obtain⟨b,hk,hb⟩:=ih k h;refine⟨b,hk,fun D ι w hD=>?_⟩;simp only[Op.eqFields];rw[if_neg (by simpa using hn)];exact hb D ι w hD
     ·have hn':f.name≠"_":=by simpa using hn
      obtain⟨h1,h⟩:=mX _ h;obtain⟨h2,h⟩:=mX _ h;rw[aG]at h;obtain⟨h3,h⟩:=mU _ h;obtain⟨h4,h⟩:=mU _ h;rcases bQ h with ⟨ha,h⟩|⟨ha,h⟩
      ·obtain⟨e,h,he⟩:=jY P d f.type _ _ _ h
       have go:∀D ι w,d<=D->(Op.eqFields D (ao ι xs).toArray (ao ι ys).toArray (f::fs)).run P w=(if (!e)=true then Sem.pure false else Op.eqFields D (ao ι xs).toArray (ao ι ys).toArray fs).run P w:=by
        intro D ι w hD;simp only[Op.eqFields];rw[if_pos hn'];simp only[Sem.run_bind,qc ha,Result.andThen_ok];have:=he D ι w hD;simp only[ak,vQ,vR]at this;rw[this];rfl
       rcases bQ h with ⟨rfl,h⟩|⟨rfl,h⟩
       ·obtain⟨b,hk,hb⟩:=ih k h;exact⟨b,hk,fun D ι w hD=>by rw[go D ι w hD];exact hb D ι w hD⟩
       ·exact⟨false,h,fun D ι w hD=>by rw[go D ι w hD];rfl⟩
      ·obtain⟨a,ga,h⟩:=nN _ h;obtain⟨b',gb,h⟩:=nN _ h;obtain⟨u,hu'⟩:=zL h;obtain⟨e,h,he⟩:=jY P d f.type _ _ _ h
       have first:∀(l:List AV) (v:AV) (ι:En),((l.drop f.offset).take (ae P f.type))[0]?=some v->(ao ι l)[f.offset]?=some (ak ι v):=by
        intro l v ι hg;rw[zci]at hg;split at hg
        ·rw[zbb,zbu]at hg;rw[bu,hg];rfl
        ·cases hg
       have go:∀D ι w,d<=D->(Op.eqFields D (ao ι xs).toArray (ao ι ys).toArray (f::fs)).run P w=(if (!e)=true then Sem.pure false else Op.eqFields D (ao ι xs).toArray (ao ι ys).toArray fs).run P w:=by
        intro D ι w hD;simp only[Op.eqFields];rw[if_pos hn'];simp only[Sem.run_bind,g8 hu' ha (first _ _ ι ga),g8 hu' ha (first _ _ ι gb),Result.andThen_ok];rw[he D ι w hD];rfl
       rcases bQ h with ⟨rfl,h⟩|⟨rfl,h⟩
       ·obtain⟨b,hk,hb⟩:=ih k h;exact⟨b,hk,fun D ι w hD=>by rw[go D ι w hD];exact hb D ι w hD⟩
       ·exact⟨false,h,fun D ι w hD=>by rw[go D ι w hD];rfl⟩
   obtain⟨b,hk,hb⟩:=key fields.toList k h;refine⟨b,hk,up fun D ι w hD=>?_⟩;simp only[ak];rw[run_equalIn_struct w D t _ _ (by rw[hfs];exact hu) zM,hfs];exact hb D ι w hD
  case h_19 n e a b a' b' hu =>
   obtain⟨h1,g1⟩:=aJ h;obtain rfl:=zab h1;obtain⟨h2,g2⟩:=aJ g1;simp only[za,zaj]at h2;obtain⟨ha,hi,hs⟩:=h2;obtain⟨i,hi⟩:=Option.isSome_iff_exists.1 hi;have hs:P.cellsOf e=1:=zab hs;obtain⟨u,hue⟩:=zL g2;obtain⟨x,g3,hx⟩:=jY P d e _ _ _ g2
   have go:∀D ι w,d<=D->(Op.equalIn (D+1) t (ak ι (.agg [a,b])) (ak ι (.agg [a',b']))).run P w=((do
     let r <-Op.equalIn D e (ak ι a) (ak ι a')
     if (!r)=true then pure false else do
      let r <-Op.equalIn D e (ak ι b) (ak ι b')
      if (!r)=true then pure false else pure true:Sem Bool)).run P w:=by
    intro D ι w hD;have p0:∀(x y:AV) w,(part e [ak ι x,ak ι y].toArray (0*P.cellsOf e)).run P w=.ok (ak ι x) w:=fun x y w=>g8 hue ha (by rw[hs];rfl);have p1:∀(x y:AV) w,(part e [ak ι x,ak ι y].toArray (1*P.cellsOf e)).run P w=.ok (ak ι y) w:=fun x y w=>g8 hue ha (by rw[hs];rfl);have p2:∀(x y:AV) w,(part e [ak ι x,ak ι y].toArray (P.cellsOf e)).run P w=.ok (ak ι y) w:=fun x y w=>by have:=p1 x y w;rwa[zes]at this
    show (Op.equalIn (D+1) t (.agg [ak ι a,ak ι b].toArray) (.agg [ak ι a',ak ι b'].toArray)).run P w=_;rw[run_equalIn_array w D _ _ hu hi];show (Op.eqItems D e (P.cellsOf e) _ _ [0,1]).run P w=_;simp only[Op.eqItems,Sem.run_bind,p0,p1,Result.andThen_ok];generalize (Op.equalIn D e (ak ι a) (ak ι a')).run P w=r1;cases r1 with
    |ok r w1 =>
     have q:=p2 a b w1;have q':=p2 a' b' w1;cases r<;>simp only[Result.andThen_ok,zes,Sem.run_bind]<;>simp only[Sem.run_bind,zeo,zcz,if_true,zag,if_false,Sem.run_pure,p2,zes,Result.andThen_ok]
    |halt x w1=>simp[Result.andThen]
   rcases bQ g3 with ⟨rfl,g4⟩|⟨rfl,g4⟩
   ·obtain⟨y,g5,hy⟩:=jY P d e _ _ _ g4;refine⟨y,g5,up fun D ι w hD=>?_⟩;rw[go D ι w hD];simp only[Sem.run_bind,hx D ι w hD,Result.andThen_ok];simp[hy D ι w hD];cases y<;>simp
   ·refine⟨false,g4,up fun D ι w hD=>?_⟩;rw[go D ι w hD];simp only[Sem.run_bind,hx D ι w hD,Result.andThen_ok];simp
  case h_20=>cases h
  all_goals
   rename_i hu;exact⟨_,h,up fun D ι w _=>by simp[ak,Op.equalIn,ay hu]⟩
theorem jZ {P:Program}{t:TypeId}{x y:AV}{b:Bool}(h:xx P 9 t x y b)(ι:En)(w:World):(Op.equal t (ak ι x) (ak ι y)).run P w=.ok b w:=h 10000 ι w (by decide)
theorem xy {P:Program}{t:TypeId}{a b:Value}(h:∀k n k' n',a=.int k n->b=.int k' n'->False)(h2:∀k n k' n',a=.float k n->b=.float k' n'->False)(h3:∀k n m k' n' m',a=.complex k n m->b=.complex k' n' m'->False)(h4:∀s s',a=.string s->b=.string s'->False) :
  binOp .eql t a b=(do pure (.bool (<-Op.equal t a b)))/\binOp .neq t a b=(do pure (.bool (!(<-Op.equal t a b)))):=by
 cases a<;>cases b<;>first
  |exact⟨rfl,rfl⟩
  |exact (h _ _ _ _ rfl rfl).elim
  |exact (h2 _ _ _ _ rfl rfl).elim
  |exact (h3 _ _ _ _ _ _ rfl rfl).elim
  |exact (h4 _ _ rfl rfl).elim
theorem Kx {P:Program}{op:BinOp}{t:TypeId}{x y:AV}{k:AV->Rs}(h:zj P op t x y k=.ok):(∃v,k v=.ok/\Hr P op t x y v)/\¬(x=.nilIface/\y=.nilIface):=by
 unfold zj at h;split at h
 ·exact⟨Hs h,fun e=>by cases e.1⟩
 ·exact⟨Ht h,fun e=>by cases e.1⟩
 ·cases h
 ·rename_i hnf hni hns
  have side:∀ι,binOp .eql t (ak ι x) (ak ι y)=(do pure (.bool (<-Op.equal t (ak ι x) (ak ι y))))/\binOp .neq t (ak ι x) (ak ι y)=(do pure (.bool (!(<-Op.equal t (ak ι x) (ak ι y))))):=by
   intro ι;refine xy (P:=P) ?_ ?_ ?_ ?_
   ·intro k n k' n' hx hy;cases x<;>simp[ak]at hx
    cases y<;>simp[ak]at hy
    exact hni _ _ _ _ rfl rfl
   ·intro k n k' n' hx hy;cases x<;>simp[ak]at hx
    exact hnf _ _ rfl
   ·intro k n m k' n' m' hx hy;cases x<;>simp[ak]at hx
   ·intro s s' hx hy;cases x<;>simp[ak]at hx
    cases y<;>simp[ak]at hy
    exact hns _ _ _ _ rfl rfl
  have nil:∀{kk:Bool->Rs},lH P 9 t x y kk=.ok->¬(x=.nilIface/\y=.nilIface):=by
   rintro kk hk ⟨rfl,rfl⟩
   unfold lH at hk;split at hk<;>first|cases hk|skip
   all_goals simp_all
  split at h
  ·obtain⟨b,h1,h2⟩:=jY P _ _ _ _ _ h;refine⟨⟨_,h1,fun ι w=>?_⟩,nil h⟩;rw[(side ι).1];simp[jZ h2 ι w,ak]
  ·obtain⟨b,h1,h2⟩:=jY P _ _ _ _ _ h;rw[bc]at h1;refine⟨⟨_,h1,fun ι w=>?_⟩,nil h⟩;rw[(side ι).2];simp[jZ h2 ι w,ak]
  ·cases h
end Go.aI
namespace Go.aI
open Go.RowKit
theorem zN {kd:IntKind}{z:Int}{k:Int->Rs}(h:k (kd.wrap z)=.ok):vE kd z k=.ok:=by
 cases kd
 case i64 =>
  cases z with
  |ofNat m =>
   show bV (Nat.ble m 9223372036854775807) (bj m fun m=>k (.ofNat m)) (mM (IntKind.i64.wrap (.ofNat m)) k)=.ok;by_cases hb:m<=9223372036854775807
   ·rw[zdn _ ⟨by simp only[zby];omega,by simp only[zby];omega⟩]at h;rw[zbv hb,zy,aG];exact h
   ·rw[show Nat.ble m 9223372036854775807=false by rw[<-Bool.not_eq_true,Nat.ble_eq];exact hb,vM,cO];exact h
  |negSucc m =>
   show bV (Nat.ble m 9223372036854775807) (bj m fun m=>k (.negSucc m)) (mM (IntKind.i64.wrap (.negSucc m)) k)=.ok;by_cases hb:m<=9223372036854775807
   ·rw[zdn _ ⟨by omega,by omega⟩]at h;rw[zbv hb,zy,aG];exact h
   ·rw[show Nat.ble m 9223372036854775807=false by rw[<-Bool.not_eq_true,Nat.ble_eq];exact hb,vM,cO];exact h
 case i8=>exact (cO (IntKind.i8.wrap z) k).trans h
 case i16=>exact (cO (IntKind.i16.wrap z) k).trans h
 case i32=>exact (cO (IntKind.i32.wrap z) k).trans h
 case u8=>exact (cO (IntKind.u8.wrap z) k).trans h
 case u16=>exact (cO (IntKind.u16.wrap z) k).trans h
 case u32=>exact (cO (IntKind.u32.wrap z) k).trans h
 case u64=>exact (cO (IntKind.u64.wrap z) k).trans h
theorem nh {b:Bool}{x:Rs}{n:Nat}(hb:b=true)(h:x=.ok):bV b x (.bad n)=.ok:=by rw[hb];exact h
theorem nj (kd:IntKind):decide (kd=kd)=true:=by simp
theorem Ky {P:Program}{op:BinOp}{t:TypeId}{x y:AV}{k:AV->Rs}(h:(Of P op t).run x y k=.ok):zj P op t x y k=.ok:=by
 cases op
 case add =>
  have h:qS x (.bad 39) (fun kd a=>asInt y fun kd' b=>bV (eM kd kd') (Od a b fun z=>tD kd z fun z=>k (.int kd z)) (.bad 31)) (fun l m=>kG y (.bad 39) fun l' m'=>zi .add l m l' m' k)=.ok:=h;cases x<;>first|(cases h;done)|skip
  ·obtain⟨kd',b,rfl,g⟩:=db h;obtain⟨hk,g2⟩:=aJ g;have:=gK hk;subst this;rw[Ku]at g2;exact nh (nj _) (zN (tL g2))
  ·cases y<;>first|(cases h;done)|exact h
 case sub =>
  have h:asInt x (fun kd a=>asInt y fun kd' b=>bV (eM kd kd') (Oe a b fun z=>tD kd z fun z=>k (.int kd z)) (.bad 31))=.ok:=h;obtain⟨kd,a,rfl,g⟩:=db h;obtain⟨kd',b,rfl,g1⟩:=db g;obtain⟨hk,g2⟩:=aJ g1;have:=gK hk;subst this;rw[Kw]at g2;exact nh (nj _) (zN (tL g2))
 case lss =>
  have h:asInt x (fun kd a=>asInt y fun kd' b=>bV (eM kd kd') (QS a b fun b=>k (.bool b)) (.bad 31))=.ok:=h;obtain⟨kd,a,rfl,g⟩:=db h;obtain⟨kd',b,rfl,g1⟩:=db g;obtain⟨hk,g2⟩:=aJ g1;have:=gK hk;subst this;rw[Ho]at g2;exact nh (nj _) (by rw[bc];exact g2)
 case gtr =>
  have h:asInt x (fun kd a=>asInt y fun kd' b=>bV (eM kd kd') (QS b a fun b=>k (.bool b)) (.bad 31))=.ok:=h;obtain⟨kd,a,rfl,g⟩:=db h;obtain⟨kd',b,rfl,g1⟩:=db g;obtain⟨hk,g2⟩:=aJ g1;have:=gK hk;subst this;rw[Ho]at g2;exact nh (nj _) (by rw[bc];exact g2)
 case leq =>
  have h:asInt x (fun kd a=>asInt y fun kd' b=>bV (eM kd kd') (J8 a b fun b=>k (.bool b)) (.bad 31))=.ok:=h;obtain⟨kd,a,rfl,g⟩:=db h;obtain⟨kd',b,rfl,g1⟩:=db g;obtain⟨hk,g2⟩:=aJ g1;have:=gK hk;subst this;rw[Hp]at g2;exact nh (nj _) (by rw[bc];exact g2)
 case geq =>
  have h:asInt x (fun kd a=>asInt y fun kd' b=>bV (eM kd kd') (J8 b a fun b=>k (.bool b)) (.bad 31))=.ok:=h;obtain⟨kd,a,rfl,g⟩:=db h;obtain⟨kd',b,rfl,g1⟩:=db g;obtain⟨hk,g2⟩:=aJ g1;have:=gK hk;subst this;rw[Hp]at g2;exact nh (nj _) (by rw[bc];exact g2)
 case eql =>
  have h:qS x (zj P .eql t x y k) (fun kd a=>asInt y fun kd' b=>bV (eM kd kd') (QT a b fun b=>k (.bool b)) (.bad 31)) (fun l m=>kG y (.bad 39) fun l' m'=>mN l m l' m' fun b=>k (.bool b))=.ok:=h;cases x<;>first|exact h|skip
  ·obtain⟨kd',b,rfl,g⟩:=db h;obtain⟨hk,g2⟩:=aJ g;have:=gK hk;subst this;rw[Hq]at g2;exact nh (nj _) (by rw[bc];exact g2)
  ·cases y<;>first|(cases h;done)|skip
   rename_i l m l' m' _;have h:mN l m l' m' (fun b=>k (.bool b))=.ok:=h;rw[vU]at h;show c7 (aR l m l' m') (fun b=>k (.bool b))=.ok;rw[bc];exact h
 case neq =>
  have h:qS x (zj P .neq t x y k) (fun kd a=>asInt y fun kd' b=>bV (eM kd kd') (QT a b (Ft k)) (.bad 31)) (fun l m=>kG y (.bad 39) fun l' m'=>mN l m l' m' (Ft k))=.ok:=h;cases x<;>first|exact h|skip
  ·obtain⟨kd',b,rfl,g⟩:=db h;obtain⟨hk,g2⟩:=aJ g;have:=gK hk;subst this;rw[Hq,DF]at g2;exact nh (nj _) (by rw[bc];exact g2)
  ·cases y<;>first|(cases h;done)|skip
   rename_i l m l' m' _;have h:mN l m l' m' (Ft k)=.ok:=h;rw[vU,DF]at h;show c7 (!aR l m l' m') (fun b=>k (.bool b))=.ok;rw[bc];exact h
 all_goals exact h
end Go.aI
namespace Go.aI
open Go.RowKit
def En.at (ι:En)(nx:Pz)(b s κ:Nat):En:=⟨fun i=>if i=nx then b else ι.aS i,fun i=>if i=nx then s else ι.sh i,fun i=>if i=nx then κ else ι.kS i⟩
theorem g9 (ι:En)(nx:Pz)(b s κ:Nat):al nx ι (ι.at nx b s κ):=by
 intro id hid;have:id≠nx:=fun e=>by rw[e]at hid;omega
 simp[En.at,this]
theorem tN {nx:Pz}{ι ι':En}(h:al nx.succ ι ι'):al nx ι ι':=fun id hid=>h id (by rw[Pz.cw];omega)
theorem dw {ι ι':En}{nx:Pz}{b s κ:Nat}(h:al nx.succ (ι.at nx b s κ) ι'):al nx ι ι'/\ι'.aS nx=b/\ι'.sh nx=s/\ι'.kS nx=κ:=by
 refine⟨(g9 ι nx b s κ).trans (tN h) (zad _),?_,?_,?_⟩
 ·rw[(h nx (by rw[Pz.cw];omega)).1];simp[En.at]
 ·rw[(h nx (by rw[Pz.cw];omega)).2.1];simp[En.at]
 ·rw[(h nx (by rw[Pz.cw];omega)).2.2];simp[En.at]
def Sat (B:Nat->Prop)(w0:World)(nt:Nat)(tm:Tm)(hp:Tr AO)(nx:Pz)(ι:En)(a:Act)(w:World):Prop :=
 Wf hp nx/\∀ι',al nx ι ι'->bW ι' nt tm a/\Core B w0 ι' hp w
def Hu (B:Nat->Prop)(w0:World)(ι:En)(nx:Pz)(k:AV->Tr AO->Pz->Rs)(next:Value->World->Prop):Prop :=
 ∀v hp' nx' ι2 cv w',k v hp' nx'=.ok->Wf hp' nx'->nx.num<=nx'.num->al nx ι ι2->(∀ι',al nx' ι2 ι'->Core B w0 ι' hp' w'/\cv=ak ι' v)->next cv w'
def fw (r:Option Nat):Fence:={ Fence.wide with round:=r }
def dh (P:Program)(s:Sem Next)(w:World)(G:Value->World->Prop):Prop :=
 (∃cv w',(s.run P w=.ok (.value cv) w'∨(s.run P w=.ok .skip w'/\cv=undef))/\G cv w')∨
 (∃f args w',s.run P w=.ok (.enter f args) w'/\Calls P f args w' fun e w''=>∃cv,e=.returned cv/\G cv w'')∨
 (∃l f tmps assign body w',s.run P w=.ok (.round l f tmps assign body) w'/\RoundIn Fence.wide 0 P l f tmps assign body w' fun e w''=>∃cv,e=.returned cv/\G cv w'')
theorem dh.mono {P:Program}{s:Sem Next}{w:World}{G G':Value->World->Prop}(h:dh P s w G)(hg:∀cv w',G cv w'->G' cv w'):dh P s w G':=by
 rcases h with ⟨cv,w',h1,h2⟩|⟨f,args,w',h1,h2⟩|⟨l,f,tmps,x,y,w',h1,h2⟩
 ·exact .inl ⟨cv,w',h1,hg _ _ h2⟩
 ·exact .inr (.inl ⟨f,args,w',h1,Calls.mono h2 fun e w'' ⟨cv,e1,e2⟩=>⟨cv,e1,hg _ _ e2⟩⟩)
 ·exact .inr (.inr ⟨l,f,tmps,x,y,w',h1,RoundIn.mono h2 fun e w'' ⟨cv,e1,e2⟩=>⟨cv,e1,hg _ _ e2⟩⟩)
theorem dh.plain {P:Program}{o:Oper}{ρ:Operand->Value}{w:World}{G:Value->World->Prop}(h:dh P (execOp ρ o) w G):∀c,o.op≠.defer c:=by
 intro c hc
 have hr:∀n w',(execOp ρ o).run P w=.ok n w'->∃d,n=.defer d:=by
  intro n w' hr;simp only[execOp,hc,Sem.run_bind]at hr;cases hd:(resolve ρ c o.type).run P w with
  |ok d w2 =>
   rw[hd,Result.andThen_ok]at hr;simp only[Sem.run_pure,Result.ok.injEq]at hr;exact⟨_,hr.1.symm⟩
  |halt x w2=>rw[hd]at hr;cases hr
 rcases h with ⟨cv,w',h|⟨h,_⟩,_⟩|⟨f,args,w',h,_⟩|⟨l,f,tmps,x,y,w',h,_⟩<;>(obtain⟨d,hd⟩:=hr _ _ h;cases hd)
theorem qd {r:Option Nat}{n:Nat}:(fw r).depth.isSome=true->1<=n:=fun h=>by simp[fw,Fence.wide]at h
theorem tO {P:Program}{f:FuncId}{args:Array Value}{w:World}{R:Ending->World->Prop}(h:Calls P f args w R)(r:Option Nat)(n:Nat):CallsIn (fw r) n P f args w R:=by
 have h:CallsIn Fence.wide n P f args w R:=callsIn_wide.2 h;exact⟨trivial,fun cs _=>h.2 cs (room_wide _)⟩
theorem Hw {P:Program}{l:Nat}{f:FuncId}{tmps:Array Value}{x y:Code}{w:World}{R:Ending->World->Prop}(h:RoundIn Fence.wide 0 P l f tmps x y w R)(r:Option Nat)(n:Nat):RoundIn (fw r) n P l f tmps x y w R :=
 ⟨trivial,fun c cs _=>h.2 c cs (room_wide _)⟩
theorem dh.wp {P:Program}{r:Option Nat}{o:Oper}{a:Act}{w:World}{G:Value->World->Prop}(h:dh P (execOp a.eval o) w G){next:Act->World->Prop}{Q:Exit->Act->World->Prop}(hn:∀cv w',G cv w'->next (a.put o.dst cv) w'):o.wpIn (fw r) 0 P a w next Q:=by
 refine⟨fun _ _=>trivial,?_⟩;rw[Oper.semAt_eq _ _ _ h.plain];rcases h with ⟨cv,w',h|⟨h,rfl⟩,hg⟩|⟨f,args,w',h,hc⟩|⟨l,f,tmps,x,y,w',h,hc⟩
 ·rw[h];exact hn _ _ hg
 ·rw[h];exact hn _ _ hg
 ·rw[h,Oper.uponIn_enter];refine⟨qd,CallsIn.mono (tO hc r _) fun e w'' he=>?_⟩;obtain⟨cv,rfl,hg⟩:=he;exact hn _ _ hg
 ·rw[h,Oper.uponIn_round];refine⟨qd,RoundIn.mono (Hw hc r _) fun e w'' he=>?_⟩;obtain⟨cv,rfl,hg⟩:=he;exact hn _ _ hg
def jS (P:Program)(o:Oper)(tm:Tm)(hp:Tr AO)(nx:Pz)(k:AV->Tr AO->Pz->Rs):Prop :=
 ∀B w0 nt a w ι,Sat B w0 nt tm hp nx ι a w->∀(G:Value->World->Prop),Hu B w0 ι nx k G->dh P (execOp a.eval o) w G
structure GU (P:Program) (o:Oper) (tm:Tm) (hp:Tr AO) (nx:Pz) (v:AV) (hp':Tr AO) (nx':Pz):Prop where
 le:nx.num<=nx'.num
 wf:Wf hp nx->Wf hp' nx'
 run:∀B w0 nt a w ι,Sat B w0 nt tm hp nx ι a w->∃ι2 cv w',al nx ι ι2/\((execOp a.eval o).run P w=.ok (.value cv) w'∨((execOp a.eval o).run P w=.ok .skip w'/\cv=undef)) /\
  ∀ι',al nx' ι2 ι'->Core B w0 ι' hp' w'/\cv=ak ι' v
section
variable {P:Program}{o:Oper}{tm:Tm}{hp hp':Tr AO}{nx nx':Pz}{k:AV->Tr AO->Pz->Rs}{v:AV}
theorem GU.to (h:GU P o tm hp nx v hp' nx')(hk:k v hp' nx'=.ok):jS P o tm hp nx k:=by
 intro B w0 nt a w ι hs G hn;obtain⟨ι2,cv,w',h1,h2,h3⟩:=h.run B w0 nt a w ι hs;exact .inl ⟨cv,w',h2,hn v hp' nx' ι2 cv w' hk (h.wf hs.1) h.le h1 h3⟩
def gI (P:Program)(o:Oper)(tm:Tm)(hp:Tr AO)(v:AV):Prop :=
 ∀B w0 ι nt a w,bW ι nt tm a->Core B w0 ι hp w->(execOp a.eval o).run P w=.ok (.value (ak ι v)) w
theorem gI.Fz (h:gI P o tm hp v)(nx:Pz):GU P o tm hp nx v hp nx:=by
 refine⟨zad _,fun hw=>hw,fun B w0 nt a w ι hs=>⟨ι,ak ι v,w,al.refl _ _,.inl ?_,fun ι' hι=>?_⟩⟩
 ·obtain⟨h1,h2⟩:=hs.2 ι (al.refl _ _);exact h B w0 ι nt a w h1 h2
 ·obtain⟨h1,h2⟩:=hs.2 ι (al.refl _ _);obtain⟨h3,h4⟩:=hs.2 ι' hι;refine⟨h4,?_⟩;have e1:=h B w0 ι nt a w h1 h2;have e2:=h B w0 ι' nt a w h3 h4;rw[e1]at e2;simpa using e2
def dF (P:Program)(o:Oper)(tm:Tm)(hp:Tr AO)(nx:Pz)(k:AV->Tr AO->Pz->Rs):Prop:=∃v,k v hp nx=.ok/\gI P o tm hp v
theorem dF.to (h:dF P o tm hp nx k):jS P o tm hp nx k:=by
 obtain⟨v,hk,hv⟩:=h;exact (hv.Fz nx).to hk
def FA (P:Program)(o:Oper)(tm:Tm)(hp:Tr AO)(nx:Pz)(v:AV)(hp':Tr AO):Prop :=
 (Wf hp nx->Wf hp' nx)/\∀B w0 ι nt a w,Wf hp nx->bW ι nt tm a->Core B w0 ι hp w->∃w' cv,((execOp a.eval o).run P w=.ok (.value cv) w'∨((execOp a.eval o).run P w=.ok .skip w'/\cv=undef))/\cv=ak ι v/\Core B w0 ι hp' w'
theorem FA.Fz (h:FA P o tm hp nx v hp'):GU P o tm hp nx v hp' nx:=by
 refine⟨zad _,h.1,fun B w0 nt a w ι hs=>?_⟩;obtain⟨h1,h2⟩:=hs.2 ι (al.refl _ _);obtain⟨w',cv,hr,Tt,hc⟩:=h.2 B w0 ι nt a w hs.1 h1 h2;refine⟨ι,cv,w',al.refl _ _,hr,fun ι' hι=>?_⟩;obtain⟨h3,h4⟩:=hs.2 ι' hι;obtain⟨w'',cv',hr',hcv',hc'⟩:=h.2 B w0 ι' nt a w hs.1 h3 h4;rcases hr with hr|⟨hr,hu⟩
 ·rcases hr' with hr'|⟨hr',hu'⟩
  ·rw[hr]at hr';simp only[Result.ok.injEq,Next.value.injEq]at hr';obtain⟨rfl,rfl⟩:=hr';exact⟨hc',hcv'⟩
  ·rw[hr]at hr';simp at hr'
 ·rcases hr' with hr'|⟨hr',hu'⟩
  ·rw[hr]at hr';simp at hr'
  ·rw[hr]at hr';simp only[Result.ok.injEq,true_and]at hr';subst hr';exact⟨hc',by rw[hu,<-hu',hcv']⟩
theorem GU.new {x:AO}(hx1:iu x=none)(hx2:∀e s,x≠.dJ e s)
  (h:∀B w0 ι nt a w,bW ι nt tm a->Core B w0 ι hp w->ι.aS nx=w.heap.size->ι.sh nx=0->∃y,(execOp a.eval o).run P w=.ok (.value (ak ι v)) (w.alloc y)/\ji ι (hp.set nx x) (w.alloc y) nx x) :
  GU P o tm hp nx v (hp.set nx x) nx.succ:=by
 refine⟨by rw[Pz.cw];omega,fun hw=>oN hw hx1 hx2,fun B w0 nt a w ι hs=>?_⟩;have hag:=g9 ι nx w.heap.size 0 0;obtain⟨h1,h2⟩:=hs.2 _ hag;obtain⟨y,hr,_⟩:=h B w0 _ nt a w h1 h2 (by simp[En.at]) (by simp[En.at]);refine⟨_,_,_,hag,.inl hr,fun ι' hι=>?_⟩;obtain⟨ha,hb,hsh,_⟩:=dw hι;obtain⟨h3,h4⟩:=hs.2 ι' ha;obtain⟨y',hr',ho'⟩:=h B w0 ι' nt a w h3 h4 hb hsh;rw[hr]at hr';simp only[Result.ok.injEq,Next.value.injEq]at hr';obtain⟨e1,e2⟩:=hr';rw[e2];exact⟨pZ hs.1 h4 hb hx1 hx2 ho',e1⟩
def M3 (P:Program)(o:Oper)(tm:Tm)(nx:Pz)(v:AV)(x:AO):Prop :=
 iu x=none/\(∀e s,x≠.dJ e s)/\∀ι nt a,bW ι nt tm a->ι.sh nx=0->∃y,(∀w,ι.aS nx=w.heap.size->(execOp a.eval o).run P w=.ok (.value (ak ι v)) (w.alloc y))/\∀hp w',w'.heap[ι.aS nx]?=some y->ji ι hp w' nx x
def sa (P:Program)(o:Oper)(tm:Tm)(hp:Tr AO)(nx:Pz)(k:AV->Tr AO->Pz->Rs):Prop:=∃v x,k v (hp.set nx x) nx.succ=.ok/\M3 P o tm nx v x
theorem bO (w:World)(y:Obj):(w.alloc y).heap[w.heap.size]?=some y:=by
 show (w.heap.push y)[w.heap.size]?=some y;simp
theorem sa.to (h:sa P o tm hp nx k):jS P o tm hp nx k:=by
 obtain⟨v,x,hk,hx1,hx2,hr⟩:=h;refine (GU.new hx1 hx2 (fun B w0 ι nt a w ha hc hb hs=>?_)).to hk;obtain⟨y,h1,h2⟩:=hr ι nt a ha hs;exact⟨y,h1 w hb,h2 _ _ (by rw[hb];exact bO w y)⟩
end
theorem iy {B:Nat->Prop}{w0 w:World}{ι:En}{hp:Tr AO}(h:Core B w0 ι hp w):Core B w0 ι hp w.drew:=by
 refine⟨h.below.drew,h.room,fun i o hi=>?_,h.base,h.sep,h.e9⟩;exact (h.obj i o hi).bE (fun x=>x) (fun _=>rfl)
theorem cW (hp:Tr AO)(nx:Pz)(o:AO)(k:Pz->Tr AO->Pz->Rs):newObj hp nx o k=k nx (hp.set nx o) nx.succ:=by
 unfold newObj;rw[Tr.cz,Pz.Hj]
theorem nQ (hp:Tr AO)(nx:Pz)(es n:Nat)(el:TypeId)(c:Tr (List AV))(k:Pz->Tr AO->Pz->Rs):lE hp nx es n el c k=k nx (hp.set nx (.arr es n el c)) nx.succ:=cW _ _ _ _
theorem heap_alloc_new (w:World)(y:Obj):(w.alloc y).heap[w.heap.size]?=some y:=by
 show (w.heap.push y)[w.heap.size]?=some y;simp
theorem tP {ι:En}{hp:Tr AO}{w:World}{nx:Pz}{l:List AV}{el:TypeId}(hb:w.heap[ι.aS nx]?=some (.cells (ao ι l).toArray el (0,0)))(hs:ι.sh nx=0):ji ι hp w nx (.arr l.length 1 el (one l)):=by
 refine⟨(ao ι l).toArray,(0,0),hb,hs,by simp[aq],?_,Or.inl rfl⟩;intro q hq;have:q=0:=by omega
 subst this;refine⟨l,rfl,rfl,fun r hr=>?_⟩;rw[zbw,zaq,zaq,zao,bu]
end Go.aI
