/- Part Xaa of the proof of OverlapEnds: no condition. -/
import Derived.Calls
import Derived.Below
import Derived.KernelRfl
import Derived.Orders
import Derived.Laws.Sem
import Derived.IntWalk
import Derived.Laws.Strings
import Derived.Laws.StructEq
import Derived.ChangeKeysEq
import Derived.RangeFuncLeaves
set_option linter.unusedSimpArgs false
set_option linter.unusedVariables false
set_option linter.defProp false
def za:=@Bool.and_eq_true
def zaa.{u}:=@List.mem_cons_of_mem.{u}
def zab:=@Nat.eq_of_beq_eq_true
def zac.{u}:=@List.mem_cons_self.{u}
def zad:=@Nat.le_refl
def zae:=@Nat.mul_le_mul_right
def zaf:=@Bool.false_eq_true
def zag.{u}:=@List.length_take.{u}
def zah.{u}:=@Array.getD_eq_getD_getElem?.{u}
def zai.{u}:=@List.length_replicate.{u}
def zaj.{u}:=@List.getElem?_eq_getElem.{u}
def zak.{u}:=@List.length_append.{u}
def zal.{u,v}:=@List.map_cons.{u,v}
def zam:=@Bool.not_eq_true'
def zan:=@Nat.le_succ
def zao.{u}:=@List.getElem?_toArray.{u}
def zap:=@Nat.zero_add
def zaq:=@Bool.or_eq_true
def zar.{u,v}:=@List.map_append.{u,v}
def zas.{u}:=@List.length_drop.{u}
def zat.{u}:=@List.getElem?_append_left.{u}
def zau:=@Nat.succ_mul
def zav.{u,v}:=@List.map_congr_left.{u,v}
def zaw.{u}:=@List.mem_of_getElem?.{u}
def zax.{u}:=@List.getElem?_append_right.{u}
def zay:=@Nat.le_trans
def zaz.{u,v}:=@Option.map_some.{u,v}
def zb.{u}:=@List.all_eq_true.{u}
def zba.{u}:=@List.getElem?_cons_zero.{u}
def zbb.{u}:=@List.getElem?_drop.{u}
def zbc.{u,v}:=@List.map_singleton.{u,v}
def zbd.{u}:=@List.append_assoc.{u}
def zbe.{u}:=@List.getElem?_take_of_lt.{u}
def zbf.{u}:=@Array.getElem?_eq_getElem.{u}
def zbg.{u}:=@List.append_nil.{u}
def zbh:=@Nat.add_mul
def zbi.{u}:=@List.length_cons.{u}
def zbj:=@Nat.lt_of_lt_of_le
def zbk:=@Int.ofNat_eq_natCast
def zbl.{u}:=@List.contains_iff_mem.{u}
def zbm:=@Int.toNat_of_nonneg
def zbn.{u}:=@List.getElem?_cons_succ.{u}
def zbo:=@Nat.zero_le
def zbp:=@Nat.add_assoc
def zbq.{u}:=@List.getElem?_eq_none.{u}
def zbr.{u}:=@List.mem_singleton_self.{u}
def zbs:=@Nat.ble_eq_true_of_le
def zbt:=@Nat.add_zero
def zbu.{u,v}:=@Option.map_none.{u,v}
def zbv.{u}:=@List.eq_of_mem_replicate.{u}
def zbw:=@Nat.zero_mul
def zbx.{u}:=@List.mem_append_right.{u}
def zby:=@Int.le_refl
def zbz.{u}:=@List.mem_append_left.{u}
def zc.{u}:=@List.take_of_length_le.{u}
def zca.{u}:=@List.drop_zero.{u}
def zcb.{u}:=@Option.getD_some.{u}
def zcc.{u}:=@List.flatten_cons.{u}
def zcd.{u,v}:=@List.getElem?_map.{u,v}
def zce:=@Nat.succ_le_of_lt
def zcf.{u}:=@Array.getElem?_setIfInBounds_ne.{u}
def zcg.{u}:=@List.perm_append_singleton.{u}
def zch:=@Nat.min_eq_left
def zci.{u}:=@List.drop_of_length_le.{u}
def zcj.{u}:=@Array.getElem?_toList.{u}
def zck.{u}:=@List.getElem?_take.{u}
def zcl.{u}:=@List.take_length.{u}
def zcm:=@Nat.beq_refl
def zcn.{u}:=@Array.getElem?_modify.{u}
def zco.{u}:=@List.take_append_of_le_length.{u}
def zcp.{u}:=@List.getElem_mem.{u}
def zcq:=@Nat.mul_comm
def zcr.{u,v}:=@Option.bind_some.{u,v}
def zcs:=@Bool.false_or
def zct.{u}:=@List.drop_drop.{u}
def zcu:=@Nat.add_sub_cancel_left
def zcv:=@Int.toNat_natCast
def zcw:=@Nat.le_of_ble_eq_true
def zcx.{u}:=@Array.mem_toList_iff.{u}
def zcy:=@Bool.eq_iff_iff
def zcz.{u}:=@List.nil_append.{u}
def zd:=@Bool.not_true
def zda.{u}:=@List.sum_cons.{u}
def zdb.{u}:=@List.drop_append_of_le_length.{u}
def zdc:=@List.getElem?_range
def zdd.{u,v}:=@List.filterMap_append.{u,v}
def zde.{u,v}:=@List.length_map.{u,v}
def zdf.{u}:=@List.take_append_drop.{u}
def zdg.{u}:=@List.ext_getElem?.{u}
def zdh.{u}:=@Array.size_setIfInBounds.{u}
def zdi.{u,v}:=@Array.foldl_toList.{u,v}
def zdj:=@Int.natCast_nonneg
def zdk.{u}:=@Option.isSome_none.{u}
def zdl:=@UInt8.toNat_ofNat'
def zdm:=@Go.IntWalk.i64_in
def zdn.{u}:=@Array.getElem?_setIfInBounds.{u}
def zdo.{u,v}:=@List.map_nil.{u,v}
def zdp:=@Nat.lt_or_ge
def zdq:=@Nat.mul_le_mul
def zdr:=@Nat.pow_succ
def zds.{u}:=@List.mem_of_mem_take.{u}
def zdt:=@Nat.lt_succ_self
def zdu:=@Nat.mod_eq_of_lt
def zdv.{u}:=@List.all_cons.{u}
def zdw.{u}:=@Array.length_toList.{u}
def zdx.{u,v}:=@List.filterMap_cons.{u,v}
def zdy.{u}:=@List.sum_append.{u}
def zdz.{u}:=@Array.getElem?_replicate.{u}
def ze.{u,v,w}:=@List.map_map.{u,v,w}
def zea:=@Nat.le_of_eq
def zeb:=@Nat.sub_self
def zec.{u}:=@List.drop_take.{u}
def zed.{u,v,w}:=@List.mapM_cons.{u,v,w}
def zee.{u}:=@List.size_toArray.{u}
def zef.{u}:=@Array.getElem?_eq_none.{u}
def zeg:=@ByteArray.data_extract
def zeh.{u}:=@List.cons_append.{u}
def zei.{u}:=@List.filter_cons.{u}
def zej.{u,v,w}:=@List.foldlM_cons.{u,v,w}
def zek:=@List.range'_succ
def zel:=@Int.mul_ediv_add_emod
def zem.{u}:=@List.modify_succ_cons.{u}
def zen.{u,v,w}:=@List.foldlM_nil.{u,v,w}
def zeo.{u}:=@List.length_nil.{u}
def zep.{u}:=@List.length_set.{u}
def zeq:=@List.range_eq_range'
def zes:=@Nat.div_add_mod
def zet:=@Nat.sub_zero
def zeu.{u}:=@Array.getElem?_push.{u}
def zev:=@Nat.add_le_add_left
def zew:=@Bool.not_false
def zex.{u}:=@List.take_take.{u}
def zey:=@Nat.mul_one
def zez:=@Nat.one_mul
namespace Go.aK
inductive Rs where|ok|bad (n:Nat)
inductive Pz where|h|o (p:Pz)|i (p:Pz)
 deriving DecidableEq
inductive Tr (α:Type)where|e|n (l:Tr α) (v:Option α) (r:Tr α)
inductive AV where
 |bool (b:Bool)
 |int (k:IntKind) (n:Int)
 |str (len n:Nat)
 |float (k:FloatKind) (bits:Nat)
 |ptr (id:Pz) (off:Nat)
 |c7
 |slice (id:Pz) (off len cap:Nat)
 |bw (id:Pz) (off len skip:Nat)
 |ab
 |map (id:Pz)
 |bg
 |func (fn:Fn) (first captured:List AV)
 |cJ
 |iface (t:TypeId) (v:AV)
 |nilIface
 |agg (cs:List AV)
 |cN (vs:List AV)
 |dx (b o len cap:Nat)
 |bZ (b o:Nat)
 |cV (b:Nat)
structure ME where
 key:AV
 val:AV
 born:Nat
structure gJ (α:Type)where
 a0:α
 a1:α
 a2:α
 a3:α
 a4:α
 a5:α
 a6:α
 a7:α
structure Tm where
 lo:gJ (gJ AV)
 hi:Tr AV
 ml:List Pz
inductive Ex where|gE|ext (id:Nat)|ret
inductive LS where|ready|busy|done (e:Ex)
inductive AO where
 |arr (es n:Nat) (el:TypeId) (cells:Tr (List AV))
 |bX (cO:Pz) (ep:Nat) (eZ:Bool) (es n:Nat) (el:TypeId) (cells:Tr (List AV))
 |cO (ep:Nat) (iw:Bool)
 |map (es:List ME) (clock:Nat)
 |iter (m:Pz) (since:Nat) (seen:List Nat) (clock:Nat)
 |loop (f nt:Nat) (tm:Tm) (ps:Array Tmp) (assign body:Code) (st:LS)
 |gv
 |gone
noncomputable section
def Tr.gx {α:Type}(p:Pz):Tr α->Rs->(α->Rs)->Rs :=
 Pz.rec (motive:=fun _=>Tr α->Rs->(α->Rs)->Rs)
  (fun t z k=>Tr.rec (motive:=fun _=>Rs) z (fun _ v _ _ _=>Option.rec (motive:=fun _=>Rs) z k v) t)
  (fun _ ih t z k=>Tr.rec (motive:=fun _=>Rs) z (fun l _ _ _ _=>ih l z k) t)
  (fun _ ih t z k=>Tr.rec (motive:=fun _=>Rs) z (fun _ _ r _ _=>ih r z k) t) p
def Tr.du {α:Type}(p:Pz):Tr α->α->(Tr α->Rs)->Rs :=
 Pz.rec (motive:=fun _=>Tr α->α->(Tr α->Rs)->Rs)
  (fun t v k=>Tr.rec (motive:=fun _=>Rs) (k (.n .e (some v) .e)) (fun l _ r _ _=>k (.n l (some v) r)) t)
  (fun _ ih t v k=>Tr.rec (motive:=fun _=>Rs) (ih .e v fun l=>k (.n l none .e)) (fun l x r _ _=>ih l v fun l=>k (.n l x r)) t)
  (fun _ ih t v k=>Tr.rec (motive:=fun _=>Rs) (ih .e v fun r=>k (.n .e none r)) (fun l x r _ _=>ih r v fun r=>k (.n l x r)) t) p
def Pz.MJ (p:Pz):(Pz->Rs)->Rs :=
 Pz.rec (motive:=fun _=>(Pz->Rs)->Rs) (fun k=>k (.o .h)) (fun q _ k=>k (.i q)) (fun _ ih k=>ih fun q=>k (.o q)) p
def qM (f:Nat):Nat->Pz :=
 Nat.rec (motive:=fun _=>Nat->Pz) (fun _=>.h)
  (fun _ ih m=>Bool.rec (motive:=fun _=>Pz) (Bool.rec (motive:=fun _=>Pz) (.o (ih (Nat.div m 2))) (.i (ih (Nat.div m 2))) (Nat.beq (Nat.mod m 2) 1)) .h (Nat.ble m 1)) f
def bj (n:Nat):Pz:=qM (n+1) (n+1)
def ZA (β:Type)(p:Pz):(Pz->β)->β :=
 Pz.rec (motive:=fun _=>(Pz->β)->β) (fun k=>k .h) (fun _ ih k=>ih fun q=>k (.o q)) (fun _ ih k=>ih fun q=>k (.i q)) p
def BB (β:Type)(n:Nat)(k:Pz->β):β:=ZA β (bj n) k
structure G1 (α:Type)where run:gJ α->(α->Rs)->Rs
structure S1 (α:Type)where run:gJ α->(α->(α->Rs)->Rs)->(gJ α->Rs)->Rs
structure S2 (α:Type)where run:gJ α->α->(gJ α->Rs)->Rs
def g1 (α:Type)(d:Nat):G1 α :=
 match d with
 |0=>⟨fun o=>gJ.rec (motive:=fun _=>(α->Rs)->Rs) (fun a0 _ _ _ _ _ _ _ k=>k a0) o⟩
 |1=>⟨fun o=>gJ.rec (motive:=fun _=>(α->Rs)->Rs) (fun _ a1 _ _ _ _ _ _ k=>k a1) o⟩
 |2=>⟨fun o=>gJ.rec (motive:=fun _=>(α->Rs)->Rs) (fun _ _ a2 _ _ _ _ _ k=>k a2) o⟩
 |3=>⟨fun o=>gJ.rec (motive:=fun _=>(α->Rs)->Rs) (fun _ _ _ a3 _ _ _ _ k=>k a3) o⟩
 |4=>⟨fun o=>gJ.rec (motive:=fun _=>(α->Rs)->Rs) (fun _ _ _ _ a4 _ _ _ k=>k a4) o⟩
 |5=>⟨fun o=>gJ.rec (motive:=fun _=>(α->Rs)->Rs) (fun _ _ _ _ _ a5 _ _ k=>k a5) o⟩
 |6=>⟨fun o=>gJ.rec (motive:=fun _=>(α->Rs)->Rs) (fun _ _ _ _ _ _ a6 _ k=>k a6) o⟩
 |_=>⟨fun o=>gJ.rec (motive:=fun _=>(α->Rs)->Rs) (fun _ _ _ _ _ _ _ a7 k=>k a7) o⟩
def s1 (α:Type)(d:Nat):S1 α :=
 match d with
 |0=>⟨fun o=>gJ.rec (motive:=fun _=>(α->(α->Rs)->Rs)->(gJ α->Rs)->Rs) (fun a0 a1 a2 a3 a4 a5 a6 a7 f k=>f a0 fun x=>k ⟨x,a1,a2,a3,a4,a5,a6,a7⟩) o⟩
 |1=>⟨fun o=>gJ.rec (motive:=fun _=>(α->(α->Rs)->Rs)->(gJ α->Rs)->Rs) (fun a0 a1 a2 a3 a4 a5 a6 a7 f k=>f a1 fun x=>k ⟨a0,x,a2,a3,a4,a5,a6,a7⟩) o⟩
 |2=>⟨fun o=>gJ.rec (motive:=fun _=>(α->(α->Rs)->Rs)->(gJ α->Rs)->Rs) (fun a0 a1 a2 a3 a4 a5 a6 a7 f k=>f a2 fun x=>k ⟨a0,a1,x,a3,a4,a5,a6,a7⟩) o⟩
 |3=>⟨fun o=>gJ.rec (motive:=fun _=>(α->(α->Rs)->Rs)->(gJ α->Rs)->Rs) (fun a0 a1 a2 a3 a4 a5 a6 a7 f k=>f a3 fun x=>k ⟨a0,a1,a2,x,a4,a5,a6,a7⟩) o⟩
 |4=>⟨fun o=>gJ.rec (motive:=fun _=>(α->(α->Rs)->Rs)->(gJ α->Rs)->Rs) (fun a0 a1 a2 a3 a4 a5 a6 a7 f k=>f a4 fun x=>k ⟨a0,a1,a2,a3,x,a5,a6,a7⟩) o⟩
 |5=>⟨fun o=>gJ.rec (motive:=fun _=>(α->(α->Rs)->Rs)->(gJ α->Rs)->Rs) (fun a0 a1 a2 a3 a4 a5 a6 a7 f k=>f a5 fun x=>k ⟨a0,a1,a2,a3,a4,x,a6,a7⟩) o⟩
 |6=>⟨fun o=>gJ.rec (motive:=fun _=>(α->(α->Rs)->Rs)->(gJ α->Rs)->Rs) (fun a0 a1 a2 a3 a4 a5 a6 a7 f k=>f a6 fun x=>k ⟨a0,a1,a2,a3,a4,a5,x,a7⟩) o⟩
 |_=>⟨fun o=>gJ.rec (motive:=fun _=>(α->(α->Rs)->Rs)->(gJ α->Rs)->Rs) (fun a0 a1 a2 a3 a4 a5 a6 a7 f k=>f a7 fun x=>k ⟨a0,a1,a2,a3,a4,a5,a6,x⟩) o⟩
def s2 (α:Type)(d:Nat):S2 α :=
 match d with
 |0=>⟨fun o=>gJ.rec (motive:=fun _=>α->(gJ α->Rs)->Rs) (fun _ a1 a2 a3 a4 a5 a6 a7 x k=>k ⟨x,a1,a2,a3,a4,a5,a6,a7⟩) o⟩
 |1=>⟨fun o=>gJ.rec (motive:=fun _=>α->(gJ α->Rs)->Rs) (fun a0 _ a2 a3 a4 a5 a6 a7 x k=>k ⟨a0,x,a2,a3,a4,a5,a6,a7⟩) o⟩
 |2=>⟨fun o=>gJ.rec (motive:=fun _=>α->(gJ α->Rs)->Rs) (fun a0 a1 _ a3 a4 a5 a6 a7 x k=>k ⟨a0,a1,x,a3,a4,a5,a6,a7⟩) o⟩
 |3=>⟨fun o=>gJ.rec (motive:=fun _=>α->(gJ α->Rs)->Rs) (fun a0 a1 a2 _ a4 a5 a6 a7 x k=>k ⟨a0,a1,a2,x,a4,a5,a6,a7⟩) o⟩
 |4=>⟨fun o=>gJ.rec (motive:=fun _=>α->(gJ α->Rs)->Rs) (fun a0 a1 a2 a3 _ a5 a6 a7 x k=>k ⟨a0,a1,a2,a3,x,a5,a6,a7⟩) o⟩
 |5=>⟨fun o=>gJ.rec (motive:=fun _=>α->(gJ α->Rs)->Rs) (fun a0 a1 a2 a3 a4 _ a6 a7 x k=>k ⟨a0,a1,a2,a3,a4,x,a6,a7⟩) o⟩
 |6=>⟨fun o=>gJ.rec (motive:=fun _=>α->(gJ α->Rs)->Rs) (fun a0 a1 a2 a3 a4 a5 _ a7 x k=>k ⟨a0,a1,a2,a3,a4,a5,x,a7⟩) o⟩
 |_=>⟨fun o=>gJ.rec (motive:=fun _=>α->(gJ α->Rs)->Rs) (fun a0 a1 a2 a3 a4 a5 a6 _ x k=>k ⟨a0,a1,a2,a3,a4,a5,a6,x⟩) o⟩
structure S6 where run:Tm->(AV->Rs)->Rs
structure S7 where run:Tm->AV->(Tm->Rs)->Rs
def aG:AV:=.cN []
def pL (t:Nat):S6 :=
 match Nat.ble t 63 with
 |true=>⟨fun tm k=>Tm.rec (motive:=fun _=>(AV->Rs)->Rs) (fun lo _ _ k=>(g1 (gJ AV) (Nat.div t 8)).run lo fun o=>(g1 AV (Nat.mod t 8)).run o k) tm k⟩
 |false=>BB S6 t fun p=>⟨fun tm k=>Tm.rec (motive:=fun _=>(AV->Rs)->Rs) (fun _ hi _ k=>hi.gx p (k aG) k) tm k⟩
def ve (t:Nat):S7 :=
 match Nat.ble t 63 with
 |true=>⟨fun tm v k=>Tm.rec (motive:=fun _=>AV->(Tm->Rs)->Rs) (fun lo hi ml v k=>(s1 (gJ AV) (Nat.div t 8)).run lo (fun o k=>(s2 AV (Nat.mod t 8)).run o v k) fun lo=>k ⟨lo,hi,ml⟩) tm v k⟩
 |false=>BB S7 t fun p=>⟨fun tm v k=>Tm.rec (motive:=fun _=>AV->(Tm->Rs)->Rs) (fun lo hi ml v k=>hi.du p v fun hi=>k ⟨lo,hi,ml⟩) tm v k⟩
def BC {α:Type}(a:α):gJ α:=⟨a,a,a,a,a,a,a,a⟩
def Tm.e:Tm:=⟨⟨⟨.cN [],.cN [],.cN [],.cN [],.cN [],.cN [],.cN [],.cN []⟩,BC aG,BC aG,BC aG,BC aG,BC aG,BC aG,BC aG⟩,.e,[]⟩
def bM (b:Bool)(x y:Rs):Rs:=Bool.rec (motive:=fun _=>Rs) y x b
def bo (n:Nat)(k:Nat->Rs):Rs:=Nat.rec (motive:=fun _=>Rs) (k 0) (fun m _=>k (Nat.succ m)) n
def mE (z:Int)(k:Int->Rs):Rs:=Int.rec (motive:=fun _=>Rs) (fun m=>bo m fun m=>k (.ofNat m)) (fun m=>bo m fun m=>k (.negSucc m)) z
def ck (b:Bool)(k:Bool->Rs):Rs:=Bool.rec (motive:=fun _=>Rs) (k false) (k true) b
def AV.cells (v:AV):List AV :=
 AV.rec (motive_1:=fun _=>List AV) (motive_2:=fun _=>Unit)
  (fun b=>[.bool b])
  (fun k n=>[.int k n])
  (fun l n=>[.str l n])
  (fun k n=>[.float k n])
  (fun p o=>[.ptr p o])
  ([.c7])
  (fun p o l c=>[.slice p o l c])
  (fun p o l c=>[.bw p o l c])
  ([.ab])
  (fun p=>[.map p])
  ([.bg])
  (fun f a b _ _=>[.func f a b])
  ([.cJ])
  (fun t v _=>[.iface t v])
  ([.nilIface])
  (fun cs _=>cs)
  (fun vs _=>[.cN vs])
  (fun b o l c=>[.dx b o l c])
  (fun b o=>[.bZ b o])
  (fun b=>[.cV b])
  () (fun _ _ _ _=>()) v
def asInt (v:AV):(IntKind->Int->Rs)->Rs :=
 AV.rec (motive_1:=fun _=>(IntKind->Int->Rs)->Rs) (motive_2:=fun _=>Unit)
  (fun _ _=>.bad 1)
  (fun k n kk=>kk k n)
  (fun _ _ _=>.bad 1)
  (fun _ _ _=>.bad 1)
  (fun _ _ _=>.bad 1)
  (fun _=>.bad 1)
  (fun _ _ _ _ _=>.bad 1)
  (fun _ _ _ _ _=>.bad 1)
  (fun _=>.bad 1)
  (fun _ _=>.bad 1)
  (fun _=>.bad 1)
  (fun _ _ _ _ _ _=>.bad 1)
  (fun _=>.bad 1)
  (fun _ _ _ _=>.bad 1)
  (fun _=>.bad 1)
  (fun _ _ _=>.bad 1)
  (fun _ _ _=>.bad 1)
  (fun _ _ _ _ _=>.bad 1)
  (fun _ _ _=>.bad 1)
  (fun _ _=>.bad 1)
  () (fun _ _ _ _=>()) v
def asBool (v:AV):(Bool->Rs)->Rs :=
 AV.rec (motive_1:=fun _=>(Bool->Rs)->Rs) (motive_2:=fun _=>Unit)
  (fun b kk=>kk b)
  (fun _ _ _=>.bad 2)
  (fun _ _ _=>.bad 2)
  (fun _ _ _=>.bad 2)
  (fun _ _ _=>.bad 2)
  (fun _=>.bad 2)
  (fun _ _ _ _ _=>.bad 2)
  (fun _ _ _ _ _=>.bad 2)
  (fun _=>.bad 2)
  (fun _ _=>.bad 2)
  (fun _=>.bad 2)
  (fun _ _ _ _ _ _=>.bad 2)
  (fun _=>.bad 2)
  (fun _ _ _ _=>.bad 2)
  (fun _=>.bad 2)
  (fun _ _ _=>.bad 2)
  (fun _ _ _=>.bad 2)
  (fun _ _ _ _ _=>.bad 2)
  (fun _ _ _=>.bad 2)
  (fun _ _=>.bad 2)
  () (fun _ _ _ _=>()) v
def jV (v:AV):(Pz->Nat->Rs)->Rs :=
 AV.rec (motive_1:=fun _=>(Pz->Nat->Rs)->Rs) (motive_2:=fun _=>Unit)
  (fun _ _=>.bad 3)
  (fun _ _ _=>.bad 3)
  (fun _ _ _=>.bad 3)
  (fun _ _ _=>.bad 3)
  (fun p o kk=>kk p o)
  (fun _=>.bad 3)
  (fun _ _ _ _ _=>.bad 3)
  (fun _ _ _ _ _=>.bad 3)
  (fun _=>.bad 3)
  (fun _ _=>.bad 3)
  (fun _=>.bad 3)
  (fun _ _ _ _ _ _=>.bad 3)
  (fun _=>.bad 3)
  (fun _ _ _ _=>.bad 3)
  (fun _=>.bad 3)
  (fun _ _ _=>.bad 3)
  (fun _ _ _=>.bad 3)
  (fun _ _ _ _ _=>.bad 3)
  (fun _ _ _=>.bad 3)
  (fun _ _=>.bad 3)
  () (fun _ _ _ _=>()) v
def ke (v:AV):(Rs)->(Nat->Nat->Rs)->Rs :=
 AV.rec (motive_1:=fun _=>(Rs)->(Nat->Nat->Rs)->Rs) (motive_2:=fun _=>Unit)
  (fun _ z _=>z)
  (fun _ _ z _=>z)
  (fun l n _ kk=>kk l n)
  (fun _ _ z _=>z)
  (fun _ _ z _=>z)
  (fun z _=>z)
  (fun _ _ _ _ z _=>z)
  (fun _ _ _ _ z _=>z)
  (fun z _=>z)
  (fun _ z _=>z)
  (fun z _=>z)
  (fun _ _ _ _ _ z _=>z)
  (fun z _=>z)
  (fun _ _ _ z _=>z)
  (fun z _=>z)
  (fun _ _ z _=>z)
  (fun _ _ z _=>z)
  (fun _ _ _ _ z _=>z)
  (fun _ _ z _=>z)
  (fun _ z _=>z)
  () (fun _ _ _ _=>()) v
def GC (v:AV):(Rs)->(List AV->Rs)->Rs :=
 AV.rec (motive_1:=fun _=>(Rs)->(List AV->Rs)->Rs) (motive_2:=fun _=>Unit)
  (fun _ z _=>z)
  (fun _ _ z _=>z)
  (fun _ _ z _=>z)
  (fun _ _ z _=>z)
  (fun _ _ z _=>z)
  (fun z _=>z)
  (fun _ _ _ _ z _=>z)
  (fun _ _ _ _ z _=>z)
  (fun z _=>z)
  (fun _ z _=>z)
  (fun z _=>z)
  (fun _ _ _ _ _ z _=>z)
  (fun z _=>z)
  (fun _ _ _ z _=>z)
  (fun z _=>z)
  (fun cs _ _ kk=>kk cs)
  (fun _ _ z _=>z)
  (fun _ _ _ _ z _=>z)
  (fun _ _ z _=>z)
  (fun _ z _=>z)
  () (fun _ _ _ _=>()) v
def GD (v:AV):(Rs)->(List AV->Rs)->Rs :=
 AV.rec (motive_1:=fun _=>(Rs)->(List AV->Rs)->Rs) (motive_2:=fun _=>Unit)
  (fun _ z _=>z)
  (fun _ _ z _=>z)
  (fun _ _ z _=>z)
  (fun _ _ z _=>z)
  (fun _ _ z _=>z)
  (fun z _=>z)
  (fun _ _ _ _ z _=>z)
  (fun _ _ _ _ z _=>z)
  (fun z _=>z)
  (fun _ z _=>z)
  (fun z _=>z)
  (fun _ _ _ _ _ z _=>z)
  (fun z _=>z)
  (fun _ _ _ z _=>z)
  (fun z _=>z)
  (fun _ _ z _=>z)
  (fun vs _ _ kk=>kk vs)
  (fun _ _ _ _ z _=>z)
  (fun _ _ z _=>z)
  (fun _ z _=>z)
  () (fun _ _ _ _=>()) v
def GF (v:AV):(Rs)->(Rs)->(Pz->Nat->Nat->Nat->Rs)->(Pz->Nat->Nat->Nat->Rs)->Rs :=
 AV.rec (motive_1:=fun _=>(Rs)->(Rs)->(Pz->Nat->Nat->Nat->Rs)->(Pz->Nat->Nat->Nat->Rs)->Rs) (motive_2:=fun _=>Unit)
  (fun _ z _ _ _=>z)
  (fun _ _ z _ _ _=>z)
  (fun _ _ z _ _ _=>z)
  (fun _ _ z _ _ _=>z)
  (fun _ _ z _ _ _=>z)
  (fun z _ _ _=>z)
  (fun p o l c _ _ ks _=>ks p o l c)
  (fun p o l c _ _ _ ko=>ko p o l c)
  (fun _ zn _ _=>zn)
  (fun _ z _ _ _=>z)
  (fun z _ _ _=>z)
  (fun _ _ _ _ _ z _ _ _=>z)
  (fun z _ _ _=>z)
  (fun _ _ _ z _ _ _=>z)
  (fun z _ _ _=>z)
  (fun _ _ z _ _ _=>z)
  (fun _ _ z _ _ _=>z)
  (fun _ _ _ _ z _ _ _=>z)
  (fun _ _ z _ _ _=>z)
  (fun _ z _ _ _=>z)
  () (fun _ _ _ _=>()) v
def qN (v:AV):(Rs)->(IntKind->Int->Rs)->(Nat->Nat->Rs)->Rs :=
 AV.rec (motive_1:=fun _=>(Rs)->(IntKind->Int->Rs)->(Nat->Nat->Rs)->Rs) (motive_2:=fun _=>Unit)
  (fun _ z _ _=>z)
  (fun k n _ ki _=>ki k n)
  (fun l n _ _ ks=>ks l n)
  (fun _ _ z _ _=>z)
  (fun _ _ z _ _=>z)
  (fun z _ _=>z)
  (fun _ _ _ _ z _ _=>z)
  (fun _ _ _ _ z _ _=>z)
  (fun z _ _=>z)
  (fun _ z _ _=>z)
  (fun z _ _=>z)
  (fun _ _ _ _ _ z _ _=>z)
  (fun z _ _=>z)
  (fun _ _ _ z _ _=>z)
  (fun z _ _=>z)
  (fun _ _ z _ _=>z)
  (fun _ _ z _ _=>z)
  (fun _ _ _ _ z _ _=>z)
  (fun _ _ z _ _=>z)
  (fun _ z _ _=>z)
  () (fun _ _ _ _=>()) v
def BD (v:AV):(Rs)->(Fn->List AV->List AV->Rs)->Rs :=
 AV.rec (motive_1:=fun _=>(Rs)->(Fn->List AV->List AV->Rs)->Rs) (motive_2:=fun _=>Unit)
  (fun _ z _=>z)
  (fun _ _ z _=>z)
  (fun _ _ z _=>z)
  (fun _ _ z _=>z)
  (fun _ _ z _=>z)
  (fun z _=>z)
  (fun _ _ _ _ z _=>z)
  (fun _ _ _ _ z _=>z)
  (fun z _=>z)
  (fun _ z _=>z)
  (fun z _=>z)
  (fun f a b _ _ _ kk=>kk f a b)
  (fun z _=>z)
  (fun _ _ _ z _=>z)
  (fun z _=>z)
  (fun _ _ z _=>z)
  (fun _ _ z _=>z)
  (fun _ _ _ _ z _=>z)
  (fun _ _ z _=>z)
  (fun _ z _=>z)
  () (fun _ _ _ _=>()) v
def MK (v:AV):(Rs)->(Pz->Nat->Rs)->(Fn->List AV->List AV->Rs)->Rs :=
 AV.rec (motive_1:=fun _=>(Rs)->(Pz->Nat->Rs)->(Fn->List AV->List AV->Rs)->Rs) (motive_2:=fun _=>Unit)
  (fun _ z _ _=>z)
  (fun _ _ z _ _=>z)
  (fun _ _ z _ _=>z)
  (fun _ _ z _ _=>z)
  (fun p o _ kp _=>kp p o)
  (fun z _ _=>z)
  (fun _ _ _ _ z _ _=>z)
  (fun _ _ _ _ z _ _=>z)
  (fun z _ _=>z)
  (fun _ z _ _=>z)
  (fun z _ _=>z)
  (fun f a b _ _ _ _ kf=>kf f a b)
  (fun z _ _=>z)
  (fun _ _ _ z _ _=>z)
  (fun z _ _=>z)
  (fun _ _ z _ _=>z)
  (fun _ _ z _ _=>z)
  (fun _ _ _ _ z _ _=>z)
  (fun _ _ z _ _=>z)
  (fun _ z _ _=>z)
  () (fun _ _ _ _=>()) v
def GG (v:AV):(Rs)->(Bool->Rs)->Rs :=
 AV.rec (motive_1:=fun _=>(Rs)->(Bool->Rs)->Rs) (motive_2:=fun _=>Unit)
  (fun b _ kb=>kb b)
  (fun _ _ z _=>z)
  (fun _ _ z _=>z)
  (fun _ _ z _=>z)
  (fun _ _ z _=>z)
  (fun z _=>z)
  (fun _ _ _ _ z _=>z)
  (fun _ _ _ _ z _=>z)
  (fun z _=>z)
  (fun _ z _=>z)
  (fun z _=>z)
  (fun _ _ _ _ _ z _=>z)
  (fun z _=>z)
  (fun _ _ _ z _=>z)
  (fun z _=>z)
  (fun _ _ z _=>z)
  (fun _ _ z _=>z)
  (fun _ _ _ _ z _=>z)
  (fun _ _ z _=>z)
  (fun _ z _=>z)
  () (fun _ _ _ _=>()) v
def ML (v:AV):(Rs)->(Rs)->(Pz->Rs)->Rs :=
 AV.rec (motive_1:=fun _=>(Rs)->(Rs)->(Pz->Rs)->Rs) (motive_2:=fun _=>Unit)
  (fun _ z _ _=>z)
  (fun _ _ z _ _=>z)
  (fun _ _ z _ _=>z)
  (fun _ _ z _ _=>z)
  (fun _ _ z _ _=>z)
  (fun z _ _=>z)
  (fun _ _ _ _ z _ _=>z)
  (fun _ _ _ _ z _ _=>z)
  (fun z _ _=>z)
  (fun p _ _ km=>km p)
  (fun _ zn _=>zn)
  (fun _ _ _ _ _ z _ _=>z)
  (fun z _ _=>z)
  (fun _ _ _ z _ _=>z)
  (fun z _ _=>z)
  (fun _ _ z _ _=>z)
  (fun _ _ z _ _=>z)
  (fun _ _ _ _ z _ _=>z)
  (fun _ _ z _ _=>z)
  (fun _ z _ _=>z)
  () (fun _ _ _ _=>()) v
def asNat (v:AV)(k:Nat->Rs):Rs:=asInt v fun _ n=>Int.rec (motive:=fun _=>Rs) k (fun _=>.bad 4) n
def vf {α:Type}(r:Nat):List α->(α->Rs)->Rs :=
 Nat.rec (motive:=fun _=>List α->(α->Rs)->Rs) (fun l k=>List.rec (motive:=fun _=>Rs) (.bad 5) (fun v _ _=>k v) l)
  (fun _ ih l k=>List.rec (motive:=fun _=>Rs) (.bad 5) (fun _ t _=>ih t k) l) r
def MM (vs:List AV):List AV->(List AV->Rs)->Rs :=
 List.rec (motive:=fun _=>List AV->(List AV->Rs)->Rs) (fun l k=>k l)
  (fun v _ ih l k=>List.rec (motive:=fun _=>Rs) (.bad 6) (fun _ t _=>ih t fun t=>k (v::t)) l) vs
def pM (r:Nat)(vs:List AV):List AV->(List AV->Rs)->Rs :=
 Nat.rec (motive:=fun _=>List AV->(List AV->Rs)->Rs) (fun l k=>MM vs l k)
  (fun _ ih l k=>List.rec (motive:=fun _=>Rs) (.bad 6) (fun x t _=>ih t fun t=>k (x::t)) l) r
def rR (n:Nat):List AV->(List AV->Rs)->Rs :=
 Nat.rec (motive:=fun _=>List AV->(List AV->Rs)->Rs) (fun _ k=>k [])
  (fun _ ih l k=>List.rec (motive:=fun _=>Rs) (.bad 7) (fun x t _=>ih t fun t=>k (x::t)) l) n
def pN (n:Nat):List AV->(List AV->Rs)->Rs :=
 Nat.rec (motive:=fun _=>List AV->(List AV->Rs)->Rs) (fun l k=>k l)
  (fun _ ih l k=>List.rec (motive:=fun _=>Rs) (.bad 7) (fun _ t _=>ih t k) l) n
def xc (l:List UInt8):Nat:=l.foldl (fun n b=>n*256+b.toNat) 0
def GI:Fn->Bool
 |.yield _=>false
 |_=>true
def iS:Nat->Value->Option AV
 |0,_=>none
 |_+1,.bool b=>some (.bool b)
 |_+1,.int k n=>some (.int k n)
 |_+1,.float k n=>some (.float k n)
 |_+1,.string s=>some (.str s.data.toList.length (xc s.data.toList))
 |_+1,.pointer none=>some .c7
 |_+1,.slice none 0 0=>some .ab
 |_+1,.map none=>some .bg
 |_+1,.nilFunc=>some .cJ
 |_+1,.nilIface=>some .nilIface
 |d+1,.func fn first captured =>
  match GI fn,first.toList.mapM (iS d),captured.toList.mapM (iS d)with
  |true,some a,some b=>some (.func fn a b)
  |_,_,_=>none
 |d+1,.agg cs=>(cs.toList.mapM (iS d)).map .agg
 |d+1,.tuple cs=>(cs.toList.mapM (iS d)).map .cN
 |_,_=>none
def Pp (o:AO):(Nat->Bool->Rs)->Rs :=
 AO.rec (motive:=fun _=>(Nat->Bool->Rs)->Rs) (fun _ _ _ _ _=>.bad 12) (fun _ _ _ _ _ _ _ _=>.bad 12) (fun e s kk=>kk e s) (fun _ _ _=>.bad 12) (fun _ _ _ _ _=>.bad 12) (fun _ _ _ _ _ _ _ _=>.bad 12) (fun _=>.bad 12) (fun _=>.bad 12) o
def GJ (o:AO):(Nat->Nat->TypeId->Tr (List AV)->Rs)->(Pz->Nat->Bool->Nat->Nat->TypeId->Tr (List AV)->Rs)->Rs :=
 AO.rec (motive:=fun _=>(Nat->Nat->TypeId->Tr (List AV)->Rs)->(Pz->Nat->Bool->Nat->Nat->TypeId->Tr (List AV)->Rs)->Rs)
  (fun es n el c ka _=>ka es n el c) (fun f ep eZ es n el c _ ks=>ks f ep eZ es n el c) (fun _ _ _ _=>.bad 14) (fun _ _ _ _=>.bad 14) (fun _ _ _ _ _ _=>.bad 14) (fun _ _ _ _ _ _ _ _ _=>.bad 14) (fun _ _=>.bad 14) (fun _ _=>.bad 14) o
def oP (o:AO):(List ME->Nat->Rs)->Rs :=
 AO.rec (motive:=fun _=>(List ME->Nat->Rs)->Rs) (fun _ _ _ _ _=>.bad 103) (fun _ _ _ _ _ _ _ _=>.bad 103) (fun _ _ _=>.bad 103) (fun es c kk=>kk es c) (fun _ _ _ _ _=>.bad 103) (fun _ _ _ _ _ _ _ _=>.bad 103) (fun _=>.bad 103) (fun _=>.bad 103) o
def xd (o:AO):(Pz->Nat->List Nat->Nat->Rs)->Rs :=
 AO.rec (motive:=fun _=>(Pz->Nat->List Nat->Nat->Rs)->Rs) (fun _ _ _ _ _=>.bad 260) (fun _ _ _ _ _ _ _ _=>.bad 260) (fun _ _ _=>.bad 260) (fun _ _ _=>.bad 260) (fun m s l c kk=>kk m s l c) (fun _ _ _ _ _ _ _ _=>.bad 260) (fun _=>.bad 260) (fun _=>.bad 260) o
def lF (o:AO):(Nat->Nat->Tm->Array Tmp->Code->Code->LS->Rs)->Rs :=
 AO.rec (motive:=fun _=>(Nat->Nat->Tm->Array Tmp->Code->Code->LS->Rs)->Rs) (fun _ _ _ _ _=>.bad 290) (fun _ _ _ _ _ _ _ _=>.bad 290) (fun _ _ _=>.bad 290) (fun _ _ _=>.bad 290) (fun _ _ _ _ _=>.bad 290) (fun f nt tm ps a b st kk=>kk f nt tm ps a b st) (fun _=>.bad 290) (fun _=>.bad 290) o
def BF (o:AO)(r:Rs):Rs :=
 AO.rec (motive:=fun _=>Rs) (fun _ _ _ _=>.bad 291) (fun _ _ _ _ _ _ _=>.bad 291) (fun _ _=>.bad 291) (fun _ _=>.bad 291) (fun _ _ _ _=>.bad 291) (fun _ _ _ _ _ _ _=>.bad 291) r (.bad 291) o
def vA (hp:Tr AO)(f:Pz)(ep:Nat)(k:Bool->Rs):Rs :=
 hp.gx f (.bad 10) fun o=>Pp o fun e iw=>bM (Nat.beq e ep) (k iw) (.bad 11)
def JX (hp:Tr AO)(id:Pz)(k:Nat->Nat->Tr (List AV)->Rs):Rs :=
 hp.gx id (.bad 13) fun o=>GJ o (fun es n _ c=>k es n c) fun f ep _ es n _ c=>vA hp f ep fun _=>k es n c
def vB (es n:Nat)(c:Tr (List AV))(off:Nat)(k:Nat->Nat->List AV->Rs):Rs :=
 bo (Nat.div off es) fun q=>bo (Nat.mod off es) fun r=>bM (Nat.blt q n) (c.gx (bj q) (.bad 15) fun l=>k q r l) (.bad 16)
def pO (hp:Tr AO)(id:Pz)(off:Nat)(k:AV->Rs):Rs :=
 JX hp id fun es n c=>vB es n c off fun _ r l=>vf r l k
def kN (hp:Tr AO)(id:Pz)(off sz:Nat)(k:List AV->Rs):Rs :=
 JX hp id fun es n c=>vB es n c off fun _ r l =>
  bM (Nat.beq sz es&&Nat.beq r 0) (k l) (pN r l fun l=>rR sz l k)
def sK (v:AV):Bool :=
 AV.rec (motive_1:=fun _=>Bool) (motive_2:=fun _=>Unit)
  (fun _=>true)
  (fun _ _=>true)
  (fun _ _=>true)
  (fun _ _=>true)
  (fun _ _=>true)
  (true)
  (fun _ _ _ _=>true)
  (fun _ _ _ _=>true)
  (true)
  (fun _=>true)
  (true)
  (fun _ _ _ _ _=>true)
  (true)
  (fun _ _ _=>true)
  (true)
  (fun _ _=>false)
  (fun _ _=>false)
  (fun _ _ _ _=>true)
  (fun _ _=>true)
  (fun _=>true)
  () (fun _ _ _ _=>()) v
def flat (vs:List AV):Bool:=List.rec (motive:=fun _=>Bool) true (fun v _ ih=>Bool.rec (motive:=fun _=>Bool) false ih (sK v)) vs
def jz (hp:Tr AO)(id:Pz)(off:Nat)(vs:List AV)(k:Tr AO->Rs):Rs :=
 bM (flat vs) (hp.gx id (.bad 17) fun o=>GJ o (fun es n el c=>vB es n c off fun q r l=>pM r vs l fun l=>c.du (bj q) l fun c=>hp.du id (.arr es n el c) k)
    (fun f ep eZ es n el c=>vA hp f ep fun iw =>
     vB es n c off fun q r l=>pM r vs l fun l=>c.du (bj q) l fun c =>
      bM iw (hp.du id (.bX f ep eZ es n el c) k)
       (bo (ep+1) fun ep=>hp.du f (.cO ep true) fun hp=>hp.du id (.bX f ep eZ es n el c) k))) (.bad 19)
def newObj (hp:Tr AO)(nx:Pz)(o:AO)(k:Pz->Tr AO->Pz->Rs):Rs :=
 hp.du nx o fun hp=>nx.MJ fun nx'=>k nx hp nx'
def lG (hp:Tr AO)(nx:Pz)(es n:Nat)(el:TypeId)(c:Tr (List AV))(k:Pz->Tr AO->Pz->Rs):Rs :=
 newObj hp nx (.arr es n el c) k
def one (l:List AV):Tr (List AV):=.n .e (some l) .e
def E7 (ls:List (List AV)):Nat->Tr (List AV)->(Tr (List AV)->Rs)->Rs :=
 List.rec (motive:=fun _=>Nat->Tr (List AV)->(Tr (List AV)->Rs)->Rs) (fun _ c k=>k c)
  (fun l _ ih q c k=>c.du (bj q) l fun c=>bo (q+1) fun q=>ih q c k) ls
def jv (hp:Tr AO)(id:Pz)(sz:Nat)(n:Nat):Nat->(List (List AV)->Rs)->Rs :=
 Nat.rec (motive:=fun _=>Nat->(List (List AV)->Rs)->Rs) (fun _ k=>k [])
  (fun _ ih off k=>kN hp id off sz fun l=>bo (off+sz) fun off=>ih off fun r=>k (l::r)) n
def lH (id:Pz)(sz:Nat)(ls:List (List AV)):Nat->Tr AO->(Tr AO->Rs)->Rs :=
 List.rec (motive:=fun _=>Nat->Tr AO->(Tr AO->Rs)->Rs) (fun _ hp k=>k hp)
  (fun l _ ih off hp k=>bM (Nat.beq l.length sz) (jz hp id off l fun hp=>bo (off+sz) fun off=>ih off hp k) (.bad 9)) ls
def af (P:Program)(t:TypeId):Nat:=((P.info? t).map (·.size)).getD 0
def zeroOf (P:Program)(t:TypeId):Option AV:=match P.info? t with|some i=>i.zero.bind (iS 8)|none=>none
def ec (P:Program)(t:TypeId):Bool:=match P.underlying t with|some (.struct _)|some (.array _ _)=>true|_=>false
def cM (P:Program)(t:TypeId):Bool:=(P.underlying t).isSome
structure E8 where run:Tm->(AV->Rs)->Rs
def cQ (x:Operand):E8 :=
 match x with
 |.tmp t=>⟨(pL t).run⟩
 |.const v=>match iS 8 v with
  |some a=>⟨fun _ k=>k a⟩
  |none=>⟨fun _ _=>.bad 20⟩
 |.global _=>⟨fun _ _=>.bad 21⟩
 |.func f=>⟨fun _ k=>k (.func (.func f) [] [])⟩
def yO (xs:List Operand):Tm->(List AV->Rs)->Rs :=
 List.rec (motive:=fun _=>Tm->(List AV->Rs)->Rs) (fun _ k=>k []) (fun x _ ih tm k=>(cQ x).run tm fun v=>ih tm fun vs=>k (v::vs)) xs
structure bH where
 run:Nat->List AV->Tr AO->Pz->(AV->Tr AO->Pz->Rs)->Rs
 code:Nat->Nat->Code->Tm->Tr AO->Pz->(Ex->Tm->Tr AO->Pz->Rs)->Rs
structure OB where run:bH->Tm->Tr AO->Pz->(AV->Tr AO->Pz->Rs)->Rs
def dD (n:Nat):OB:=⟨fun _ _ _ _ _=>.bad n⟩
def dT (f:Tm->(AV->Rs)->Rs):OB:=⟨fun _ tm hp nx k=>f tm fun v=>k v hp nx⟩
def GK (v:AV):Option Value :=
 match v with
 |.bool b=>some (.bool b)
 |.int k n=>some (.int k n)
 |.float k n=>some (.float k n)
 |_=>none
def GL (s:Sem Value)(k:AV->Rs):Rs :=
 match s with
 |.pure (.int kd n)=>mE n fun n=>k (.int kd n)
 |.pure (.bool b)=>ck b fun b=>k (.bool b)
 |.pure (.float f b)=>bo b fun b=>k (.float f b)
 |_=>.bad 30
def vC (kd:IntKind)(z:Int)(k:Int->Rs):Rs :=
 match kd with
 |.i64=>Int.rec (motive:=fun _=>Rs) (fun m=>bM (Nat.ble m 9223372036854775807) (bo m fun m=>k (.ofNat m)) (mE (IntKind.i64.wrap z) k))
  (fun m=>bM (Nat.ble m 9223372036854775807) (bo m fun m=>k (.negSucc m)) (mE (IntKind.i64.wrap z) k)) z
 |kd=>mE (kd.wrap z) k
def GM (op:BinOp)(t:TypeId)(kd:IntKind)(a:Int)(kd':IntKind)(b:Int)(k:AV->Rs):Rs :=
 match op with
 |.add=>bM (decide (kd=kd')) (vC kd (Int.add a b) fun z=>k (.int kd z)) (.bad 31)
 |.sub=>bM (decide (kd=kd')) (vC kd (Int.sub a b) fun z=>k (.int kd z)) (.bad 31)
 |.eql=>bM (decide (kd=kd')) (ck (a==b) fun b=>k (.bool b)) (.bad 31)
 |.neq=>bM (decide (kd=kd')) (ck (a != b) fun b=>k (.bool b)) (.bad 31)
 |.lss=>bM (decide (kd=kd')) (ck (decide (a<b)) fun b=>k (.bool b)) (.bad 31)
 |.leq=>bM (decide (kd=kd')) (ck (decide (a<=b)) fun b=>k (.bool b)) (.bad 31)
 |.gtr=>bM (decide (kd=kd')) (ck (decide (a > b)) fun b=>k (.bool b)) (.bad 31)
 |.geq=>bM (decide (kd=kd')) (ck (decide (a ≥ b)) fun b=>k (.bool b)) (.bad 31)
 |op=>GL (binOp op t (.int kd a) (.int kd' b)) k
def kO (n:Nat):Nat:=Nat.shiftLeft 1 (8*n)
def jm (len n:Nat):Nat:=Nat.mod n (kO len)
def aR (l m l' m':Nat):Bool:=Nat.beq l l'&&Nat.beq (jm l m) (jm l' m')
def yP (op:BinOp)(l m l' m':Nat)(k:AV->Rs):Rs :=
 match op with
 |.add=>bo (l+l') fun n=>bM (Nat.ble n 4294967296) (bo (m*kO l'+jm l' m') fun x=>k (.str n x)) (.bad 32)
 |.eql=>ck (aR l m l' m') fun b=>k (.bool b)
 |.neq=>ck (!aR l m l' m') fun b=>k (.bool b)
 |_=>.bad 33
def jS (P:Program):Nat->TypeId->AV->AV->(Bool->Rs)->Rs
 |0,_,_,_,_=>.bad 34
 |d+1,t,x,y,k =>
  match P.underlying t,x,y with
  |some .bool,.bool a,.bool b=>ck (a==b) k
  |some (.int _),.int ka a,.int kb b=>bM (decide (ka=kb)) (ck (a==b) k) (.bad 35)
  |some .string,.str l m,.str l' m'=>ck (aR l m l' m') k
  |some (.pointer _),.c7,.c7=>k true
  |some (.pointer _),.c7,.ptr _ _=>k false
  |some (.pointer _),.ptr _ _,.c7=>k false
  |some (.slice _),.ab,.ab=>k true
  |some (.slice _),.ab,.slice _ _ _ _=>k false
  |some (.slice _),.ab,.bw _ _ _ _=>k false
  |some (.slice _),.slice _ _ _ _,.ab=>k false
  |some (.slice _),.bw _ _ _ _,.ab=>k false
  |some (.map _ _),.bg,.bg=>k true
  |some (.map _ _),.bg,.map _=>k false
  |some (.map _ _),.map _,.bg=>k false
  |some (.func _ _ _),.cJ,.cJ=>k true
  |some (.func _ _ _),.cJ,.func _ _ _=>k false
  |some (.func _ _ _),.func _ _ _,.cJ=>k false
  |some (.struct fields),.agg xs,.agg ys =>
   bM (P.stoodInHeld t) (.bad 36)
    (List.rec (motive:=fun _=>(Bool->Rs)->Rs) (fun k=>k true)
     (fun f _ ih k=>bM (f.name == "_") (ih k)
      (pN f.offset xs fun a=>pN f.offset ys fun b=>bo (af P f.type) fun sz=>rR sz a fun a=>rR sz b fun b =>
       bM (ec P f.type) (jS P d f.type (.agg a) (.agg b) fun e=>bM e (ih k) (k false))
        (vf 0 a fun a=>vf 0 b fun b=>jS P d f.type a b fun e=>bM e (ih k) (k false)))) fields.toList k)
  |some (.array n e),.agg [a,b],.agg [a',b'] =>
   bM (Nat.beq n 2) (bM (!ec P e&&((P.info? e).isSome&&Nat.beq (af P e) 1)) (jS P d e a a' fun x=>bM x (jS P d e b b' k) (k false)) (.bad 39)) (.bad 38)
  |_,_,_=>.bad 37
def yQ (P:Program)(op:BinOp)(t:TypeId)(x y:AV)(k:AV->Rs):Rs :=
 match x,y with
 |.int kd a,.int kd' b=>GM op t kd a kd' b k
 |.str l m,.str l' m'=>yP op l m l' m' k
 |.float _ _,_=>.bad 38
 |x,y=>match op with
  |.eql=>jS P 9 t x y fun b=>k (.bool b)
  |.neq=>jS P 9 t x y fun b=>ck (!b) fun b=>k (.bool b)
  |_=>.bad 39
def isEq (op:BinOp):Bool:=match op with|.eql|.neq=>true|_=>false
def pP (P:Program)(op:BinOp)(t:TypeId):Bool:=!isEq op||!P.eqGuardType P.depth t
def eM (a:IntKind):IntKind->Bool :=
 IntKind.rec (motive:=fun _=>IntKind->Bool)
  (fun b=>IntKind.rec (motive:=fun _=>Bool) true false false false false false false false b)
  (fun b=>IntKind.rec (motive:=fun _=>Bool) false true false false false false false false b)
  (fun b=>IntKind.rec (motive:=fun _=>Bool) false false true false false false false false b)
  (fun b=>IntKind.rec (motive:=fun _=>Bool) false false false true false false false false b)
  (fun b=>IntKind.rec (motive:=fun _=>Bool) false false false false true false false false b)
  (fun b=>IntKind.rec (motive:=fun _=>Bool) false false false false false true false false b)
  (fun b=>IntKind.rec (motive:=fun _=>Bool) false false false false false false true false b)
  (fun b=>IntKind.rec (motive:=fun _=>Bool) false false false false false false false true b) a
def vD (mx:Nat)(kd:IntKind)(z:Int)(k:Int->Rs):Rs :=
 Int.rec (motive:=fun _=>Rs) (fun m=>bM (Nat.ble m mx) (bo m fun m=>k (.ofNat m)) (mE (kd.wrap (.ofNat m)) k))
  (fun m=>bM (Nat.ble m mx) (bo m fun m=>k (.negSucc m)) (mE (kd.wrap (.negSucc m)) k)) z
def vE (mx:Nat)(kd:IntKind)(z:Int)(k:Int->Rs):Rs :=
 Int.rec (motive:=fun _=>Rs) (fun m=>bM (Nat.ble m mx) (bo m fun m=>k (.ofNat m)) (mE (kd.wrap (.ofNat m)) k))
  (fun m=>mE (kd.wrap (.negSucc m)) k) z
def tA (kd:IntKind):Int->(Int->Rs)->Rs :=
 IntKind.rec (motive:=fun _=>Int->(Int->Rs)->Rs) (vD 127 .i8) (vD 32767 .i16) (vD 2147483647 .i32) (vD 9223372036854775807 .i64) (vE 255 .u8) (vE 65535 .u16) (vE 4294967295 .u32) (vE 18446744073709551615 .u64) kd
def Pq (a:Int):Int->(Int->Rs)->Rs :=
 Int.rec (motive:=fun _=>Int->(Int->Rs)->Rs)
  (fun m b k=>Int.rec (motive:=fun _=>Rs) (fun n=>bo (Nat.add m n) fun s=>k (.ofNat s)) (fun n=>mE (Int.add (.ofNat m) (.negSucc n)) k) b)
  (fun m b k=>mE (Int.add (.negSucc m) b) k) a
def Pr (a:Int):Int->(Int->Rs)->Rs :=
 Int.rec (motive:=fun _=>Int->(Int->Rs)->Rs)
  (fun m b k=>Int.rec (motive:=fun _=>Rs) (fun n=>bM (Nat.ble n m) (bo (Nat.sub m n) fun s=>k (.ofNat s)) (mE (Int.sub (.ofNat m) (.ofNat n)) k)) (fun n=>mE (Int.sub (.ofNat m) (.negSucc n)) k) b)
  (fun m b k=>mE (Int.sub (.negSucc m) b) k) a
def S8 (a:Int):Int->(Bool->Rs)->Rs :=
 Int.rec (motive:=fun _=>Int->(Bool->Rs)->Rs)
  (fun m b k=>Int.rec (motive:=fun _=>Rs) (fun n=>ck (Nat.ble (Nat.succ m) n) k) (fun n=>ck (decide (Int.ofNat m < .negSucc n)) k) b)
  (fun m b k=>ck (decide (Int.negSucc m<b)) k) a
def Gw (a:Int):Int->(Bool->Rs)->Rs :=
 Int.rec (motive:=fun _=>Int->(Bool->Rs)->Rs)
  (fun m b k=>Int.rec (motive:=fun _=>Rs) (fun n=>ck (Nat.ble m n) k) (fun n=>ck (decide (Int.ofNat m<=.negSucc n)) k) b)
  (fun m b k=>ck (decide (Int.negSucc m<=b)) k) a
def S9 (a:Int):Int->(Bool->Rs)->Rs :=
 Int.rec (motive:=fun _=>Int->(Bool->Rs)->Rs)
  (fun m b k=>Int.rec (motive:=fun _=>Rs) (fun n=>ck (Nat.beq m n) k) (fun n=>k false) b)
  (fun m b k=>Int.rec (motive:=fun _=>Rs) (fun n=>k false) (fun n=>ck (Nat.beq m n) k) b) a
def mF (l m l' m':Nat)(k:Bool->Rs):Rs:=bM (Nat.beq l l') (ck (Nat.beq (jm l m) (jm l' m')) k) (k false)
structure Wp where run:AV->AV->(AV->Rs)->Rs
def E9 (k:AV->Rs)(b:Bool):Rs:=Bool.rec (motive:=fun _=>Rs) (k (.bool true)) (k (.bool false)) b
def Ps (P:Program)(op:BinOp)(t:TypeId):Wp :=
 match op with
 |.add=>⟨fun x y k=>qN x (.bad 39) (fun kd a=>asInt y fun kd' b=>bM (eM kd kd') (Pq a b fun z=>tA kd z fun z=>k (.int kd z)) (.bad 31)) fun l m=>ke y (.bad 39) fun l' m'=>yP .add l m l' m' k⟩
 |.sub=>⟨fun x y k=>asInt x fun kd a=>asInt y fun kd' b=>bM (eM kd kd') (Pr a b fun z=>tA kd z fun z=>k (.int kd z)) (.bad 31)⟩
 |.lss=>⟨fun x y k=>asInt x fun kd a=>asInt y fun kd' b=>bM (eM kd kd') (S8 a b fun b=>k (.bool b)) (.bad 31)⟩
 |.gtr=>⟨fun x y k=>asInt x fun kd a=>asInt y fun kd' b=>bM (eM kd kd') (S8 b a fun b=>k (.bool b)) (.bad 31)⟩
 |.leq=>⟨fun x y k=>asInt x fun kd a=>asInt y fun kd' b=>bM (eM kd kd') (Gw a b fun b=>k (.bool b)) (.bad 31)⟩
 |.geq=>⟨fun x y k=>asInt x fun kd a=>asInt y fun kd' b=>bM (eM kd kd') (Gw b a fun b=>k (.bool b)) (.bad 31)⟩
 |.eql=>⟨fun x y k=>qN x (yQ P .eql t x y k) (fun kd a=>asInt y fun kd' b=>bM (eM kd kd') (S9 a b fun b=>k (.bool b)) (.bad 31)) fun l m=>ke y (.bad 39) fun l' m'=>mF l m l' m' fun b=>k (.bool b)⟩
 |.neq=>⟨fun x y k=>qN x (yQ P .neq t x y k) (fun kd a=>asInt y fun kd' b=>bM (eM kd kd') (S9 a b (E9 k)) (.bad 31)) fun l m=>ke y (.bad 39) fun l' m'=>mF l m l' m' (E9 k)⟩
 |op=>⟨fun x y k=>yQ P op t x y k⟩
def fj (P:Program)(t:TypeId)(f:Nat):Option (Nat×TypeId) :=
 match P.underlying t with
 |some (.struct fs)=>(fs[f]?).map fun f=>(f.offset,f.type)
 |_=>none
def rS (place:Nat->Option (Nat×Nat))(ps:List (Nat×Operand)):Tm->List AV->(List AV->Rs)->Rs :=
 List.rec (motive:=fun _=>Tm->List AV->(List AV->Rs)->Rs) (fun _ cs k=>k cs)
  (fun p _ ih tm cs k=>match place p.1 with
   |none=>.bad 40
   |some (off,size)=>(cQ p.2).run tm fun v=>bM (Nat.beq v.cells.length size) (pM off v.cells cs fun cs=>ih tm cs k) (.bad 41)) ps
def gY (n:Nat)(l:List AV):List AV:=Nat.rec (motive:=fun _=>List AV) [] (fun _ ih=>l++ih) n
def xe (sz:Nat)(n:Nat):List AV->Nat->Tr (List AV)->(Tr (List AV)->Rs)->Rs :=
 Nat.rec (motive:=fun _=>List AV->Nat->Tr (List AV)->(Tr (List AV)->Rs)->Rs) (fun _ _ c k=>k c)
  (fun _ ih cs q c k=>rR sz cs fun l=>pN sz cs fun r=>c.du (bj q) l fun c=>bo (q+1) fun q=>ih r q c k) n
def Dc (n:Nat)(l:List AV):Nat->Tr (List AV)->(Tr (List AV)->Rs)->Rs :=
 Nat.rec (motive:=fun _=>Nat->Tr (List AV)->(Tr (List AV)->Rs)->Rs) (fun _ c k=>k c)
  (fun _ ih q c k=>c.du (bj q) l fun c=>bo (q+1) fun q=>ih q c k) n
def fP (x:Option E8)(tm:Tm)(d:Nat)(k:Nat->Rs):Rs :=
 match x with
 |none=>k d
 |some e=>e.run tm fun v=>asNat v k
def BH (P:Program)(t:TypeId)(x:E8)(lo hi mx:Option E8):OB :=
 match P.underlying t with
 |some .string=>match mx with
  |none=>⟨fun _ tm hp nx k=>x.run tm fun v=>ke v (.bad 51) fun len n=>fP hi tm len fun h=>fP lo tm 0 fun l=>bM (Nat.ble l h&&Nat.ble h len) (bo (Nat.sub h l) fun ln=>bo (Nat.mod (Nat.div n (kO (Nat.sub len h))) (kO ln)) fun m=>k (.str ln m) hp nx) (.bad 50)⟩
  |some _=>dD 52
 |some (.slice el)=>match P.info? el,mx with
  |none,_=>dD 62
  |some _,some _=>dD 49
  |some _,none=>⟨fun _ tm hp nx k=>x.run tm fun v=>match v with
   |.slice id off len cap=>fP hi tm len fun h=>fP lo tm 0 fun l =>
    bM (Nat.ble l h&&Nat.ble h cap)
     (bo (Nat.sub h l) fun ln=>bo (Nat.sub cap l) fun c=>bM (Nat.beq cap l) (k (.slice id off ln c) hp nx) (bo (off+l*af P el) fun off=>k (.slice id off ln c) hp nx)) (.bad 53)
   |.bw id off len skip=>fP hi tm len fun h=>fP lo tm 0 fun l =>
    hp.gx id (.bad 55) fun o=>match o with
    |.bX f ep eZ es n el' c=>vA hp f ep fun _=>bM (Nat.ble l h&&Nat.ble (skip+h) n)
     (bM (Nat.beq l 0&&Nat.blt 0 h) (k (.bw id off h skip) hp nx)
      (bM (Nat.blt (skip+l) n) (bo (Nat.sub h l) fun ln=>bo (off+l*af P el) fun off=>bo (skip+l) fun skip=>k (.bw id off ln skip) hp nx)
       (bM (Nat.beq es (af P el)&&Nat.beq off (skip*es))
         (hp.du f (.cO ep false) fun hp=>hp.du id (.bX f ep false es n el' c) fun hp =>
          newObj hp nx (.bX f ep eZ es 0 el' .e) fun id hp nx=>k (.bw id 0 0 0) hp nx) (.bad 56)))) (.bad 58)
    |_=>.bad 57
   |.ab=>fP hi tm 0 fun h=>fP lo tm 0 fun l=>bM (Nat.beq h 0&&Nat.beq l 0) (k .ab hp nx) (.bad 59)
   |_=>.bad 60⟩
 |_=>dD 61
def grow (hp:Tr AO)(nx:Pz)(el:TypeId)(sz:Nat)(ls:List (List AV))(k:AV->Tr AO->Pz->Rs):Rs :=
 bo ls.length fun n=>E7 ls 0 .e fun c =>
  newObj hp nx (.cO 0 true) fun f hp nx=>newObj hp nx (.bX f 0 true sz n el c) fun id hp nx=>k (.bw id 0 n 0) hp nx
def GN (hp:Tr AO)(nx:Pz)(el:TypeId)(sz:Nat)(c0:Tr (List AV))(len:Nat)(ls:List (List AV))(k:AV->Tr AO->Pz->Rs):Rs :=
 bo (len+ls.length) fun n=>E7 ls len c0 fun c =>
  newObj hp nx (.cO 0 true) fun f hp nx=>newObj hp nx (.bX f 0 true sz n el c) fun id hp nx=>k (.bw id 0 n 0) hp nx
def yR (hp:Tr AO)(nx id f:Pz)(ep:Nat)(eZ:Bool)(es need n0:Nat)(el:TypeId)(c c':Tr (List AV))(k:AV->Tr AO->Pz->Rs):Rs :=
 bo (Bool.rec (motive:=fun _=>Nat) (ep+1) ep eZ) fun ep=>bo n0 fun n0 =>
  hp.du f (.cO ep false) fun hp=>hp.du id (.bX f ep false es n0 el c) fun hp =>
   newObj hp nx (.bX f ep true es need el c') fun id hp nx=>k (.bw id 0 need 0) hp nx
def gZ (n sz:Nat):Bool:=Nat.ble n 1000000&&Nat.ble sz 10000
def yS (sz:Nat)(ls:List (List AV)):Bool:=List.rec (motive:=fun _=>Bool) true (fun l _ ih=>Bool.rec (motive:=fun _=>Bool) false ih (Nat.beq l.length sz&&flat l)) ls
def sZ (hp:Tr AO)(nx:Pz)(el:TypeId)(sz:Nat)(s:AV)(ls:List (List AV))(k:AV->Tr AO->Pz->Rs):Rs :=
 bM (yS sz ls) (bo ls.length fun m=>match s with
 |.ab=>bM (Nat.beq m 0) (k .ab hp nx) (bM (gZ m sz) (grow hp nx el sz ls k) (.bad 70))
 |.slice id off len cap=>bo (len+m) fun need =>
  bM (Nat.ble need cap) (lH id sz ls (off+len*sz) hp fun hp=>k (.slice id off need cap) hp nx)
   (bM (gZ need sz) (JX hp id fun es n c =>
    bM (Nat.beq off 0&&(Nat.beq es sz&&Nat.ble len n)) (GN hp nx el sz c len ls k)
     (jv hp id sz len off fun old=>grow hp nx el sz (old++ls) k)) (.bad 71))
 |.bw id off len skip=>bo (len+m) fun need=>hp.gx id (.bad 72) fun o=>match o with
  |.bX f ep eZ es n el' c=>bM (gZ need sz&&(Nat.beq es sz&&(Nat.beq off (skip*es)&&(Nat.ble (skip+len) n&&Nat.beq el' el))))
   (vA hp f ep fun _=>bM (Nat.ble (skip+need) n) (lH id sz ls (off+len*sz) hp fun hp=>k (.bw id off need skip) hp nx)
     (bM (Nat.beq skip 0) (E7 ls len c fun c'=>yR hp nx id f ep (eZ&&Nat.beq (skip+len) n) es need (skip+len) el' c c' k)
      (jv hp id sz len off fun old=>E7 (old++ls) 0 .e fun c'=>yR hp nx id f ep (eZ&&Nat.beq (skip+len) n) es need (skip+len) el' c c' k))) (.bad 74)
  |_=>.bad 75
 |_=>.bad 76) (.bad 77)
end
end Go.aK
namespace Go.aK
noncomputable section
def JY (P:Program)(t:TypeId)(hp:Tr AO)(v:AV)(k:Nat->Rs):Rs :=
 match P.underlying t,v with
 |some .string,.str l _=>k l
 |some (.array n _),_=>k n
 |some (.slice _),.slice _ _ n _=>k n
 |some (.slice _),.bw _ _ n _=>k n
 |some (.slice _),.ab=>k 0
 |some (.map _ _),.bg=>k 0
 |some (.map _ _),.map id=>hp.gx id (.bad 80) fun o=>match o with
  |.map es _=>k es.length
  |_=>.bad 81
 |_,_=>.bad 82
structure Wq where run:Tr AO->AV->(Nat->Rs)->Rs
def JZ (P:Program)(t:TypeId):Wq :=
 match P.underlying t with
 |some .string=>⟨fun _ v k=>ke v (.bad 82) fun l _=>k l⟩
 |some (.slice _)=>⟨fun _ v k=>GF v (.bad 82) (k 0) (fun _ _ n _=>k n) fun _ _ n _=>k n⟩
 |_=>⟨fun hp v k=>JY P t hp v k⟩
def kP (len:Nat)(n:Nat):List (List AV)->(List (List AV)->Rs)->Rs :=
 Nat.rec (motive:=fun _=>Nat->List (List AV)->(List (List AV)->Rs)->Rs) (fun _ acc k=>k acc)
  (fun _ ih n acc k=>bo (Nat.mod n 256) fun b=>bo (Nat.div n 256) fun n=>ih n ([.int .u8 (.ofNat b)]::acc) k) len n
def lI (hp:Tr AO)(sz:Nat)(v:AV)(k:List (List AV)->Rs):Rs :=
 match v with
 |.ab=>k []
 |.slice id off len _=>jv hp id sz len off k
 |.bw id off len _=>jv hp id sz len off k
 |.str l n=>bM (Nat.beq sz 1) (kP l n [] k) (.bad 83)
 |_=>.bad 84
def mH (ls:List (List AV)):Nat->(Nat->Rs)->Rs :=
 List.rec (motive:=fun _=>Nat->(Nat->Rs)->Rs) (fun n k=>k n)
  (fun l _ ih n k=>vf 0 l fun v=>match v with|.int .u8 (.ofNat b)=>bM (Nat.blt b 256) (bo (n*256+b) fun n=>ih n k) (.bad 85)|_=>.bad 85) ls
def Dd (P:Program)(src dst:TypeId)(x:E8):OB :=
 match P.underlying src,P.underlying dst with
 |some (.int _),some (.int kd)=>dT fun tm k=>x.run tm fun v=>asInt v fun _ n=>tA kd n fun n=>k (.int kd n)
 |some .string,some .string=>dT fun tm k=>x.run tm fun v=>match v with|.str l n=>k (.str l n)|_=>.bad 90
 |some .string,some (.slice e)=>match P.underlying e with
  |some (.int .u8)=>⟨fun _ tm hp nx k=>x.run tm fun v=>match v with
   |.str l n=>kP l n [] fun ls=>bM (gZ l 1) (grow hp nx e 1 ls k) (.bad 91)
   |_=>.bad 92⟩
  |_=>dD 95
 |some (.slice _),some (.slice e)=>match P.underlying e with
  |some (.int .u8)=>⟨fun _ tm hp nx k=>x.run tm fun v=>match v with
   |.slice id off len cap=>bM (Nat.beq src dst) (hp.gx id (.bad 230) fun o=>match o with
    |.arr _ _ _ _=>k (.slice id off len cap) hp nx
    |_=>.bad 231) (.bad 232)
   |_=>.bad 233⟩
  |_=>dD 234
 |some (.slice e),some .string=>match P.underlying e with
  |some (.int .u8)=>⟨fun _ tm hp nx k=>x.run tm fun v=>match v with
   |.str _ _=>.bad 98
   |v=>lI hp 1 v fun ls=>bo ls.length fun l=>mH ls 0 fun n=>k (.str l n) hp nx⟩
  |_=>dD 96
 |_,_=>dD 97
def mg (P:Program)(t:TypeId)(k:AV)(es:List ME):Nat->Rs->(Nat->ME->Rs)->Rs :=
 List.rec (motive:=fun _=>Nat->Rs->(Nat->ME->Rs)->Rs) (fun _ z _=>z)
  (fun e _ ih i z kk=>jS P 9 t k e.key fun b=>bM b (kk i e) (bo (i+1) fun i=>ih i z kk)) es
def BI (P:Program):Nat->TypeId->AV->Bool
 |0,_,_=>false
 |d+1,t,v=>match P.underlying t with
  |some .bool|some (.int _)|some .string=>true
  |some (.struct fs)=>match v with
   |.agg cs=>fs.toList.all fun f=>match ec P f.type with
    |true=>BI P d f.type (.agg ((cs.drop f.offset).take (af P f.type)))
    |false=>match cs[f.offset]? with
     |some v=>BI P d f.type v
     |none=>false
   |_=>false
  |some (.array n e)=>match v with
   |.agg [a,b]=>Nat.beq n 2&&(!ec P e&&((P.info? e).isSome&&Nat.beq (af P e) 1))&&(BI P d e a&&BI P d e b)
   |_=>false
  |_=>false
def kj (P:Program)(t:TypeId)(v:AV)(r:Rs):Rs :=
 match P.underlying t with
 |some .bool|some (.int _)|some .string=>r
 |some (.struct _)|some (.array _ _)=>bM (BI P 4 t v) r (.bad 220)
 |_=>.bad 222
def tB (a b:AV):Bool :=
 match a,b with
 |.bool a,.bool b=>a==b
 |.int j a,.int k b=>decide (j=k)&&a==b
 |.str l m,.str l' m'=>aR l m l' m'
 |_,_=>false
def vF:List AV->List AV->Bool
 | [],[]=>true
 |a::as,b::bs=>tB a b&&vF as bs
 |_,_=>false
def oz (a b:AV):Bool :=
 match a,b with
 |.agg xs,.agg ys=>vF xs ys
 |a,b=>tB a b
def pQ (v:AV)(i:Nat):List ME->(List ME->Rs)->Rs :=
 Nat.rec (motive:=fun _=>List ME->(List ME->Rs)->Rs) (fun l k=>List.rec (motive:=fun _=>Rs) (.bad 100) (fun e t _=>k (⟨e.key,v,e.born⟩::t)) l)
  (fun _ ih l k=>List.rec (motive:=fun _=>Rs) (.bad 100) (fun e t _=>ih t fun t=>k (e::t)) l) i
def vG (e:ME)(l:List ME):(List ME->Rs)->Rs :=
 List.rec (motive:=fun _=>(List ME->Rs)->Rs) (fun k=>k [e]) (fun x _ ih k=>ih fun t=>k (x::t)) l
def De (i:Nat):List ME->(List ME->Rs)->Rs :=
 Nat.rec (motive:=fun _=>List ME->(List ME->Rs)->Rs) (fun l k=>List.rec (motive:=fun _=>Rs) (.bad 101) (fun _ t _=>k t) l)
  (fun _ ih l k=>List.rec (motive:=fun _=>Rs) (.bad 101) (fun e t _=>ih t fun t=>k (e::t)) l) i
def pR (hp:Tr AO)(v:AV)(k:Pz->List ME->Nat->Rs):Rs :=
 ML v (.bad 104) (.bad 104) fun id=>hp.gx id (.bad 102) fun o=>oP o fun es c=>k id es c
def Df (P:Program)(t:TypeId)(m i:E8)(ok:Bool):OB :=
 match P.underlying t with
 |some (.map kt et)=>match zeroOf P et with
  |some z =>
   let out (v:AV) (b:Bool) (k:AV->Rs):Rs:=Bool.rec (motive:=fun _=>Rs) (k v) (k (.cN [v,.bool b])) ok
   ⟨fun _ tm hp nx k=>m.run tm fun m=>i.run tm fun i=>kj P kt i (match m with
    |.bg=>out z false fun v=>k v hp nx
    |m=>pR hp m fun _ es _=>mg P kt i es 0 (out z false fun v=>k v hp nx) fun _ e=>out e.val true fun v=>k v hp nx)⟩
  |none=>dD 105
 |_=>dD 106
def xf (P:Program)(t:TypeId)(m i x:E8):OB :=
 match P.underlying t with
 |some (.map kt _)=>⟨fun _ tm hp nx k=>m.run tm fun m=>i.run tm fun i=>x.run tm fun x=>kj P kt i (pR hp m fun id es c =>
       mg P kt i es 0 (vG ⟨i,x,c⟩ es fun es=>bo (c+1) fun c=>hp.du id (.map es c) fun hp=>k aG hp nx)
        fun j e=>bM (oz e.key i) (pQ x j es fun es=>hp.du id (.map es c) fun hp=>k aG hp nx) (.bad 107))⟩
 |_=>dD 108
def GO (P:Program)(t:TypeId)(m i:E8):OB :=
 match P.underlying t with
 |some (.map kt et)=>match zeroOf P et with
  |some z=>⟨fun _ tm hp nx k=>m.run tm fun m=>i.run tm fun i=>kj P kt i (pR hp m fun id es c =>
   mg P kt i es 0 (vG ⟨i,z,c⟩ es fun es=>bo (c+1) fun c'=>hp.du id (.map es c') fun hp=>k (.cN [z,.int .i64 (.ofNat c)]) hp nx)
    fun _ e=>bM (oz e.key i) (hp.du id (.map es c) fun hp=>k (.cN [e.val,.int .i64 (.ofNat e.born)]) hp nx) (.bad 107))⟩
  |none=>dD 109
 |_=>dD 110
def Dg (b:Nat)(es:List ME):Nat->(Nat->Rs)->Rs :=
 List.rec (motive:=fun _=>Nat->(Nat->Rs)->Rs) (fun _ _=>.bad 111) (fun e _ ih i k=>bM (Nat.beq e.born b) (k i) (bo (i+1) fun i=>ih i k)) es
def yT (m s x:E8):OB :=
 ⟨fun _ tm hp nx k=>m.run tm fun m=>s.run tm fun s=>x.run tm fun x=>pR hp m fun id es c=>asNat s fun b =>
  Dg b es 0 fun j=>pQ x j es fun es=>hp.du id (.map es c) fun hp=>k aG hp nx⟩
def Dh (P:Program)(t:TypeId)(m i:E8):OB :=
 match P.underlying t with
 |some (.map kt _)=>⟨fun _ tm hp nx k=>m.run tm fun m=>i.run tm fun i=>kj P kt i (match m with
       |.bg=>k aG hp nx
       |m=>pR hp m fun id es c=>mg P kt i es 0 (hp.du id (.map es c) fun hp=>k aG hp nx) fun j _=>De j es fun es=>hp.du id (.map es c) fun hp=>k aG hp nx)⟩
 |_=>dD 113
def Pt (a b:Rs):Rs:=Rs.rec (motive:=fun _=>Rs) b (fun n=>.bad n) a
def Ta (b:Nat)(l:List Nat):Bool:=List.rec (motive:=fun _=>Bool) false (fun x _ ih=>Bool.rec (motive:=fun _=>Bool) ih true (Nat.beq x b)) l
def pS (seen:List Nat)(es:List ME)(z:Rs)(k:ME->Rs):Bool->Rs :=
 List.rec (motive:=fun _=>Bool->Rs) (fun some=>Bool.rec (motive:=fun _=>Rs) z .ok some)
  (fun e _ ih some=>Bool.rec (motive:=fun _=>Rs) (Pt (k e) (ih true)) (ih some) (Ta e.born seen)) es
def Pu (since:Nat)(es:List ME):Bool:=List.rec (motive:=fun _=>Bool) true (fun e _ ih=>Bool.rec (motive:=fun _=>Bool) false ih (Nat.blt e.born since)) es
def BJ (P:Program)(t:TypeId)(x:E8):OB :=
 match P.underlying t with
 |some (.map _ _)=>⟨fun _ tm hp nx k=>x.run tm fun v=>ML v (.bad 261) (.bad 262) fun m=>hp.gx m (.bad 263) fun o=>oP o fun es c=>newObj hp nx (.iter m c [] c) fun id hp nx=>k (.ptr id 0) hp nx⟩
 |_=>dD 264
def MN (it:E8):OB :=
 ⟨fun _ tm hp nx k=>it.run tm fun v=>jV v fun id off=>bM (Nat.beq off 0) (hp.gx id (.bad 265) fun o=>xd o fun m since seen at'=>hp.gx m (.bad 266) fun o=>oP o fun es c =>
  bM (Pu since es&&Nat.ble since at') (pS seen es (k (.cN [.bool false]) hp nx) (fun e=>hp.du id (.iter m since (e.born::seen) c) fun hp=>k (.cN [.bool true,e.key,e.val]) hp nx) false) (.bad 267)) (.bad 268)⟩
def GP (b:Nat)(es:List ME):(ME->Rs)->Rs :=
 List.rec (motive:=fun _=>(ME->Rs)->Rs) (fun _=>.bad 269) (fun e _ ih k=>bM (Nat.beq e.born b) (k e) (ih k)) es
def yU (it:E8):OB :=
 ⟨fun _ tm hp nx k=>it.run tm fun v=>jV v fun id off=>bM (Nat.beq off 0) (hp.gx id (.bad 265) fun o=>xd o fun m since seen at'=>hp.gx m (.bad 266) fun o=>oP o fun es c =>
  bM (Nat.beq c at') (List.rec (motive:=fun _=>Rs) (.bad 270) (fun b _ _=>GP b es fun e=>k (.cN [e.key,e.val]) hp nx) seen) (.bad 271)) (.bad 268)⟩
def J0 (mx:Bool)(v y:AV)(k:AV->Rs):Rs :=
 asInt v fun ka a=>asInt y fun kb b=>bM (decide (ka=kb)) (bM (Bool.rec (motive:=fun _=>Bool) (decide (b<a)) (decide (b > a)) mx) (k (.int ka b)) (k (.int ka a))) (.bad 114)
def yV (P:Program)(b:Builtin)(ats:List TypeId)(args:List Operand):OB :=
 match b,ats,args with
 |.len,t::_,[x]=>⟨fun _ tm hp nx k=>(cQ x).run tm fun v=>(JZ P t).run hp v fun n=>k (.int .i64 (.ofNat n)) hp nx⟩
 |.append,[ts,tx],[s,x]=>match P.underlying ts,P.underlying tx with
  |some (.slice _),some (.int _)=>dD 117
  |some (.slice e),some _=>match zeroOf P e with
   |some z=>match Nat.ble (P.bytesOf e) 1000000&&(Nat.beq z.cells.length (af P e)&&Nat.blt 0 (af P e))with
    |true=>⟨fun _ tm hp nx k=>(cQ s).run tm fun s=>(cQ x).run tm fun x=>lI hp (af P e) x fun ls=>sZ hp nx e (af P e) s ls k⟩
    |false=>dD 204
   |none=>dD 205
  |_,_=>dD 118
 |.min,_,[x,y]=>dT fun tm k=>(cQ x).run tm fun a=>(cQ y).run tm fun b=>J0 false a b k
 |.max,_,[x,y]=>dT fun tm k=>(cQ x).run tm fun a=>(cQ y).run tm fun b=>J0 true a b k
 |.delete,t::_,[m,i]=>Dh P t (cQ m) (cQ i)
 |_,_,_=>dD 121
def sL (a:List AV)(b:List AV):List AV:=List.rec (motive:=fun _=>List AV) b (fun x _ ih=>x::ih) a
def iy (p:Pz):Nat:=Pz.rec (motive:=fun _=>Nat) 1 (fun _ ih=>Nat.mul 2 ih) (fun _ ih=>Nat.succ (Nat.mul 2 ih)) p
def lJ:Code->Bool
 |.seq a b=>lJ a&&lJ b
 |.cond _ a b=>lJ a&&lJ b
 |.block _ b=>lJ b
 |.loop b=>lJ b
 |.scope b=>lJ b
 |.rangeFunc _ _ _ _=>false
 |_=>true
def xg (nt:Nat)(ps:List Tmp):List AV->Tm->(Tm->Rs)->Rs :=
 List.rec (motive:=fun _=>List AV->Tm->(Tm->Rs)->Rs) (fun vs tm k=>List.rec (motive:=fun _=>Rs) (k tm) (fun _ _ _=>.bad 285) vs)
  (fun p _ ih vs tm k=>List.rec (motive:=fun _=>Rs) (.bad 285) (fun v vs _=>bM (Nat.blt p nt) ((ve p).run tm v fun tm=>ih vs tm k) (.bad 286)) vs) ps
def iK (id:Pz)(st:LS)(hp:Tr AO)(k:Tr AO->Rs):Rs :=
 hp.gx id (.bad 284) fun o=>lF o fun f nt tm ps x y _=>hp.du id (.loop f nt tm ps x y st) k
def isReady (st:LS)(r:Rs):Rs:=LS.rec (motive:=fun _=>Rs) r (.bad 287) (fun _=>.bad 287) st
def xh (call:bH)(j:Nat)(args:List AV)(hp:Tr AO)(nx:Pz)(k:AV->Tr AO->Pz->Rs):Rs :=
 hp.gx (bj (Nat.pred j)) (.bad 284) fun o=>lF o fun f nt tm ps x y st=>bM (lJ x&&lJ y) (xg nt ps.toList args tm fun tm =>
  call.code f nt x tm hp nx fun e tm hp nx=>Ex.rec (motive:=fun _=>Rs)
   (hp.gx (bj (Nat.pred j)) (.bad 284) fun o=>lF o fun _ _ _ _ _ _ st=>isReady st (iK (bj (Nat.pred j)) .busy hp fun hp =>
    call.code f nt y tm hp nx fun e _ hp nx=>Ex.rec (motive:=fun _=>Rs)
     (iK (bj (Nat.pred j)) .ready hp fun hp=>k (.bool true) hp nx)
     (fun i=>iK (bj (Nat.pred j)) (.done (.ext i)) hp fun hp=>k (.bool false) hp nx)
     (iK (bj (Nat.pred j)) (.done .ret) hp fun hp=>k (.bool false) hp nx) e))
   (fun _=>.bad 288) (.bad 288) e) (.bad 289)
def GQ (P:Program)(c:Call):OB :=
 match c.callee with
 |.builtin b=>yV P b c.argTypes.toList c.args.toList
 |.value f=>⟨fun call tm hp nx k=>(cQ f).run tm fun fv=>yO c.args.toList tm fun vs=>BD fv (.bad 122) fun f first captured=>match f with
  |.func g=>call.run g (sL first (sL vs captured)) hp nx k
  |.yield j=>List.rec (motive:=fun _=>Rs) (List.rec (motive:=fun _=>Rs) (xh call j vs hp nx k) (fun _ _ _=>.bad 122) captured) (fun _ _ _=>.bad 122) first
  |_=>.bad 122⟩
 |.invoke _ _=>dD 123
def ZB (op:UnOp)(v:AV)(k:AV->Rs):Rs :=
 match op,v with
 |.not,.bool b=>ck (!b) fun b=>k (.bool b)
 |.neg,.int kd n=>vC kd (Int.sub 0 n) fun n=>k (.int kd n)
 |op,v=>match GK v with
  |some c=>GL (Op.unary op c) k
  |none=>.bad 138
def yW (P:Program)(o:Oper):OB :=
 match o.op with
 |.move x|.assign x=>dT (cQ x).run
 |.pick c a b=>dT fun tm k=>(cQ c).run tm fun c=>asBool c fun c=>Bool.rec (motive:=fun _=>Rs) ((cQ b).run tm k) ((cQ a).run tm k) c
 |.alloc e=>match zeroOf P e with
  |some z=>⟨fun _ tm hp nx k=>bo z.cells.length fun es=>lG hp nx es 1 e (one z.cells) fun id hp nx=>k (.ptr id 0) hp nx⟩
  |none=>dD 130
 |.box e x=>⟨fun _ tm hp nx k=>(cQ x).run tm fun v=>bo v.cells.length fun es=>lG hp nx es 1 e (one v.cells) fun id hp nx=>k (.ptr id 0) hp nx⟩
 |.build t ps=>match zeroOf P t,P.underlying t with
  |some z,some (.struct fs)=>match fs.toList.mapM (fun f=>(P.info? f.type).map fun i=>(f.offset,i.size))with
   |some places=>dT fun tm k=>rS (fun i=>places[i]?) (ps.toList) tm z.cells fun cs=>k (.agg cs)
   |none=>dD 202
  |some z,some (.array _ e)=>match P.info? e with
   |some _=>dT fun tm k=>rS (fun i=>some (i*af P e,af P e)) (ps.toList) tm z.cells fun cs=>k (.agg cs)
   |none=>dD 203
  |_,_=>dD 131
 |.buildSlice t len ps=>match P.underlying t with
  |some (.slice e)=>match zeroOf P e with
   |some z=>match Nat.ble len 10000&&(Nat.ble (af P e) 1000&&(Nat.beq z.cells.length (af P e)&&Nat.blt 0 (af P e)))with
    |true=>⟨fun _ tm hp nx k=>rS (fun i=>some (i*af P e,af P e)) (ps.toList) tm (gY len z.cells) fun cs=>xe (af P e) len cs 0 .e fun c =>
     lG hp nx (af P e) len e c fun id hp nx=>k (.slice id 0 len len) hp nx⟩
    |false=>dD 132
   |none=>dD 133
  |_=>dD 134
 |.load t a=>match cM P t,ec P t with
  |true,true=>⟨fun _ tm hp nx k=>(cQ a).run tm fun v=>jV v fun id off=>kN hp id off (af P t) fun cs=>k (.agg cs) hp nx⟩
  |true,false=>⟨fun _ tm hp nx k=>(cQ a).run tm fun v=>jV v fun id off=>pO hp id off fun v=>k v hp nx⟩
  |false,_=>dD 198
 |.store t a x=>match P.info? t with
  |some _=>⟨fun _ tm hp nx k=>(cQ a).run tm fun p=>(cQ x).run tm fun v=>jV p fun id off =>
   bM (Nat.beq v.cells.length (af P t)) (jz hp id off v.cells fun hp=>k aG hp nx) (.bad 135)⟩
  |none=>dD 135
 |.nilCheck x=>dT fun tm k=>(cQ x).run tm fun v=>MK v (.bad 136) (fun p o=>k (.ptr p o)) fun f a b=>match f with
  |.func f=>k (.func (.func f) a b)
  |_=>.bad 136
 |.binOp op t x y _=>match pP P op t with
  |true=>dT fun tm k=>(cQ x).run tm fun a=>(cQ y).run tm fun b=>(Ps P op t).run a b k
  |false=>dD 137
 |.unOp op _ x=>dT fun tm k=>(cQ x).run tm fun v=>ZB op v k
 |.convert src dst x=>Dd P src dst (cQ x)
 |.makeFunc fn first captured=>match GI fn with
  |true=>dT fun tm k=>yO first.toList tm fun a=>yO captured.toList tm fun b=>k (.func fn a b)
  |false=>dD 282
 |.makeMap t none=>⟨fun _ tm hp nx k=>newObj hp nx (.map [] 0) fun id hp nx=>k (.map id) hp nx⟩
 |.makeMap t (some r)=>dD 139
 |.makeSlice t l c=>match P.underlying t with
  |some (.slice e)=>match zeroOf P e with
   |some z=>match Nat.beq z.cells.length (af P e)&&(Nat.ble (af P e) 1000&&(Nat.blt 0 (af P e)&&Nat.ble (P.bytesOf e) 1000000))with
    |true=>⟨fun _ tm hp nx k=>(cQ l).run tm fun l=>(cQ c).run tm fun c=>asNat l fun l=>asNat c fun c=>bM (Nat.ble l c&&Nat.ble c 10000)
     (Dc c z.cells 0 .e fun cs=>lG hp nx (af P e) c e cs fun id hp nx=>k (.slice id 0 l c) hp nx) (.bad 140)⟩
    |false=>dD 141
   |none=>dD 142
  |_=>dD 143
 |.slice t x lo hi mx=>BH P t (cQ x) (lo.map cQ) (hi.map cQ) (mx.map cQ)
 |.fieldAddr t x f=>match fj P t f with
  |some (off,ft)=>match Nat.beq (af P ft) 0 with
   |false=>dT fun tm k=>(cQ x).run tm fun v=>jV v fun id o=>bo (o+off) fun o=>k (.ptr id o)
   |true=>dD 144
  |none=>dD 145
 |.field t x f=>match fj P t f with
  |some (off,ft)=>match cM P ft,ec P ft with
   |false,_=>dD 199
   |true,true=>dT fun tm k=>(cQ x).run tm fun v=>GC v (.bad 146) fun cs=>pN off cs fun cs=>rR (af P ft) cs fun cs=>k (.agg cs)
   |true,false=>dT fun tm k=>(cQ x).run tm fun v=>GC v (.bad 147) fun cs=>vf off cs k
  |none=>dD 148
 |.indexAddr t x i=>match P.underlying t with
  |some (.slice e)=>match P.info? e with
   |some _=>dT fun tm k=>(cQ x).run tm fun v=>(cQ i).run tm fun i=>asNat i fun i=>GF v (.bad 151) (.bad 151)
    (fun id off len _=>bM (Nat.blt i len) (bo (off+i*af P e) fun o=>k (.ptr id o)) (.bad 149))
    (fun id off len _=>bM (Nat.blt i len) (bo (off+i*af P e) fun o=>k (.ptr id o)) (.bad 150))
   |none=>dD 153
  |some (.array n e)=>match P.info? e with
   |some _=>dT fun tm k=>(cQ x).run tm fun v=>(cQ i).run tm fun i=>asNat i fun i=>jV v fun id off =>
    bM (Nat.blt i n) (bo (off+i*af P e) fun o=>k (.ptr id o)) (.bad 152)
   |none=>dD 153
  |_=>dD 153
 |.index t x i=>match P.underlying t with
  |some .string=>dT fun tm k=>(cQ x).run tm fun v=>(cQ i).run tm fun i=>asNat i fun i=>ke v (.bad 155) fun l n=>bM (Nat.blt i l) (bo (Nat.mod (Nat.shiftRight n (Nat.mul 8 (Nat.sub l (Nat.succ i)))) 256) fun b=>k (.int .u8 (.ofNat b))) (.bad 154)
  |_=>dD 160
 |.lookup t m i ok=>Df P t (cQ m) (cQ i) ok
 |.mapUpdate t m i x|.insert t m i x=>xf P t (cQ m) (cQ i) (cQ x)
 |.mapEntry t m i=>GO P t (cQ m) (cQ i)
 |.entryStore _ m s x=>yT (cQ m) (cQ s) (cQ x)
 |.makeInterface t x=>match P.underlying t with
  |some (.interface _)=>dD 161
  |some _=>dT fun tm k=>(cQ x).run tm fun v=>k (.iface t v)
  |none=>dD 162
 |.extract x i=>dT fun tm k=>(cQ x).run tm fun v=>GD v (.bad 163) fun vs=>vf i vs k
 |.call c=>GQ P c
 |.range t x=>BJ P t (cQ x)
 |.next it false=>MN (cQ it)
 |.entry it=>yU (cQ it)
 |_=>dD 164
structure SB where run:bH->Tm->Tr AO->Pz->(Tm->Tr AO->Pz->Rs)->Rs
def lK (nt:Nat)(d:Option Tmp)(b:OB):SB :=
 match d with
 |none=>⟨fun call tm hp nx k=>b.run call tm hp nx fun _ hp nx=>k tm hp nx⟩
 |some t=>match Nat.blt t nt with
  |true=>⟨fun call tm hp nx k=>b.run call tm hp nx fun v hp nx=>(ve t).run tm v fun tm=>k tm hp nx⟩
  |false=>⟨fun _ _ _ _ _=>.bad 170⟩
def oQ (a b:Bool):Bool:=Bool.rec (motive:=fun _=>Bool) (Bool.rec (motive:=fun _=>Bool) true false b) (Bool.rec (motive:=fun _=>Bool) false true b) a
def mJ (ops:Array Oper)(nt:Nat)(j:Nat):Option Tmp :=
 match (ops[j]?).bind (·.dst)with
 |some d=>if Nat.blt d nt then some d else none
 |none=>none
def e7 (P:Program)(nt:Nat)(ops:Array Oper)(o:Oper):SB :=
 match o.guard with
 |none=>lK nt o.dst (yW P o)
 |some (j,want)=>match mJ ops nt j with
  |none=>⟨fun _ _ _ _ _=>.bad 171⟩
  |some d=>⟨fun call tm hp nx k=>(pL d).run tm fun v=>GG v ((lK nt o.dst (dT fun _ k=>k aG)).run call tm hp nx k) fun b =>
   bM (oQ b want) ((lK nt o.dst (yW P o)).run call tm hp nx k) ((lK nt o.dst (dT fun _ k=>k aG)).run call tm hp nx k)⟩
def dk (P:Program)(nt:Nat)(ops:Array Oper)(l:List Oper):SB :=
 List.rec (motive:=fun _=>SB) ⟨fun _ tm hp nx k=>k tm hp nx⟩ (fun o _ ih=>⟨fun call tm hp nx k=>(e7 P nt ops o).run call tm hp nx fun tm hp nx=>ih.run call tm hp nx k⟩) l
def fQ (P:Program)(o:Oper):Bool :=
 match o.op with
 |.move _|.assign _|.pick ..|.build ..|.load ..|.nilCheck _|.binOp ..|.unOp ..|.makeFunc ..|.fieldAddr ..|.field ..|.indexAddr ..|.index ..|.lookup ..|.makeInterface ..|.extract ..=>true
 |.convert src dst _=>match P.underlying src,P.underlying dst with
  |some (.int _),some (.int _)=>true
  |some .string,some .string=>true
  |some (.slice _),some .string=>true
  |_,_=>false
 |.slice t _ _ _ none=>match P.underlying t with|some .string=>true|_=>false
 |.call c=>match c.callee with
  |.builtin .len|.builtin .min|.builtin .max=>true
  |_=>false
 |_=>false
def g8 (P:Program)(o:Oper):Bool :=
 match o.op with
 |.move _|.assign _|.pick ..|.build ..|.nilCheck _|.binOp ..|.unOp ..|.makeFunc ..|.fieldAddr ..|.field ..|.indexAddr ..|.index ..|.makeInterface ..|.extract ..=>true
 |.convert src dst _=>match P.underlying src,P.underlying dst with
  |some (.int _),some (.int _)=>true
  |some .string,some .string=>true
  |_,_=>false
 |_=>false
def vg (P:Program)(o:Oper):Bool :=
 match o.op with
 |.alloc _|.box ..|.buildSlice ..|.makeMap ..=>true
 |_=>false
structure Ph where
 es:List Nat
 rs:List Nat
 sp:List Nat
 fs:List Nat
 h:Option Nat
 h2:Option (Nat×List Nat×List Nat)
def qO (p:Pz):Pz->Bool :=
 Pz.rec (motive:=fun _=>Pz->Bool) (fun q=>Pz.rec (motive:=fun _=>Bool) true (fun _ _=>false) (fun _ _=>false) q)
  (fun _ ih q=>Pz.rec (motive:=fun _=>Bool) false (fun q _=>ih q) (fun _ _=>false) q)
  (fun _ ih q=>Pz.rec (motive:=fun _=>Bool) false (fun _ _=>false) (fun q _=>ih q) q) p
def VU (a b:AV):Bool :=
 match a,b with
 |.bool a,.bool b=>a==b
 |.int j a,.int k b=>decide (j=k)&&a==b
 |.str l m,.str l' m'=>Nat.beq l l'&&Nat.beq m m'
 |.float j a,.float k b=>decide (j=k)&&Nat.beq a b
 |.ptr p o,.ptr q o'=>qO p q&&Nat.beq o o'
 |.c7,.c7=>true
 |.slice p o l c,.slice q o' l' c'=>qO p q&&(Nat.beq o o'&&(Nat.beq l l'&&Nat.beq c c'))
 |.bw p o l c,.bw q o' l' c'=>qO p q&&(Nat.beq o o'&&(Nat.beq l l'&&Nat.beq c c'))
 |.ab,.ab=>true
 |.map p,.map q=>qO p q
 |.bg,.bg=>true
 |.cJ,.cJ=>true
 |.nilIface,.nilIface=>true
 |_,_=>false
def VV (f:AV->AV->Bool)(a:List AV):List AV->Bool :=
 List.rec (motive:=fun _=>List AV->Bool) (fun b=>List.rec (motive:=fun _=>Bool) true (fun _ _ _=>false) b)
  (fun x _ ih b=>List.rec (motive:=fun _=>Bool) false (fun y t _=>Bool.rec (motive:=fun _=>Bool) false (ih t) (f x y)) b) a
def Pv (a b:AV):Bool :=
 match a,b with
 |.agg x,.agg y=>VV VU x y
 |a,b=>VU a b
def VW (a b:AV):Bool :=
 match a,b with
 |.cN x,.cN y=>VV Pv x y
 |a,b=>Pv a b
def ae (ops:Array Oper)(i:Nat):Oper:=ops.getD i default
def Pw (n:Nat):SB:=⟨fun _ _ _ _ _=>.bad n⟩
def BL (P:Program)(nt:Nat)(ops:Array Oper)(o:Oper):SB :=
 match o.dst with
 |none=>⟨fun call tm hp nx K=>(e7 P nt ops o).run call tm hp nx fun _ _ _=>K tm hp nx⟩
 |some d=>⟨fun call tm hp nx K=>(e7 P nt ops o).run call tm hp nx fun tm' _ _=>(pL d).run tm' fun v=>(pL d).run tm fun u=>bM (VW v u) (K tm hp nx) (.bad 213)⟩
def jA (P:Program)(nt:Nat)(ops:Array Oper)(l:List Oper):SB :=
 List.rec (motive:=fun _=>SB) ⟨fun _ tm hp nx k=>k tm hp nx⟩ (fun o _ ih=>⟨fun call tm hp nx k=>(BL P nt ops o).run call tm hp nx fun tm hp nx=>ih.run call tm hp nx k⟩) l
mutual
def rT:AV->AV->Bool
 |.bool a,.bool b=>a==b
 |.int j a,.int k b=>decide (j=k)&&a==b
 |.str l m,.str l' m'=>Nat.beq l l'&&Nat.beq m m'
 |.float j a,.float k b=>decide (j=k)&&Nat.beq a b
 |.ptr p o,.ptr q o'=>qO p q&&Nat.beq o o'
 |.c7,.c7=>true
 |.slice p o l c,.slice q o' l' c'=>qO p q&&(Nat.beq o o'&&(Nat.beq l l'&&Nat.beq c c'))
 |.bw p o l c,.bw q o' l' c'=>qO p q&&(Nat.beq o o'&&(Nat.beq l l'&&Nat.beq c c'))
 |.ab,.ab=>true
 |.map p,.map q=>qO p q
 |.bg,.bg=>true
 |.func f a b,.func g c d=>decide (f=g)&&(tC a c&&tC b d)
 |.cJ,.cJ=>true
 |.iface t v,.iface u x=>Nat.beq t u&&rT v x
 |.nilIface,.nilIface=>true
 |.agg xs,.agg ys=>tC xs ys
 |.cN xs,.cN ys=>tC xs ys
 |_,_=>false
def tC:List AV->List AV->Bool
 | [],[]=>true
 |x::xs,y::ys=>rT x y&&tC xs ys
 |_,_=>false
end
def Di:Tr (List AV)->Tr (List AV)->Bool
 |.e,.e=>true
 |.n l none r,.n l' none r'=>Di l l'&&Di r r'
 |.n l (some v) r,.n l' (some v') r'=>tC v v'&&(Di l l'&&Di r r')
 |_,_=>false
def Fa:List ME->List ME->Bool
 | [],[]=>true
 |x::xs,y::ys=>rT x.key y.key&&(rT x.val y.val&&(Nat.beq x.born y.born&&Fa xs ys))
 |_,_=>false
def Wr:AO->AO->Bool
 |.arr es n el c,.arr es' n' el' c'=>Nat.beq es es'&&(Nat.beq n n'&&(Nat.beq el el'&&Di c c'))
 |.bX f ep tp es n el c,.bX f' ep' tp' es' n' el' c'=>qO f f'&&(Nat.beq ep ep'&&(oQ tp tp'&&(Nat.beq es es'&&(Nat.beq n n'&&(Nat.beq el el'&&Di c c')))))
 |.cO ep s,.cO ep' s'=>Nat.beq ep ep'&&oQ s s'
 |.map es c,.map es' c'=>Nat.beq c c'&&Fa es es'
 |.gv,.gv=>true
 |.gone,.gone=>true
 |.iter m s l c,.iter m' s' l' c'=>qO m m'&&(Nat.beq s s'&&(decide (l=l')&&Nat.beq c c'))
 |_,_=>false
def pT:Tr AO->Tr AO->Bool
 |.e,_=>true
 |.n l none r,.n l' _ r'=>pT l l'&&pT r r'
 |.n l (some v) r,.n l' (some v') r'=>Wr v v'&&(pT l l'&&pT r r')
 |.n _ _ _,_=>false
def Dj {α:Type}(f:α->α->Bool)(a b:gJ α):Bool :=
 f a.a0 b.a0&&(f a.a1 b.a1&&(f a.a2 b.a2&&(f a.a3 b.a3&&(f a.a4 b.a4&&(f a.a5 b.a5&&(f a.a6 b.a6&&f a.a7 b.a7))))))
def qP {α:Type}(f:α->α->Bool):Tr α->Tr α->Bool
 |.e,.e=>true
 |.n l none r,.n l' none r'=>qP f l l'&&qP f r r'
 |.n l (some v) r,.n l' (some v') r'=>f v v'&&(qP f l l'&&qP f r r')
 |_,_=>false
def vH:List Pz->List Pz->Bool
 | [],[]=>true
 |x::xs,y::ys=>qO x y&&vH xs ys
 |_,_=>false
def Px (a b:Tm):Bool:=Dj (Dj rT) a.lo b.lo&&(qP rT a.hi b.hi&&vH a.ml b.ml)
def Ws (P:Program)(nt:Nat)(ops:Array Oper)(es rs sp fs:List Nat)(rest:SB)(h:Option Nat):SB :=
 ⟨fun call tm hp nx K =>
  (dk P nt ops (es.map (ae ops))).run call tm hp nx fun tm hp nx =>
  (jA P nt ops (rs.map (ae ops))).run call tm hp nx fun tm hp nx =>
  (dk P nt ops (sp.map (ae ops))).run call tm hp nx fun _ _ _ =>
  (dk P nt ops (fs.map (ae ops))).run call tm hp nx fun tm hp nx =>
  Option.rec (motive:=fun _=>Rs) (K tm hp nx) (fun h=>(e7 P nt ops (ae ops h)).run call tm hp nx fun tm hp nx=>rest.run call tm hp nx K) h⟩
def vI (P:Program)(nt:Nat)(ops:Array Oper)(h:Nat)(rs:List Nat):SB :=
 Ws P nt ops [] rs [] [] (Ws P nt ops [] [] [] [] (Pw 210) none) (some h)
def xi (K:Tm->Tr AO->Pz->Rs)(tmA:Tm)(hpA:Tr AO)(nxA:Pz)(tmB:Tm)(hpB:Tr AO)(nxB:Pz):Rs :=
 bM (Px tmA tmB) (bM (qO nxA nxB) (bM (pT hpA hpB) (K tmA hpA nxA) (.bad 252)) (.bad 251)) (.bad 250)
def BM (P:Program)(nt:Nat)(ops:Array Oper)(hA hB:Nat)(rsB:List Nat)(call:bH)(tm:Tm)(hp:Tr AO)(nx:Pz)(K:Tm->Tr AO->Pz->Rs)(tmA:Tm)(hpA:Tr AO)(nxA:Pz):Rs :=
 (e7 P nt ops (ae ops hB)).run call tm hp nx fun tm hp nx=>(vI P nt ops hA rsB).run call tm hp nx (xi K tmA hpA nxA)
def MO (P:Program)(nt:Nat)(ops:Array Oper)(hA hB:Nat)(rsA rsB:List Nat)(call:bH)(tm:Tm)(hp:Tr AO)(nx:Pz)(K:Tm->Tr AO->Pz->Rs):Rs :=
 (e7 P nt ops (ae ops hA)).run call tm hp nx fun tm' hp' nx'=>(vI P nt ops hB rsA).run call tm' hp' nx' (BM P nt ops hA hB rsB call tm hp nx K)
def SD (P:Program)(nt:Nat)(ops:Array Oper)(ph:Ph)(rest:SB):SB :=
 match ph.h2 with
 |none=>Ws P nt ops ph.es ph.rs ph.sp ph.fs rest ph.h
 |some (hB,rsA,rsB)=>match ph.h with
  |some hA=>⟨fun call tm hp nx K=>(dk P nt ops (ph.es.map (ae ops))).run call tm hp nx fun tm hp nx =>
   (jA P nt ops (ph.rs.map (ae ops))).run call tm hp nx fun tm hp nx=>MO P nt ops hA hB rsA rsB call tm hp nx K⟩
  |none=>Pw 253
def oA (P:Program)(nt:Nat)(ops:Array Oper)(plan:List Ph):SB :=
 List.rec (motive:=fun _=>SB) (Pw 210) (fun ph _ ih=>SD P nt ops ph ih) plan
def lk (ops:Array Oper)(i j:Nat):Bool:=match (ae ops j).dst with|some d=>((ae ops i).looksAt ops).contains d|none=>false
def bit (b:Array Nat)(j i:Nat):Bool:=(b.getD j 0).testBit i
def BN (ops:Array Oper)(E F CF:List Nat):List Nat->List Nat->Bool
 | [],_=>true
 |i::l,CE=>E.contains i&&!CE.contains i&&(F.all fun f=>!(lk ops i f)||CF.contains f)&&(E.all fun e=>!(lk ops i e)||CE.contains e)&&BN ops E F CF l (i::CE)
def sM (ops:Array Oper)(E F CE:List Nat):List Nat->List Nat->Bool
 | [],_=>true
 |f::l,CF=>F.contains f&&!CF.contains f&&(F.all fun g=>!(lk ops f g)||CF.contains g)&&(E.all fun e=>!(lk ops f e)||CE.contains e)&&sM ops E F CE l (f::CF)
def tD (o:Oper):Bool:=(match o.op with|.store ..=>true|_=>false)&&(o.dst.isNone&&o.guard.isNone)
def xj (h:Nat)(rs:List Nat):List Ph:=[⟨[],rs,[],[],some h,none⟩,⟨[],[],[],[],none,none⟩]
def xk (ops:Array Oper)(b:Array Nat)(E F H:List Nat)(h:Nat)(rs:List Nat)(CE CF CH:List Nat):Bool :=
 (rs.all fun i=>CE.contains i&&(F.all fun f=>!(lk ops i f)||CF.contains f)) &&
 (E.all fun i=>CE.contains i)&&(F.all fun f=>CF.contains f)&&(H.all fun i=>(h::CH).contains i)&&(H.contains h&&!CH.contains h) &&
 (E.all fun i=>rs.contains i||bit b i h||(CH.any fun h=>bit b h i))&&(E.all fun i=>(h::CH).any fun h=>bit b h i)
def pU (ops:Array Oper)(b:Array Nat)(E F H:List Nat):List Ph->List Nat->List Nat->List Nat->Bool
 | [],_,_,_=>false
 |ph::rest,CE,CF,CH =>
  BN ops E F CF ph.es CE &&
  (ph.rs.all fun i=>CE.contains i&&(F.all fun f=>!(lk ops i f)||CF.contains f)) &&
  (E.all fun i=>ph.es.contains i||ph.rs.contains i||(H.any fun h=>!CH.contains h&&bit b i h)||(CH.any fun h=>bit b h i)) &&
  (F.all fun f=>CF.contains f||ph.sp.contains f||(H.any fun h=>!CH.contains h&&bit b f h)) &&
  sM ops E F (ph.es.reverse++CE) ph.sp CF &&
  sM ops E F (ph.es.reverse++CE) ph.fs CF &&
  match ph.h,ph.h2 with
  |some h,none=>H.contains h&&!CH.contains h&&(H.all fun h'=>CH.contains h'||h'==h||bit b h' h)&&(F.all fun f=>!(lk ops h f)||(ph.fs.reverse++CF).contains f) &&
   (F.all fun f=>(ph.fs.reverse++CF).contains f||!(lk ops f h)||bit b f h)&&(ph.fs.all fun f=>bit b h f)&&pU ops b E F H rest (ph.es.reverse++CE) (ph.fs.reverse++CF) (h::CH)
  |some h,some (h2,rsA,rsB)=>(ph.sp.isEmpty&&ph.fs.isEmpty&&rest.isEmpty)&&(H.contains h&&!CH.contains h)&&(H.contains h2&&!CH.contains h2)&&(!(h==h2))&&(H.all fun h'=>CH.contains h'||h'==h||h'==h2)&&(F.all fun f=>CF.contains f) &&
   tD (ae ops h)&&tD (ae ops h2)&&xk ops b E F H h2 rsA (ph.es.reverse++CE) CF (h::CH)&&xk ops b E F H h rsB (ph.es.reverse++CE) CF (h2::CH)
  |none,_=>(E.all fun i=>(ph.es.reverse++CE).contains i)&&(F.all fun i=>(ph.fs.reverse++CF).contains i)&&(H.all fun i=>CH.contains i)
def jB (o:Oper):Bool:=match o.op with|.select ..=>false|_=>true
def Dk (P:Program)(o:Oper):Bool:=g8 P o||(vg P o&&o.guard.isNone&&o.dst.isSome)
def Py (ph:Ph):List Nat:=ph.h.toList++(ph.h2.map (·.1)).toList
def BO (P:Program)(ops:Array Oper)(plan:List Ph):Bool :=
 let b:=Region.before ops
 let rg:=List.range ops.size
 let E:=plan.flatMap (·.es)
 let F:=plan.flatMap (·.fs)
 let H:=plan.flatMap Py
 (rg.all fun i=>(E.contains i&&!F.contains i&&!H.contains i)||(!E.contains i&&F.contains i&&!H.contains i)||(!E.contains i&&!F.contains i&&H.contains i)) &&
 (E.all fun i=>decide (i<ops.size))&&(F.all fun i=>decide (i<ops.size))&&(H.all fun i=>decide (i<ops.size)) &&
 (rg.all fun i=>(ae ops i).after.toList.all fun e=>!(Region.binds .any e)||decide (e.on<i)) &&
 (E.all fun i=>fQ P (ae ops i))&&(F.all fun i=>Dk P (ae ops i))&&(rg.all fun i=>jB (ae ops i)) &&
 (rg.all fun i=>(E++F).all fun j=>(!(lk ops i j)||bit b i j)&&(i==j||(ae ops j).dst.isNone||(ae ops i).dst != (ae ops j).dst)) &&
 pU ops b E F H plan [] [] []
def tE (P:Program)(ops:Array Oper)(plan:List Ph):Bool:=plan.isEmpty||BO P ops plan
structure CB where run:Nat->bH->Tm->Tr AO->Pz->(Ex->Tm->Tr AO->Pz->Rs)->Rs
def BP (P:Program)(g:Nat):Bool:=match P.funcs[g]? with|some fn=>!fn.body.isNone&&!(fn.name == "runtime.NumGoroutine")|none=>false
def oR (P:Program)(fid nt:Nat)(g:Operand)(ps:Array Tmp)(x y:Code)(call:bH)(tm:Tm)(hp:Tr AO)(nx:Pz)(K:Ex->Tm->Tr AO->Pz->Rs):Rs :=
 (cQ g).run tm fun fv=>BD fv (.bad 281) fun f first captured=>match f,first with
  |.func gf,[]=>bM (BP P gf) (newObj hp nx .gv fun idD hp nx=>newObj hp nx (.loop fid nt ⟨tm.lo,tm.hi,[]⟩ ps x y .ready) fun idL hp nx =>
   call.run gf (.func (.yield (iy idL)) [] []::captured) hp nx fun _ hp nx =>
    hp.gx idL (.bad 284) fun o=>lF o fun _ _ _ _ _ _ st=>hp.du idL .gone fun hp =>
     LS.rec (motive:=fun _=>Rs) (K .gE ⟨tm.lo,tm.hi,idD::tm.ml⟩ hp nx) (.bad 287) (fun e=>Ex.rec (motive:=fun _=>Rs) (.bad 287) (fun i=>K (.ext i) ⟨tm.lo,tm.hi,idD::tm.ml⟩ hp nx) (K .ret ⟨tm.lo,tm.hi,idD::tm.ml⟩ hp nx) e) st) (.bad 283)
  |_,_=>.bad 281
def yX (P:Program)(fid nt:Nat)(pl:Nat->List Ph)(c:Code):CB :=
 Code.rec (motive:=fun _=>CB)
  ⟨fun _ _ tm hp nx K=>K .gE tm hp nx⟩
  (fun id ops draw=>match draw with
   |false=>⟨fun _ call tm hp nx K=>(dk P nt ops ops.toList).run call tm hp nx fun tm hp nx=>K .gE tm hp nx⟩
   |true=>⟨fun _ call tm hp nx K=>(oA P nt ops (pl id)).run call tm hp nx fun tm hp nx=>K .gE tm hp nx⟩)
  (fun _ _ a b=>⟨fun fu call tm hp nx K=>a.run fu call tm hp nx fun e tm hp nx=>Ex.rec (motive:=fun _=>Rs) (b.run fu call tm hp nx K) (fun id=>K (.ext id) tm hp nx) (K .ret tm hp nx) e⟩)
  (fun c _ _ a b=>⟨fun fu call tm hp nx K=>(cQ c).run tm fun v=>asBool v fun v=>Bool.rec (motive:=fun _=>Rs) (b.run fu call tm hp nx K) (a.run fu call tm hp nx K) v⟩)
  (fun id _ b=>⟨fun fu call tm hp nx K=>b.run fu call tm hp nx fun e tm hp nx=>Ex.rec (motive:=fun _=>Rs) (K .gE tm hp nx) (fun j=>bM (Nat.beq j id) (K .gE tm hp nx) (K (.ext j) tm hp nx)) (K .ret tm hp nx) e⟩)
  (fun _ b=>⟨fun fu call tm hp nx K=>(Nat.rec (motive:=fun _=>Tm->Tr AO->Pz->Rs) (fun _ _ _=>.bad 180)
   (fun _ ih tm hp nx=>b.run fu call tm hp nx fun e tm hp nx=>Ex.rec (motive:=fun _=>Rs) (ih tm hp nx) (fun j=>K (.ext j) tm hp nx) (K .ret tm hp nx) e) fu) tm hp nx⟩)
  (fun g ps x y _ _=>⟨fun _ call tm hp nx K=>oR P fid nt g ps x y call tm hp nx K⟩)
  (fun id=>⟨fun _ _ tm hp nx K=>K (.ext id) tm hp nx⟩)
  (fun _ b=>b)
  (fun _=>⟨fun _ _ tm hp nx K=>K .gE tm hp nx⟩)
  (fun _=>⟨fun _ _ _ _ _ _=>.bad 182⟩)
  ⟨fun _ _ tm hp nx K=>K .ret tm hp nx⟩
  (fun _=>⟨fun _ _ _ _ _ _=>.bad 183⟩)
  c
def dE (P:Program)(pl:Nat->List Ph):Code->Bool
 |.region id ops true=>tE P ops (pl id)
 |.seq a b=>dE P pl a&&dE P pl b
 |.cond _ a b=>dE P pl a&&dE P pl b
 |.block _ b=>dE P pl b
 |.loop b=>dE P pl b
 |.scope b=>dE P pl b
 |.rangeFunc _ _ x y=>lJ x&&lJ y
 |_=>true
structure FB where run:Nat->bH->List AV->Tr AO->Pz->(AV->Tr AO->Pz->Rs)->Rs
def mK (vs:List AV):Nat->Tm->(Tm->Rs)->Rs :=
 List.rec (motive:=fun _=>Nat->Tm->(Tm->Rs)->Rs) (fun _ t k=>k t) (fun v _ ih i t k=>(ve i).run t v fun t=>bo (Nat.succ i) fun i=>ih i t k) vs
def BQ (P:Program)(r:ResultVar)(tm:Tm)(hp:Tr AO)(k:AV->Rs):Rs :=
 match r with
 |.tmp t=>(pL t).run tm k
 |.cell a t=>(pL a).run tm fun v=>jV v fun id off =>
  match cM P t,ec P t with
  |false,_=>.bad 200
  |true,true=>kN hp id off (af P t) fun cs=>k (.agg cs)
  |true,false=>pO hp id off k
def qQ (P:Program)(rs:List ResultVar):Tm->Tr AO->(List AV->Rs)->Rs :=
 List.rec (motive:=fun _=>Tm->Tr AO->(List AV->Rs)->Rs) (fun _ _ k=>k []) (fun r _ ih tm hp k=>BQ P r tm hp fun v=>ih tm hp fun vs=>k (v::vs)) rs
def GR (l:List Pz):Tr AO->(Tr AO->Rs)->Rs :=
 List.rec (motive:=fun _=>Tr AO->(Tr AO->Rs)->Rs) (fun hp k=>k hp) (fun id _ ih hp k=>hp.gx id (.bad 292) fun o=>BF o (hp.du id .gone fun hp=>ih hp k)) l
def J1 (vs:List AV)(k:AV->Rs):Rs :=
 match vs with
 | [v]=>k v
 |vs=>k (.cN vs)
def VX (P:Program)(Pl:Nat->Nat->List Ph)(f:Nat):FB :=
 match P.funcs[f]? with
 |some fn=>match fn.body with
  |some c=>match fn.name == "runtime.NumGoroutine" with
   |false=>⟨fun fu call args hp nx k=>bM (Nat.ble args.length fn.ntmps) (mK args 0 .e fun tm=>(yX P f fn.ntmps (Pl f) c).run fu call tm hp nx fun e tm hp nx =>
    Ex.rec (motive:=fun _=>Rs) (GR tm.ml hp fun hp=>qQ P fn.results.toList tm hp fun vs=>J1 vs fun v=>k v hp nx) (fun _=>.bad 191) (GR tm.ml hp fun hp=>qQ P fn.results.toList tm hp fun vs=>J1 vs fun v=>k v hp nx) e) (.bad 192)⟩
   |true=>⟨fun _ _ _ _ _ _=>.bad 193⟩
  |none=>match fn.name == "math.Float64frombits"&&(fn.origin == "math.Float64frombits"||fn.origin == "")with
   |true=>⟨fun _ _ args hp nx k=>(match args with
    | [.int .u64 (.ofNat n)]=>k (.float .f64 n) hp nx
    |_=>.bad 197)⟩
   |false=>⟨fun _ _ _ _ _ _=>.bad 194⟩
 |none=>⟨fun _ _ _ _ _ _=>.bad 195⟩
def Tb (P:Program)(Pl:Nat->Nat->List Ph)(fu:Nat)(ih:bH)(f nt:Nat)(c:Code)(tm:Tm)(hp:Tr AO)(nx:Pz)(K:Ex->Tm->Tr AO->Pz->Rs):Rs :=
 bM (dE P (Pl f) c) ((yX P f nt (Pl f) c).run fu ih tm hp nx K) (.bad 293)
end
end Go.aK
namespace Go.aK
open Go.RowKit
def Tr.get {α:Type}:Tr α->Pz->Option α
 |.e,_=>none
 |.n _ v _,.h=>v
 |.n l _ _,.o p=>l.get p
 |.n _ _ r,.i p=>r.get p
def Tr.set {α:Type}:Tr α->Pz->α->Tr α
 |.e,.h,x=>.n .e (some x) .e
 |.e,.o p,x=>.n (Tr.e.set p x) none .e
 |.e,.i p,x=>.n .e none (Tr.e.set p x)
 |.n l _ r,.h,x=>.n l (some x) r
 |.n l v r,.o p,x=>.n (l.set p x) v r
 |.n l v r,.i p,x=>.n l v (r.set p x)
theorem Tr.gy {α:Type}(p:Pz):(Tr.e:Tr α).get p=none:=by cases p<;>rfl
theorem Tr.Dl {α:Type}(p:Pz):∀(t:Tr α)(z:Rs)(k:α->Rs),t.gx p z k=match t.get p with|some v=>k v|none=>z:=by
 induction p with
 |h=>intro t z k;cases t with
  |e=>rfl
  |n l v r=>cases v<;>rfl
 |o p ih=>intro t z k;cases t with
  |e=>rfl
  |n l v r=>exact ih l z k
 |i p ih=>intro t z k;cases t with
  |e=>rfl
  |n l v r=>exact ih r z k
theorem Tr.cK {α:Type}(p:Pz):∀(t:Tr α)(x:α)(k:Tr α->Rs),t.du p x k=k (t.set p x):=by
 induction p with
 |h=>intro t x k;cases t<;>rfl
 |o p ih=>intro t x k;cases t with
  |e=>exact ih .e x _
  |n l v r=>exact ih l x _
 |i p ih=>intro t x k;cases t with
  |e=>exact ih .e x _
  |n l v r=>exact ih r x _
theorem Tr.s4 {α:Type}(p:Pz):∀(t:Tr α)(x:α)(q:Pz),(t.set p x).get q=if q=p then some x else t.get q:=by
 induction p with
 |h=>intro t x q;cases t<;>cases q<;>simp[Tr.set,Tr.get,Tr.gy]
 |o p ih=>intro t x q;cases t<;>cases q<;>simp[Tr.set,Tr.get,Tr.gy,ih]
 |i p ih=>intro t x q;cases t<;>cases q<;>simp[Tr.set,Tr.get,Tr.gy,ih]
theorem Tr.bu {α:Type}(p:Pz)(t:Tr α)(x:α):(t.set p x).get p=some x:=by rw[Tr.s4,if_pos rfl]
theorem Tr.dw {α:Type}{p q:Pz}(h:q≠p)(t:Tr α)(x:α):(t.set p x).get q=t.get q:=by rw[Tr.s4,if_neg h]
theorem dm {α:Type}{p:Pz}{t:Tr α}{n:Nat}{k:α->Rs}(h:t.gx p (.bad n) k=.ok):∃v,t.get p=some v/\k v=.ok:=by
 rw[Tr.Dl]at h;cases hg:t.get p with
 |none=>rw[hg]at h;cases h
 |some v=>rw[hg]at h;exact⟨v,rfl,h⟩
def Pz.num:Pz->Nat
 |.h=>1
 |.o p=>2*p.num
 |.i p=>2*p.num+1
theorem Pz.pV (p:Pz):1<=p.num:=by induction p<;>simp[Pz.num]<;>omega
theorem Pz.Dm:∀{p q:Pz},p.num=q.num->p=q:=by
 intro p
 induction p with
 |h=>intro q;cases q with
  |h=>intro _;rfl
  |o q=>intro h;have:=q.pV;simp only[Pz.num]at h;omega
  |i q=>intro h;have:=q.pV;simp only[Pz.num]at h;omega
 |o p ih=>intro q;have:=p.pV;cases q with
  |h=>intro h;simp only[Pz.num]at h;omega
  |o q=>intro h;simp only[Pz.num]at h;rw[ih (by omega:p.num=q.num)]
  |i q=>intro h;simp only[Pz.num]at h;omega
 |i p ih=>intro q;have:=p.pV;cases q with
  |h=>intro h;simp only[Pz.num]at h;omega
  |o q=>intro h;simp only[Pz.num]at h;omega
  |i q=>intro h;simp only[Pz.num]at h;rw[ih (by omega:p.num=q.num)]
def Pz.succ:Pz->Pz
 |.h=>.o .h
 |.o p=>.i p
 |.i p=>.o p.succ
theorem Pz.GS (p:Pz):∀k:Pz->Rs,p.MJ k=k p.succ:=by
 induction p with
 |h=>intro k;rfl
 |o p _=>intro k;rfl
 |i p ih=>intro k;exact ih _
theorem Pz.cE (p:Pz):p.succ.num=p.num+1:=by
 induction p with
 |h=>rfl
 |o p _=>rfl
 |i p ih=>simp only[Pz.succ,Pz.num,ih];omega
theorem oS:∀(f m:Nat),1<=m->m<=f->(qM f m).num=m:=by
 intro f
 induction f with
 |zero=>intro m h1 h2;omega
 |succ f ih =>
  intro m h1 h2;show (Bool.rec (motive:=fun _=>Pz) (Bool.rec (motive:=fun _=>Pz) (.o (qM f (Nat.div m 2))) (.i (qM f (Nat.div m 2))) (Nat.beq (Nat.mod m 2) 1)) .h (Nat.ble m 1)).num=m;cases hb:Nat.ble m 1 with
  |true=>have:=zcw hb;simp only[Pz.num];omega
  |false =>
   have hm:¬m<=1:=fun h=>by rw[zbs h]at hb;cases hb
   have hd:1<=m/2:=by omega
   have hr:=ih (m/2) hd (by omega);cases hc:Nat.beq (Nat.mod m 2) 1 with
   |true=>have h3:m%2=1:=zab hc;show 2*(qM f (m/2)).num+1=m;rw[hr];omega
   |false =>
    have h3:¬m%2=1:=fun h=>by have:Nat.beq (m%2) 1=true:=by rw[h];rfl
                              rw[show Nat.beq (Nat.mod m 2) 1=Nat.beq (m%2) 1 from rfl,this]at hc;cases hc
    show 2*(qM f (m/2)).num=m;rw[hr];omega
theorem Fb {a b:Nat}(h:bj a=bj b):a=b:=by
 have ha:=oS (a+1) (a+1) (by omega) (by omega);have hb:=oS (b+1) (b+1) (by omega) (by omega);have:(bj a).num=(bj b).num:=by rw[h]
 unfold bj at this;omega
theorem mM {a b:Nat}(h:a≠b):bj a≠bj b:=fun e=>h (Fb e)
theorem PA (β:Type)(p:Pz):∀k:Pz->β,ZA β p k=k p:=by
 induction p with
 |h=>intro k;rfl
 |o p ih=>intro k;exact ih _
 |i p ih=>intro k;exact ih _
theorem vJ (β:Type)(n:Nat)(k:Pz->β):BB β n k=k (bj n):=PA _ _ _
noncomputable def o8 {α:Type}(d:Nat)(o:gJ α):α:=match d with|0=>o.a0|1=>o.a1|2=>o.a2|3=>o.a3|4=>o.a4|5=>o.a5|6=>o.a6|_=>o.a7
noncomputable def p8 {α:Type}(d:Nat)(x:α)(o:gJ α):gJ α:=match d with
 |0=>{ o with a0:=x }|1=>{ o with a1:=x }|2=>{ o with a2:=x }|3=>{ o with a3:=x }|4=>{ o with a4:=x }|5=>{ o with a5:=x }|6=>{ o with a6:=x }|_=>{ o with a7:=x }
theorem d8 {d:Nat}(h:d<8):d=0∨d=1∨d=2∨d=3∨d=4∨d=5∨d=6∨d=7:=by omega
theorem MP {α:Type}{d e:Nat}(hd:d<8)(he:e<8)(x:α)(o:gJ α):o8 d (p8 e x o)=if d=e then x else o8 d o:=by
 rcases d8 hd with rfl|rfl|rfl|rfl|rfl|rfl|rfl|rfl<;>rcases d8 he with rfl|rfl|rfl|rfl|rfl|rfl|rfl|rfl<;>rfl
theorem MQ {α:Type}(d:Nat)(o:gJ α)(k:α->Rs):(g1 α d).run o k=k (o8 d o):=by
 match d with
 |0=>rfl
 |1=>rfl
 |2=>rfl
 |3=>rfl
 |4=>rfl
 |5=>rfl
 |6=>rfl
 |n+7=>rfl
theorem Tc {α:Type}(d:Nat)(o:gJ α)(f:α->(α->Rs)->Rs)(g:α->α)(hf:∀x k,f x k=k (g x))(k:gJ α->Rs):(s1 α d).run o f k=k (p8 d (g (o8 d o)) o):=by
 match d with
 |0=>exact hf _ _
 |1=>exact hf _ _
 |2=>exact hf _ _
 |3=>exact hf _ _
 |4=>exact hf _ _
 |5=>exact hf _ _
 |6=>exact hf _ _
 |n+7=>exact hf _ _
theorem Td {α:Type}(d:Nat)(o:gJ α)(x:α)(k:gJ α->Rs):(s2 α d).run o x k=k (p8 d x o):=by
 match d with
 |0=>rfl
 |1=>rfl
 |2=>rfl
 |3=>rfl
 |4=>rfl
 |5=>rfl
 |6=>rfl
 |n+7=>rfl
noncomputable def Tm.at (tm:Tm)(t:Nat):AV:=if t<=63 then o8 (t%8) (o8 (t/8) tm.lo)else (tm.hi.get (bj t)).getD aG
noncomputable def Tm.put (tm:Tm)(t:Nat)(v:AV):Tm:=if t<=63 then { tm with lo:=p8 (t/8) (p8 (t%8) v (o8 (t/8) tm.lo)) tm.lo }else { tm with hi:=tm.hi.set (bj t) v }
theorem lL (t:Nat)(tm:Tm)(k:AV->Rs):(pL t).run tm k=k (tm.at t):=by
 unfold pL Tm.at;cases h:Nat.ble t 63 with
 |true =>
  rw[if_pos (zcw h)];show (g1 (gJ AV) (Nat.div t 8)).run tm.lo (fun o=>(g1 AV (Nat.mod t 8)).run o k)=_;rw[MQ,MQ];rfl
 |false =>
  rw[if_neg (fun h'=>by rw[zbs h']at h;cases h)];simp only[vJ];show tm.hi.gx (bj t) (k aG) k=_;rw[Tr.Dl];cases tm.hi.get (bj t)<;>rfl
theorem nN (t:Nat)(tm:Tm)(v:AV)(k:Tm->Rs):(ve t).run tm v k=k (tm.put t v):=by
 unfold ve Tm.put;cases h:Nat.ble t 63 with
 |true =>
  rw[if_pos (zcw h)];show (s1 (gJ AV) (Nat.div t 8)).run tm.lo (fun o k=>(s2 AV (Nat.mod t 8)).run o v k) (fun lo=>k ⟨lo,tm.hi,tm.ml⟩)=_;rw[Tc _ _ _ (fun o=>p8 (Nat.mod t 8) v o) (fun x k=>Td _ _ _ _)];rfl
 |false =>
  rw[if_neg (fun h'=>by rw[zbs h']at h;cases h)];simp only[vJ];show tm.hi.du (bj t) v (fun hi=>k ⟨tm.lo,hi,tm.ml⟩)=_;rw[Tr.cK]
theorem Tm.tF (tm:Tm)(t:Nat)(v:AV):(tm.put t v).ml=tm.ml:=by
 unfold Tm.put;split<;>rfl
theorem Tm.GU (tm:Tm)(t:Nat)(v:AV)(u:Nat):(tm.put t v).at u=if u=t then v else tm.at u:=by
 unfold Tm.put Tm.at;by_cases ht:t<=63
 ·by_cases hu:u<=63
  ·simp only[if_pos ht,if_pos hu];rw[MP (by omega) (by omega)];by_cases h1:u/8=t/8
   ·rw[if_pos h1,MP (by omega) (by omega)];by_cases h2:u%8=t%8
    ·rw[if_pos h2,if_pos (by omega)]
    ·rw[if_neg h2,if_neg (by omega),h1]
   ·rw[if_neg h1,if_neg (by omega)]
  ·simp only[if_pos ht,if_neg hu];rw[if_neg (by omega)]
 ·by_cases hu:u<=63
  ·simp only[if_neg ht,if_pos hu];rw[if_neg (by omega)]
  ·simp only[if_neg ht,if_neg hu];rw[Tr.s4];by_cases h:u=t
   ·subst h;rw[if_pos rfl,if_pos rfl];rfl
   ·rw[if_neg (mM h),if_neg h]
theorem Tm.gP (tm:Tm)(t:Nat)(v:AV):(tm.put t v).at t=v:=by rw[Tm.GU,if_pos rfl]
theorem Tm.jw {t u:Nat}(h:u≠t)(tm:Tm)(v:AV):(tm.put t v).at u=tm.at u:=by rw[Tm.GU,if_neg h]
theorem Tm.Wt (t:Nat):Tm.e.at t=aG:=by
 unfold Tm.at;by_cases h:t<=63
 ·rw[if_pos h];have h1:t/8<8:=by omega
  have h2:t%8<8:=by omega
  generalize t/8=a at h1;generalize t%8=b at h2;rcases d8 h1 with rfl|rfl|rfl|rfl|rfl|rfl|rfl|rfl<;>rcases d8 h2 with rfl|rfl|rfl|rfl|rfl|rfl|rfl|rfl<;>rfl
 ·rw[if_neg h];show ((Tr.e:Tr AV).get (bj t)).getD aG=aG;rw[Tr.gy];rfl
theorem yY (x y:Rs):bM true x y=x:=rfl
theorem vK (x y:Rs):bM false x y=y:=rfl
theorem aJ {b:Bool}{x:Rs}{n:Nat}(h:bM b x (.bad n)=.ok):b=true/\x=.ok:=by
 cases b with
 |true=>exact⟨rfl,h⟩
 |false=>cases h
theorem bW {b:Bool}{x y:Rs}(h:bM b x y=.ok):(b=true/\x=.ok)∨(b=false/\y=.ok):=by
 cases b with
 |true=>exact .inl ⟨rfl,h⟩
 |false=>exact .inr ⟨rfl,h⟩
theorem aM (n:Nat)(k:Nat->Rs):bo n k=k n:=by cases n<;>rfl
theorem cU (z:Int)(k:Int->Rs):mE z k=k z:=by
 cases z with
 |ofNat m=>exact aM m fun m=>k (.ofNat m)
 |negSucc m=>exact aM m fun m=>k (.negSucc m)
theorem aW (b:Bool)(k:Bool->Rs):ck b k=k b:=by cases b<;>rfl
theorem c8 {v:AV}{k:IntKind->Int->Rs}(h:asInt v k=.ok):∃kd n,v=.int kd n/\k kd n=.ok:=by
 cases v<;>first|exact⟨_,_,rfl,h⟩|cases h
theorem vL {v:AV}{k:Bool->Rs}(h:asBool v k=.ok):∃b,v=.bool b/\k b=.ok:=by
 cases v<;>first|exact⟨_,rfl,h⟩|cases h
theorem g9 {v:AV}{k:Pz->Nat->Rs}(h:jV v k=.ok):∃p o,v=.ptr p o/\k p o=.ok:=by
 cases v<;>first|exact⟨_,_,rfl,h⟩|cases h
theorem jC {v:AV}{k:Nat->Rs}(h:asNat v k=.ok):∃kd n,v=.int kd (.ofNat n)/\k n=.ok:=by
 obtain⟨kd,n,rfl,h⟩:=c8 h;cases n with
 |ofNat n=>exact⟨kd,n,rfl,h⟩
 |negSucc n=>cases h
theorem aj {a b:Nat}(h:Nat.beq a b=true):a=b:=zab h
theorem aN {a b:Nat}(h:Nat.ble a b=true):a<=b:=zcw h
theorem ax {a b:Nat}(h:Nat.blt a b=true):a<b:=zcw h
theorem BR {a b:Nat}(h:Nat.ble a b=false):b<a:=by
 rcases zdp b a with h'|h'
 ·exact h'
 ·rw[zbs h']at h;cases h
theorem PB {a b:Nat}(h:Nat.blt a b=false):b<=a:=by have:=BR (a:=a.succ) (b:=b) h;omega
theorem qR {a b:Nat}(h:Nat.beq a b=false):a≠b:=fun e=>by rw[e,zcm]at h;cases h
theorem nO {α:Type}(r:Nat):∀{l:List α}{k:α->Rs},vf r l k=.ok->∃v,l[r]?=some v/\k v=.ok:=by
 induction r with
 |zero=>intro l k h;cases l with
  |nil=>cases h
  |cons x t=>exact⟨x,rfl,h⟩
 |succ r ih=>intro l k h;cases l with
  |nil=>cases h
  |cons x t=>obtain⟨v,h1,h2⟩:=ih h;exact⟨v,by simpa using h1,h2⟩
theorem mN (n:Nat):∀{l:List AV}{k:List AV->Rs},rR n l k=.ok->n<=l.length/\k (l.take n)=.ok:=by
 induction n with
 |zero=>intro l k h;exact⟨zbo _,by rw[List.take_zero];exact h⟩
 |succ n ih=>intro l k h;cases l with
  |nil=>cases h
  |cons x t=>obtain⟨h1,h2⟩:=ih h;exact⟨by simpa using h1,by simpa using h2⟩
theorem mP (n:Nat):∀{l:List AV}{k:List AV->Rs},pN n l k=.ok->n<=l.length/\k (l.drop n)=.ok:=by
 induction n with
 |zero=>intro l k h;exact⟨zbo _,by rw[zca];exact h⟩
 |succ n ih=>intro l k h;cases l with
  |nil=>cases h
  |cons x t=>obtain⟨h1,h2⟩:=ih h;exact⟨by simpa using h1,by simpa using h2⟩
theorem GV (vs:List AV):∀{l:List AV}{k:List AV->Rs},MM vs l k=.ok->vs.length<=l.length/\k (vs++l.drop vs.length)=.ok:=by
 induction vs with
 |nil=>intro l k h;exact⟨zbo _,h⟩
 |cons v vs ih=>intro l k h;cases l with
  |nil=>cases h
  |cons x t=>obtain⟨h1,h2⟩:=ih h;exact⟨by simpa using h1,by simpa using h2⟩
def fg (r:Nat)(vs l:List AV):List AV:=l.take r++vs++l.drop (r+vs.length)
theorem oT (r:Nat):∀{vs l:List AV}{k:List AV->Rs},pM r vs l k=.ok->r+vs.length<=l.length/\k (fg r vs l)=.ok:=by
 induction r with
 |zero=>intro vs l k h;obtain⟨h1,h2⟩:=GV vs h;exact⟨by omega,by simpa [fg] using h2⟩
 |succ r ih=>intro vs l k h;cases l with
  |nil=>cases h
  |cons x t =>
   obtain⟨h1,h2⟩:=ih (vs:=vs) (l:=t) (k:=fun t=>k (x::t)) h;exact⟨by simp only[zbi];omega,by simpa [fg,Nat.add_right_comm] using h2⟩
theorem vM (v:AV)(z:Rs)(kk:Nat->Nat->Rs):ke v z kk=(match v with|.str l n=>kk l n|_=>z):=by cases v<;>rfl
theorem Fc (v:AV)(z:Rs)(kk:List AV->Rs):GD v z kk=(match v with|.cN vs=>kk vs|_=>z):=by cases v<;>rfl
theorem gQ {a b:IntKind}(h:eM a b=true):a=b:=by cases a<;>cases b<;>first|rfl|cases h
def bytesOf:Nat->Nat->List UInt8
 |0,_=>[]
 |l+1,n=>bytesOf l (n/256)++[UInt8.ofNat (n%256)]
theorem aB:∀l n,(bytesOf l n).length=l
 |0,_=>rfl
 |l+1,n=>by simp[bytesOf,aB l]
structure En where
 aY:Pz->Nat
 sh:Pz->Nat
 kQ:Pz->Nat
noncomputable def kR (ι:En):Fn->Fn
 |.yield j=>.yield (ι.aY (bj (j-1)))
 |f=>f
theorem yZ {f:Fn}(h:GI f=true)(ι:En):kR ι f=f:=by cases f<;>first|rfl|cases h
def qS:Nat->Nat×Nat
 |0=>(0,0)
 |n+1=>match qS n with
  |(0,b)=>(b+1,0)
  |(a+1,b)=>(a,b+1)
theorem jW (s b a:Nat)(h:a+b=s):∃n,qS n=(a,b):=by
 match b,a with
 |0,0=>exact⟨0,rfl⟩
 |0,a+1=>obtain⟨n,hn⟩:=jW a a 0 (by omega);exact⟨n+1,by simp[qS,hn]⟩
 |b+1,a=>obtain⟨n,hn⟩:=jW s b (a+1) (by omega);exact⟨n+1,by simp[qS,hn]⟩
 termination_by (s,b)
def oU (b o len cap:Nat):Addr:=if len=0/\cap=0 then ⟨b,(qS o).1,match (qS o).2 with|0=>none|s+1=>some s⟩else ⟨b,o,none⟩
theorem mQ {b o len cap:Nat}(h:¬(len=0/\cap=0)):oU b o len cap=⟨b,o,none⟩:=if_neg h
theorem fD (b len cap:Nat):oU b 0 len cap=⟨b,0,none⟩:=by unfold oU;split<;>rfl
theorem vN (a:Addr):∃o,oU a.block o 0 0=a:=by
 obtain⟨b,o,s⟩:=a;cases s with
 |none=>obtain⟨n,hn⟩:=jW _ 0 o rfl;exact⟨n,by simp[oU,hn]⟩
 |some s=>obtain⟨n,hn⟩:=jW _ (s+1) o rfl;exact⟨n,by simp[oU,hn]⟩
mutual
noncomputable def ak (ι:En):AV->Value
 |.bool b=>.bool b
 |.int k n=>.int k n
 |.str l n=>.string ⟨(bytesOf l n).toArray⟩
 |.float k b=>.float k b
 |.ptr id off=>.pointer (some ⟨ι.aY id,ι.sh id+off,none⟩)
 |.c7=>.pointer none
 |.slice id off len cap=>.slice (some ⟨ι.aY id,ι.sh id+off,none⟩) len cap
 |.bw id off len skip=>.slice (some ⟨ι.aY id,ι.sh id+off,none⟩) len (ι.kQ id-skip)
 |.ab=>.slice none 0 0
 |.map id=>.map (some (ι.aY id))
 |.bg=>.map none
 |.func fn first captured=>.func (kR ι fn) (aq ι first).toArray (aq ι captured).toArray
 |.cJ=>.nilFunc
 |.iface t v=>.iface t (ak ι v)
 |.nilIface=>.nilIface
 |.agg cs=>.agg (aq ι cs).toArray
 |.cN vs=>.tuple (aq ι vs).toArray
 |.dx b o len cap=>.slice (some (oU b o len cap)) len cap
 |.bZ b o=>.pointer (some ⟨b,o,none⟩)
 |.cV b=>.map (some b)
noncomputable def aq (ι:En):List AV->List Value
 | []=>[]
 |v::vs=>ak ι v::aq ι vs
end
theorem jo (ι:En):∀l,aq ι l=l.map (ak ι)
 | []=>by simp[aq]
 |v::vs=>by simp[aq,jo ι vs]
theorem aw (ι:En)(l:List AV):(aq ι l).length=l.length:=by rw[jo];simp
theorem e8 (ι:En)(a b:List AV):aq ι (a++b)=aq ι a++aq ι b:=by simp[jo]
theorem vO (ι:En)(n:Nat)(a:List AV):aq ι (a.take n)=(aq ι a).take n:=by simp[jo]
theorem vP (ι:En)(n:Nat)(a:List AV):aq ι (a.drop n)=(aq ι a).drop n:=by simp[jo]
theorem bx (ι:En)(a:List AV)(i:Nat):(aq ι a)[i]?=(a[i]?).map (ak ι):=by simp[jo]
theorem dq (ι:En):ak ι aG=undef:=by simp[aG,ak,aq,undef]
theorem bY (ι:En)(v:AV):(ak ι v).cells=(aq ι v.cells).toArray:=by
 cases v<;>simp[AV.cells,Value.cells,ak,aq]
theorem jX:∀(l n:Nat),bytesOf l (n%256 ^ l)=bytesOf l n
 |0,_=>rfl
 |l+1,n=>by
  have h1:n%256 ^ (l+1)/256=n/256%256 ^ l:=by rw[zdr,zcq,Nat.mod_mul_right_div_self]
  have h2:n%256 ^ (l+1)%256=n%256:=by rw[zdr,zcq,Nat.mod_mul_right_mod]
  simp only[bytesOf];rw[h1,h2,jX l]
theorem lM (l n b:Nat)(hb:b<256):bytesOf (l+1) (n*256+b)=bytesOf l n++[UInt8.ofNat b]:=by
 simp only[bytesOf];rw[show (n*256+b)/256=n by omega,show (n*256+b)%256=b by omega]
theorem pW:∀(l:List UInt8)(k n:Nat),bytesOf (k+l.length) (l.foldl (fun n b=>n*256+b.toNat) n)=bytesOf k n++l
 | [],k,n=>by simp
 |b::l,k,n=>by
  have h:=pW l (k+1) (n*256+b.toNat);rw[lM _ _ _ b.toNat_lt]at h;simp only[List.foldl_cons,zbi];rw[show k+(l.length+1)=k+1+l.length by omega,h];simp
theorem mR (l:List UInt8):bytesOf l.length (xc l)=l:=by
 have:=pW l 0 0;simpa [xc,bytesOf] using this
theorem rU:∀(l m n:Nat),bytesOf l m=bytesOf l n->m%256 ^ l=n%256 ^ l
 |0,m,n,_=>by simp[Nat.mod_one]
 |l+1,m,n,h=>by
  simp only[bytesOf]at h;have hl:(bytesOf l (m/256)).length=(bytesOf l (n/256)).length:=by rw[aB,aB]
  obtain⟨h1,h2⟩:=List.append_inj h hl;have hi:=rU l _ _ h1
  have h3:m%256=n%256:=by
   have h4:(UInt8.ofNat (m%256)).toNat=(UInt8.ofNat (n%256)).toNat:=by rw[List.cons.inj h2 |>.1]
   simp only[zdl]at h4;omega
  have e1:m%256 ^ (l+1)=256*(m/256%256 ^ l)+m%256:=by
   rw[zdr,zcq,Nat.mod_mul];omega
  have e2:n%256 ^ (l+1)=256*(n/256%256 ^ l)+n%256:=by
   rw[zdr,zcq,Nat.mod_mul];omega
  rw[e1,e2,hi,h3]
theorem jq (n:Nat):kO n=256 ^ n:=by
 unfold kO;rw[show Nat.shiftLeft 1 (8*n)=1 <<< (8*n)from rfl,Nat.shiftLeft_eq,zez,Nat.pow_mul]
theorem dZ (l m l' m':Nat):aR l m l' m'=(bytesOf l m==bytesOf l' m'):=by
 unfold aR jm;rw[jq,jq,zcy];simp only[za,beq_iff_eq];constructor
 ·rintro⟨h1,h2⟩
  have h1:=aj h1;have h2:=aj h2;subst h1;have h3:m%256 ^ l=m'%256 ^ l:=h2;rw[<-jX l m,h3,jX]
 ·intro h;have hl:l=l':=by rw[<-aB l m,h,aB]
  subst hl;have h3:=rU l m m' h;exact⟨zcm _,by show Nat.beq (m%256 ^ l) (m'%256 ^ l)=true;rw[h3];exact zcm _⟩
theorem mU:∀(l' l m m':Nat),bytesOf (l+l') (m*256 ^ l'+m'%256 ^ l')=bytesOf l m++bytesOf l' m'
 |0,l,m,m'=>by simp[bytesOf,Nat.mod_one]
 |l'+1,l,m,m'=>by
  have e:m'%256 ^ (l'+1)=256*(m'/256%256 ^ l')+m'%256:=by rw[zdr,zcq,Nat.mod_mul];omega
  have e2:m*256 ^ (l'+1)+m'%256 ^ (l'+1)=(m*256 ^ l'+m'/256%256 ^ l')*256+m'%256:=by
   rw[e,zdr,zbh,Nat.mul_assoc];omega
  rw[e2,show l+(l'+1)=(l+l')+1 by omega,lM _ _ _ (Nat.mod_lt _ (by decide)),mU l' l m];simp[bytesOf]
theorem lN:∀(d l n:Nat),bytesOf l (n/256 ^ d)=(bytesOf (l+d) n).take l
 |0,l,n=>by
  rw[Nat.pow_zero,Nat.div_one,zbt,zc (by rw[aB];exact zad _)]
 |d+1,l,n=>by
  have h:=lN d l (n/256);rw[Nat.div_div_eq_div_mul,<-Nat.pow_succ']at h;rw[h,show l+(d+1)=(l+d)+1 by omega];simp only[bytesOf];rw[zco (by rw[aB];omega)]
theorem pX:∀(l d n:Nat),bytesOf l n=(bytesOf (d+l) n).drop d
 |0,d,n=>by
  rw[zci (by rw[aB];exact zad _)];rfl
 |l+1,d,n=>by
  rw[show d+(l+1)=(d+l)+1 by omega];simp only[bytesOf];rw[zdb (by rw[aB];omega),<-pX l d]
theorem mX:∀(l n i:Nat),i<l->(bytesOf l n)[i]?=some (UInt8.ofNat (n/256 ^ (l-(i+1))%256))
 |0,_,_,h=>by omega
 |l+1,n,i,h=>by
  simp only[bytesOf];by_cases hi:i<l
  ·rw[zat (by rw[aB];exact hi),mX l (n/256) i hi,Nat.div_div_eq_div_mul,<-Nat.pow_succ',show (l-(i+1)).succ=l+1-(i+1) by omega]
  ·have:i=l:=by omega
   subst this;rw[zax (by rw[aB];exact zad _),aB];simp
end Go.aK
namespace Go.aK
open Go.RowKit
def ao (nx:Pz)(ι ι':En):Prop:=∀id:Pz,id.num<nx.num->ι'.aY id=ι.aY id/\ι'.sh id=ι.sh id/\ι'.kQ id=ι.kQ id
theorem ao.refl (nx:Pz)(ι:En):ao nx ι ι:=fun _ _=>⟨rfl,rfl,rfl⟩
theorem ao.trans {nx nx':Pz}{a b c:En}(h:ao nx a b)(h':ao nx' b c)(hle:nx.num<=nx'.num):ao nx a c:=fun id hid =>
 ⟨(h' id (by omega)).1.trans (h id hid).1,(h' id (by omega)).2.1.trans (h id hid).2.1,(h' id (by omega)).2.2.trans (h id hid).2.2⟩
def eI (ι:En)(C:Array Value)(base es n:Nat)(c:Tr (List AV)):Prop :=
 ∀q,q<n->∃l,c.get (bj q)=some l/\l.length=es/\∀r,r<es->C[base+(q*es+r)]?=(l[r]?).map (ak ι)
def live (hp:Tr AO)(f:Pz)(ep:Nat):Prop:=∃iw,hp.get f=some (.cO ep iw)
def own (hp:Tr AO):AO->Prop
 |.bX f ep _ _ _ _ _=>live hp f ep
 |.cO _ _=>False
 |_=>True
def fR (fz:Nat×Nat)(m:Nat):Prop:=fz.1=fz.2∨m<=fz.1
theorem fR.no {fz:Nat×Nat}{m:Nat}(h:fR fz m)(o:Nat)(ho:o<m):¬(fz.1<=o/\o<fz.2):=by
 rcases h with h|h<;>omega
noncomputable def dM (ι:En)(e:ME):MapEntry:=⟨ak ι e.key,ak ι e.val,e.born⟩
def PC:Ex->Option Code
 |.gE=>none
 |.ext id=>some (.exit id)
 |.ret=>some .ret
def vh:LS->LoopState
 |.ready=>.ready
 |.busy=>.busy
 |.done _=>.done
def oV:LS->Option Code
 |.done e=>PC e
 |_=>none
def jk (ι:En)(hp:Tr AO)(w:World)(id:Pz):AO->Prop
 |.arr es n el c=>∃C fz,w.heap[ι.aY id]?=some (.cells C el fz)/\ι.sh id=0/\C.size=n*es/\eI ι C 0 es n c/\fR fz C.size
 |.bX f ep _ es n el c=>live hp f ep->∃C fz,w.heap[ι.aY id]?=some (.cells C el fz)/\ι.sh id+ι.kQ id*es<=C.size/\n<=ι.kQ id/\eI ι C (ι.sh id) es n c/\fR fz C.size
 |.cO _ _=>True
 |.map es clock=>∃E:Array MapEntry,w.heap[ι.aY id]?=some (.map E clock)/\E.toList=es.map (dM ι)
 |.loop _ nt tm ps x y st=>∃fn tmps D,w.heap[ι.aY id]?=some (.loop { state:=vh st,pending:=oV st,fn,tmps,params:=ps,assign:=x,body:=y,defers:=D })/\tmps.size=nt/\tm.ml=[]/\∀t,tmps.getD t undef=ak ι (tm.at t)
 |.gv=>w.heap[ι.aY id]?=some (.deferred (some []))
 |.gone=>(w.heap[ι.aY id]?).isSome=true
 |.iter m since seen clock=>w.heap[ι.aY id]?=some (.mapIter (some (ι.aY m)) since seen.reverse.toArray clock)/\ι.sh id=0
def gR:AO->Option Pz
 |.bX f _ _ _ _ _ _=>some f
 |_=>none
structure Kept (B:Nat->Prop) (w w':World):Prop where
 os:w'.os=w.os
 tape:w'.tape=w.tape
 output:w'.output=w.output
 size:w.heap.size<=w'.heap.size
 block:∀k,B k->w'.heap[k]?=w.heap[k]?
theorem Kept.refl (B:Nat->Prop)(w:World):Kept B w w:=⟨rfl,rfl,rfl,zad _,fun _ _=>rfl⟩
theorem Kept.trans {B:Nat->Prop}{a b c:World}(h:Kept B a b)(k:Kept B b c):Kept B a c :=
 ⟨k.os.trans h.os,k.tape.trans h.tape,k.output.trans h.output,zay h.size k.size,fun i hi=>(k.block i hi).trans (h.block i hi)⟩
theorem Kept.mono {B B':Nat->Prop}{a b:World}(h:Kept B a b)(hB:∀k,B' k->B k):Kept B' a b:=⟨h.os,h.tape,h.output,h.size,fun k hk=>h.block k (hB k hk)⟩
theorem Kept.drew {B:Nat->Prop}{a w:World}(h:Kept B a w):Kept B a w.drew:=⟨h.os,h.tape,h.output,h.size,h.block⟩
theorem Kept.alloc {B:Nat->Prop}{a w:World}(h:Kept B a w)(hB:∀k,B k->k<w.heap.size)(o:Obj):Kept B a (w.alloc o) :=
 h.trans ⟨rfl,rfl,rfl,by simp,fun k hk=>Below.heap_alloc _ _ _ (hB k hk)⟩
theorem Kept.setCell {B:Nat->Prop}{a w:World}(h:Kept B a w){p:Addr}(hp:¬B p.block)(u:Value):Kept B a (w.setCell p u) :=
 h.trans ⟨rfl,rfl,rfl,by simp[World.setCell],fun k hk=>Below.heap_setCell _ _ _ _ (fun e=>hp (e▸hk))⟩
structure Core (B:Nat->Prop) (w0:World) (ι:En) (hp:Tr AO) (w:World):Prop where
 below:Kept B w0 w
 room:∀k,B k->k<w.heap.size
 obj:∀id o,hp.get id=some o->jk ι hp w id o
 base:∀id o,hp.get id=some o->own hp o->¬B (ι.aY id)
 sep:∀id id' o o',id≠id'->hp.get id=some o->hp.get id'=some o'->own hp o->own hp o'->ι.aY id=ι.aY id'->∃f,gR o=some f/\gR o'=some f
 eZ:∀id id' f ep es n el c f' ep' tp' es' n' el' c',id≠id'->hp.get id=some (.bX f ep true es n el c)->hp.get id'=some (.bX f' ep' tp' es' n' el' c')->live hp f ep->live hp f' ep' ->
  (f=f'->tp'=false)/\(ι.aY id=ι.aY id'->n<ι.kQ id->ι.sh id'+n'*es'<=ι.sh id+n*es)
structure Wf (hp:Tr AO) (nx:Pz):Prop where
 lt:∀id o,hp.get id=some o->id.num<nx.num
 cO:∀id f ep tp es n el c,hp.get id=some (.bX f ep tp es n el c)->f.num<nx.num
 ep:∀id f ep tp es n el c e s,hp.get id=some (.bX f ep tp es n el c)->hp.get f=some (.cO e s)->ep<=e
 iw:∀f e id id' tp es n el c tp' es' n' el' c',hp.get f=some (.cO e true)->hp.get id=some (.bX f e tp es n el c)->hp.get id'=some (.bX f e tp' es' n' el' c')->id=id'
theorem gz (b o n:Nat):(⟨b,o,none⟩:Addr).add n=⟨b,o+n,none⟩:=by
 unfold Addr.add;split
 ·rename_i h;subst h;rfl
 ·rfl
theorem nP {w:World}{b:Nat}{C:Array Value}{el:TypeId}{fz:Nat×Nat}(h:w.heap[b]?=some (.cells C el fz))(o:Nat):w.cell? ⟨b,o,none⟩=C[o]?:=by
 simp[World.cell?,h]
theorem Fe {w:World}{b:Nat}{C:Array Value}{el:TypeId}{fz:Nat×Nat}(h:w.heap[b]?=some (.cells C el fz))(o:Nat):w.frozen? ⟨b,o,none⟩=(decide (fz.1<=o)&&decide (o<fz.2)):=by
 obtain⟨lo,hi⟩:=fz;simp[World.frozen?,h]
theorem pY {hp:Tr AO}{f:Pz}{ep:Nat}{k:Bool->Rs}(h:vA hp f ep k=.ok):∃iw,hp.get f=some (.cO ep iw)/\k iw=.ok:=by
 obtain⟨o,ho,h⟩:=dm h;cases o with
 |cO e iw =>
  obtain⟨he,hk⟩:=aJ h;have:=aj he;subst this;exact⟨iw,ho,hk⟩
 |arr=>cases h
 |bX=>cases h
 |map=>cases h
 |iter=>cases h
 |loop=>cases h
 |gv=>cases h
 |gone=>cases h
def tG (ι:En)(w:World)(id:Pz)(es n:Nat)(c:Tr (List AV)):Prop :=
 ∃C el fz,w.heap[ι.aY id]?=some (.cells C el fz)/\ι.sh id+n*es<=C.size/\eI ι C (ι.sh id) es n c/\fR fz C.size
theorem xl {hp:Tr AO}{id:Pz}{k:Nat->Nat->Tr (List AV)->Rs}(h:JX hp id k=.ok) :
  ∃es n c,k es n c=.ok/\(∃o,hp.get id=some o/\own hp o)/\∀B w0 ι w,Core B w0 ι hp w->tG ι w id es n c:=by
 obtain⟨o,ho,h⟩:=dm h;cases o with
 |arr es n el c =>
  refine⟨es,n,c,h,⟨_,ho,trivial⟩,fun B w0 ι w hc=>?_⟩;obtain⟨C,fz,h1,h2,h3,h4,h5⟩:=hc.obj _ _ ho;exact⟨C,el,fz,h1,by rw[h2,h3];omega,by rw[h2];exact h4,h5⟩
 |bX f ep tp es n el c =>
  obtain⟨iw,hf,h⟩:=pY h;refine⟨es,n,c,h,⟨_,ho,⟨iw,hf⟩⟩,fun B w0 ι w hc=>?_⟩;obtain⟨C,fz,h1,h2,h3,h4,h5⟩:=hc.obj _ _ ho ⟨iw,hf⟩;exact⟨C,el,fz,h1,zay (zev (zae _ h3) _) h2,h4,h5⟩
 |cO=>cases h
 |map=>cases h
 |iter=>cases h
 |loop=>cases h
 |gv=>cases h
 |gone=>cases h
theorem pZ {es n:Nat}{c:Tr (List AV)}{off:Nat}{k:Nat->Nat->List AV->Rs}(h:vB es n c off k=.ok) :
  ∃l,off/es<n/\c.get (bj (off/es))=some l/\k (off/es) (off%es) l=.ok:=by
 unfold vB at h;rw[aM,aM]at h;obtain⟨h1,h⟩:=aJ h;obtain⟨l,h2,h⟩:=dm h;exact⟨l,ax h1,h2,h⟩
theorem tG.cell {ι:En}{w:World}{id:Pz}{es n:Nat}{c:Tr (List AV)}(h:tG ι w id es n c){off:Nat}{l:List AV}(hq:off/es<n)(hl:c.get (bj (off/es))=some l)(i:Nat)(hi:off%es+i<l.length) :
  w.cell? ⟨ι.aY id,ι.sh id+(off+i),none⟩=(l[off%es+i]?).map (ak ι):=by
 obtain⟨C,el,fz,h1,h2,h3,h4⟩:=h;obtain⟨l',hl',hlen,hr⟩:=h3 _ hq;rw[hl]at hl';cases hl';rw[nP h1,<-hr _ (by omega)];congr 2;have:=zes off es;rw[zcq]at this;omega
theorem rV {hp:Tr AO}{id:Pz}{off:Nat}{k:AV->Rs}(h:pO hp id off k=.ok) :
  ∃v,k v=.ok/\∀B w0 ι w,Core B w0 ι hp w->w.cell? ⟨ι.aY id,ι.sh id+off,none⟩=some (ak ι v):=by
 obtain⟨es,n,c,h,_,hrow⟩:=xl h;obtain⟨l,hq,hl,h⟩:=pZ h;obtain⟨v,hv,h⟩:=nO _ h;refine⟨v,h,fun B w0 ι w hc=>?_⟩
 have hlt:off%es<l.length:=by
  rcases zdp (off%es) l.length with h'|h'
  ·exact h'
  ·rw[zbq h']at hv;cases hv
 have:=(hrow B w0 ι w hc).cell hq hl 0 (by omega);rw[zbt,zbt,hv]at this;exact this
def p7 (ι:En)(w:World)(id:Pz)(off:Nat)(l:List AV):Prop:=∀i,i<l.length->w.cell? ⟨ι.aY id,ι.sh id+(off+i),none⟩=(l[i]?).map (ak ι)
theorem lO {hp:Tr AO}{id:Pz}{off sz:Nat}{k:List AV->Rs}(h:kN hp id off sz k=.ok) :
  ∃l,k l=.ok/\∀B w0 ι w,Core B w0 ι hp w->l.length=sz/\p7 ι w id off l:=by
 obtain⟨es,n,c,h,_,hrow⟩:=xl h;obtain⟨l,hq,hl,h⟩:=pZ h;rcases bW h with ⟨hb,h⟩|⟨hb,h⟩
 ·rw[za]at hb;have h1:=aj hb.1;have h2:off%es=0:=aj hb.2;refine⟨l,h,fun B w0 ι w hc=>⟨?_,fun i hi=>?_⟩⟩
  ·obtain⟨C,el,fz,_,_,h3,_⟩:=hrow B w0 ι w hc;obtain⟨l',hl',hlen,_⟩:=h3 _ hq;rw[hl]at hl';cases hl';rw[hlen,h1]
  ·have:=(hrow B w0 ι w hc).cell hq hl i (by omega);rw[h2,zap]at this;exact this
 ·obtain⟨h1,h⟩:=mP _ h;obtain⟨h2,h⟩:=mN _ h;rw[zas]at h2;refine⟨(l.drop (off%es)).take sz,h,fun B w0 ι w hc=>⟨by rw[zag,zas];omega,fun i hi=>?_⟩⟩;rw[zag,zas]at hi;rw[(hrow B w0 ι w hc).cell hq hl i (by omega),zck,if_pos (by omega),zbb]
end Go.aK
namespace Go.aK
open Go.RowKit
def bp (w:World)(b o:Nat):List Value->World
 | []=>w
 |v::vs=>bp (w.setCell ⟨b,o,none⟩ v) b (o+1) vs
def ef (C:Array Value)(o:Nat):List Value->Array Value
 | []=>C
 |v::vs=>ef (C.setIfInBounds o v) (o+1) vs
theorem bq:∀(vs:List Value)(C:Array Value)(o:Nat),(ef C o vs).size=C.size
 | [],_,_=>rfl
 |v::vs,C,o=>by simp only[ef];rw[bq vs];simp
theorem dF:∀(vs:List Value)(C:Array Value)(o i:Nat),o+vs.length<=C.size->(ef C o vs)[i]?=if o<=i/\i<o+vs.length then vs[i-o]? else C[i]?
 | [],C,o,i,_=>by simp only[ef,zeo];rw[if_neg (by omega)]
 |v::vs,C,o,i,h=>by
  simp only[ef];simp only[zbi]at h;rw[dF vs _ _ _ (by simp;omega)];simp only[zbi];by_cases h1:o+1<=i/\i<o+1+vs.length
  ·rw[if_pos h1,if_pos (by omega),show i-o=(i-(o+1))+1 by omega,zbn]
  ·rw[if_neg h1,zdn];by_cases h2:o=i
   ·subst h2;rw[if_pos rfl,if_pos (by omega),if_pos (by omega),zeb];rfl
   ·rw[if_neg h2,if_neg (by omega)]
theorem vi {w:World}{b o:Nat}{v:Value}{C:Array Value}{el:TypeId}{fz:Nat×Nat}(h:w.heap[b]?=some (.cells C el fz)) :
  (w.setCell ⟨b,o,none⟩ v).heap[b]?=some (.cells (C.setIfInBounds o v) el fz):=by
 simp[World.setCell,zcn,h]
theorem c9:∀(vs:List Value)(w:World)(b o:Nat)(C:Array Value)(el:TypeId)(fz:Nat×Nat),w.heap[b]?=some (.cells C el fz) ->
  (bp w b o vs).heap[b]?=some (.cells (ef C o vs) el fz)
 | [],_,_,_,_,_,_,h=>h
 |v::vs,w,b,o,C,el,fz,h=>c9 vs _ b (o+1) _ el fz (vi h)
theorem gS:∀(vs:List Value)(w:World)(b o k:Nat),k≠b->(bp w b o vs).heap[k]?=w.heap[k]?
 | [],_,_,_,_,_=>rfl
 |v::vs,w,b,o,k,h=>by
  simp only[bp];rw[gS vs _ b (o+1) k h];exact Below.heap_setCell w ⟨b,o,none⟩ v k h
theorem iL:∀(vs:List Value)(w:World)(b o:Nat),(bp w b o vs).heap.size=w.heap.size
 | [],_,_,_=>rfl
 |v::vs,w,b,o=>by simp only[bp];rw[iL vs];simp[World.setCell]
theorem eN {B:Nat->Prop}{w0:World}:∀(vs:List Value)(w:World)(b o:Nat),¬B b->Kept B w0 w->Kept B w0 (bp w b o vs)
 | [],_,_,_,_,h=>h
 |v::vs,w,b,o,hb,h=>eN vs _ b (o+1) hb (h.setCell (p:=⟨b,o,none⟩) hb v)
theorem vQ {v:AV}{vs:List AV}(h:flat (v::vs)=true):sK v=true/\flat vs=true:=by
 unfold flat at h;cases hb:sK v with
 |true=>simp only[hb]at h;exact⟨rfl,h⟩
 |false=>simp only[hb]at h;cases h
def vj:Value->Bool
 |.agg _=>false
 |.tuple _=>false
 |_=>true
theorem J2 (ι:En){v:AV}(h:sK v=true):vj (ak ι v)=true:=by
 cases v<;>first|(simp[ak,vj];done)|cases h
theorem Dn {w:World}{b:Nat}(h:(w.heap[b]?).isSome=true):b<w.heap.size:=by
 rcases zdp b w.heap.size with h'|h'
 ·exact h'
 ·rw[zef h']at h;cases h
theorem jk.aU {ι:En}{hp hp':Tr AO}{w w':World}{id:Pz}{o:AO}(h:jk ι hp w id o)(ho:own hp' o->own hp o)(hb:own hp' o->w'.heap[ι.aY id]?=w.heap[ι.aY id]?):jk ι hp' w' id o:=by
 cases o with
 |arr es n el c =>
  obtain⟨C,fz,h1,h2⟩:=h;exact⟨C,fz,by rw[hb trivial];exact h1,h2⟩
 |bX f ep tp es n el c =>
  intro hl;obtain⟨C,fz,h1,h2⟩:=h (ho hl);exact⟨C,fz,by rw[hb hl];exact h1,h2⟩
 |cO=>trivial
 |map es c =>
  obtain⟨E,h1,h2⟩:=h;exact⟨E,by rw[hb trivial];exact h1,h2⟩
 |iter=>exact⟨by rw[hb trivial];exact h.1,h.2⟩
 |loop=>obtain⟨fn,tmps,D,h1,h2⟩:=h;exact⟨fn,tmps,D,by rw[hb trivial];exact h1,h2⟩
 |gv=>show w'.heap[ι.aY id]?=_;rw[hb trivial];exact h
 |gone=>show (w'.heap[ι.aY id]?).isSome=true;rw[hb trivial];exact h
theorem oW (r:Nat)(vs l:List AV)(h:r+vs.length<=l.length)(i:Nat):(fg r vs l)[i]?=if r<=i/\i<r+vs.length then vs[i-r]? else l[i]?:=by
 unfold fg;by_cases h1:i<r
 ·rw[if_neg (by omega),zbd,zat (by rw[zag];omega),zck,if_pos h1]
 ·rw[zbd,zax (by rw[zag];omega),zag,zch (by omega)];by_cases h2:i<r+vs.length
  ·rw[if_pos ⟨by omega,h2⟩,zat (by omega)]
  ·rw[if_neg (by omega),zax (by omega),zbb];congr 1;omega
theorem oB (r:Nat)(vs l:List AV)(h:r+vs.length<=l.length):(fg r vs l).length=l.length:=by
 unfold fg;simp only[zak,zag,zas];omega
theorem rW {ι:En}{C:Array Value}{base es n:Nat}{c:Tr (List AV)}(h:eI ι C base es n c){off:Nat}{l vs:List AV}(hq:off/es<n)(hl:c.get (bj (off/es))=some l)
  (hr:off%es+vs.length<=l.length) (hC:base+n*es<=C.size):eI ι (ef C (base+off) (aq ι vs)) base es n (c.set (bj (off/es)) (fg (off%es) vs l)):=by
 have hdm:off/es*es+off%es=off:=by have:=zes off es;rw[zcq]at this;exact this
 obtain⟨l0,hl0,hlen,hget⟩:=h _ hq;rw[hl]at hl0;cases hl0
 have hmul:off/es*es+es<=n*es:=by
  have:=zae es (zce hq);rw[zau]at this;exact this
 have hb:base+off+(aq ι vs).length<=C.size:=by rw[aw];omega
 intro q hqn;by_cases hqq:q=off/es
 ·subst hqq;refine⟨_,Tr.bu _ _ _,by rw[oB _ _ _ hr,hlen],fun r hr'=>?_⟩;rw[dF _ _ _ _ hb,oW _ _ _ hr,aw];by_cases hx:off%es<=r/\r<off%es+vs.length
  ·rw[if_pos (by omega),if_pos hx,bx];congr 2;omega
  ·rw[if_neg (by omega),if_neg hx];exact hget r hr'
 ·obtain⟨l',hl',hlen',hget'⟩:=h q hqn;refine⟨l',by rw[Tr.dw (mM hqq)];exact hl',hlen',fun r hr'=>?_⟩;rw[dF _ _ _ _ hb,aw,if_neg,hget' r hr'];intro hx;rcases Nat.lt_or_gt_of_ne hqq with hlt|hgt
  ·have:=zae es (zce hlt);rw[zau]at this;omega
  ·have:=zae es (zce hgt);rw[zau]at this;omega
def lP (w:World)(b o n:Nat):Prop:=∀i,i<n->(∃u,w.cell? ⟨b,o+i,none⟩=some u)/\w.frozen? ⟨b,o+i,none⟩=false
theorem kS {w:World}{b o n:Nat}{C:Array Value}{el:TypeId}{fz:Nat×Nat}(h:w.heap[b]?=some (.cells C el fz))(hn:o+n<=C.size)(hf:fR fz C.size):lP w b o n:=by
 intro i hi;refine⟨⟨C[o+i]'(by omega),by rw[nP h];exact zbf (by omega)⟩,?_⟩;rw[Fe h];have:=hf.no (o+i) (by omega);by_cases hx:fz.1<=o+i
 ·have hy:¬o+i<fz.2:=fun hy=>this ⟨hx,hy⟩;simp[hy]
 ·simp[hx]
theorem ah {α:Type}{p q:Pz}{t:Tr α}{x y:α}(h:(t.set p x).get q=some y):(q=p/\x=y)∨(q≠p/\t.get q=some y):=by
 rw[Tr.s4]at h;by_cases hq:q=p
 ·rw[if_pos hq]at h;exact .inl ⟨hq,Option.some.inj h⟩
 ·rw[if_neg hq]at h;exact .inr ⟨hq,h⟩
theorem vR {es n off m:Nat}{l:Nat}(hq:off/es<n)(hr:off%es+m<=l)(hl:l=es):off+m<=n*es:=by
 have hdm:off/es*es+off%es=off:=by have:=zes off es;rw[zcq]at this;exact this
 have:=zae es (zce hq);rw[zau]at this;omega
def mh (hp hp':Tr AO)(id:Pz)(off:Nat)(vs:List AV):Prop :=
 (∀nx,Wf hp nx->Wf hp' nx)/\∀B w0 ι w nx,Wf hp nx->Core B w0 ι hp w->Core B w0 ι hp' (bp w (ι.aY id) (ι.sh id+off) (aq ι vs))/\lP w (ι.aY id) (ι.sh id+off) vs.length
theorem J3 {hp:Tr AO}{id:Pz}{off es n:Nat}{el:TypeId}{c:Tr (List AV)}{l vs:List AV}(ho:hp.get id=some (.arr es n el c))(hq:off/es<n)(hl:c.get (bj (off/es))=some l)
  (hr:off%es+vs.length<=l.length):mh hp (hp.set id (.arr es n el (c.set (bj (off/es)) (fg (off%es) vs l)))) id off vs:=by
 have hfam:∀f e s,(hp.set id (.arr es n el (c.set (bj (off/es)) (fg (off%es) vs l)))).get f=some (.cO e s)->hp.get f=some (.cO e s):=by
  intro f e s h;rcases ah h with ⟨_,h⟩|⟨_,h⟩
  ·cases h
  ·exact h
 have hseg:∀i f e tp es' n' el' c',(hp.set id (.arr es n el (c.set (bj (off/es)) (fg (off%es) vs l)))).get i=some (.bX f e tp es' n' el' c')->hp.get i=some (.bX f e tp es' n' el' c'):=by
  intro i f e tp es' n' el' c' h;rcases ah h with ⟨_,h⟩|⟨_,h⟩
  ·cases h
  ·exact h
 have hlive:∀f e,live (hp.set id (.arr es n el (c.set (bj (off/es)) (fg (off%es) vs l)))) f e->live hp f e:=fun f e ⟨s,h⟩=>⟨s,hfam _ _ _ h⟩;refine⟨fun nx hw=>⟨?_,?_,?_,?_⟩,fun B w0 ι w nx hw hc=>?_⟩
 ·intro i o h;rcases ah h with ⟨rfl,_⟩|⟨_,h⟩
  ·exact hw.lt _ _ ho
  ·exact hw.lt _ _ h
 ·intro i f e tp es' n' el' c' h;exact hw.cO _ _ _ _ _ _ _ _ (hseg _ _ _ _ _ _ _ _ h)
 ·intro i f e tp es' n' el' c' e' s h h';exact hw.ep _ _ _ _ _ _ _ _ _ _ (hseg _ _ _ _ _ _ _ _ h) (hfam _ _ _ h')
 ·intro f e i i' tp es' n' el' c' tp' es'' n'' el'' c'' h h1 h2;exact hw.iw _ _ _ _ _ _ _ _ _ _ _ _ _ _ (hfam _ _ _ h) (hseg _ _ _ _ _ _ _ _ h1) (hseg _ _ _ _ _ _ _ _ h2)
 ·obtain⟨C,fz,h1,h2,h3,h4,h5⟩:=hc.obj _ _ ho;obtain⟨l0,hl0,hlen,_⟩:=h4 _ hq;rw[hl]at hl0;cases hl0;have hroom:=vR hq hr hlen;refine⟨⟨eN _ _ _ _ (hc.base _ _ ho trivial) hc.below,fun k hk=>by rw[iL];exact hc.room k hk,?_,?_,?_,?_⟩,?_⟩
  ·intro i o h;rcases ah h with ⟨rfl,rfl⟩|⟨hne,h⟩
   ·refine⟨_,fz,c9 _ _ _ _ _ _ _ h1,h2,by rw[bq];exact h3,?_,by rw[bq];exact h5⟩;have:=rW (base:=0) h4 (vs:=vs) hq hl hr (by rw[h3];omega);rw[h2];exact this
   ·refine (hc.obj _ _ h).aU (fun ho'=>?_) (fun ho'=>?_)
    ·cases o with
     |bX=>exact hlive _ _ ho'
     |_=>exact ho'
    ·refine gS _ _ _ _ _ (fun e=>?_)
     have ho2:own hp o:=by
      cases o with
      |bX=>exact hlive _ _ ho'
      |_=>exact ho'
     obtain⟨f,_,h6⟩:=hc.sep _ _ _ _ hne h ho ho2 trivial e;cases h6
  ·intro i o h ho';rcases ah h with ⟨rfl,rfl⟩|⟨hne,h⟩
   ·exact hc.base _ _ ho trivial
   ·refine hc.base _ _ h ?_;cases o with
    |bX=>exact hlive _ _ ho'
    |_=>exact ho'
  ·intro i i' o o' hne h h' ho1 ho2 e;rcases ah h with ⟨hi,hoo⟩|⟨hne1,g⟩
   ·rcases ah h' with ⟨hi',_⟩|⟨hne2,g'⟩
    ·exact absurd (hi.trans hi'.symm) hne
    ·have ho2':own hp o':=by
       cases o' with
       |bX=>exact hlive _ _ ho2
       |_=>exact ho2
     obtain⟨f,h6,_⟩:=hc.sep i i' (.arr es n el c) _ hne (hi▸ho) g' trivial ho2' e;cases h6
   ·have ho1':own hp o:=by
      cases o with
      |bX=>exact hlive _ _ ho1
      |_=>exact ho1
    rcases ah h' with ⟨hi',_⟩|⟨hne2,g'⟩
    ·obtain⟨f,_,h6⟩:=hc.sep i i' _ (.arr es n el c) hne g (hi'▸ho) ho1' trivial e;cases h6
    ·refine hc.sep _ _ _ _ hne g g' ho1' ?_ e;cases o' with
     |bX=>exact hlive _ _ ho2
     |_=>exact ho2
  ·intro i i' f e es' n' el' c' f' e' tp' es'' n'' el'' c'' hne h h' hl1 hl2;exact hc.eZ _ _ _ _ _ _ _ _ _ _ _ _ _ _ _ hne (hseg _ _ _ _ _ _ _ _ h) (hseg _ _ _ _ _ _ _ _ h') (hlive _ _ hl1) (hlive _ _ hl2)
  ·exact kS h1 (by rw[h2,h3];omega) h5
theorem p9 {hp hp':Tr AO}{id f:Pz}{ep ep' off es n:Nat}{eZ:Bool}{el:TypeId}{c:Tr (List AV)}{l vs:List AV}(ho:hp.get id=some (.bX f ep eZ es n el c))(hlv:live hp f ep)
  (hq:off/es<n) (hl:c.get (bj (off/es))=some l) (hr:off%es+vs.length<=l.length)
  (hA:hp'.get id=some (.bX f ep' eZ es n el (c.set (bj (off/es)) (fg (off%es) vs l))))
  (hB:∀i o,i≠id->hp'.get i=some o->hp.get i=some o∨∃e s,o=.cO e s)
  (hC:∀i o,i≠id->hp'.get i=some o->own hp' o->hp.get i=some o/\own hp o/\gR o≠some f) {B:Nat->Prop} {w0 w:World} {ι:En} (hc:Core B w0 ι hp w) :
  Core B w0 ι hp' (bp w (ι.aY id) (ι.sh id+off) (aq ι vs))/\lP w (ι.aY id) (ι.sh id+off) vs.length:=by
 obtain⟨C,fz,h1,h2,h3,h4,h5⟩:=hc.obj _ _ ho hlv;obtain⟨l0,hl0,hlen,_⟩:=h4 _ hq;rw[hl]at hl0;cases hl0;have hroom:=vR hq hr hlen;have hkap:n*es<=ι.kQ id*es:=zae _ h3
 have hsep:∀i o,i≠id->hp'.get i=some o->own hp' o->ι.aY i≠ι.aY id:=by
  intro i o hne h ho' e;obtain⟨g1,g2,g3⟩:=hC i o hne h ho';obtain⟨f',h6,h7⟩:=hc.sep i id o _ hne g1 ho g2 hlv e;cases h7;exact g3 h6
 refine⟨⟨eN _ _ _ _ (hc.base _ _ ho hlv) hc.below,fun k hk=>by rw[iL];exact hc.room k hk,?_,?_,?_,?_⟩,kS h1 (by omega) h5⟩
 ·intro i o h;by_cases hi:i=id
  ·subst hi;rw[hA]at h;cases h;intro _;refine⟨_,fz,c9 _ _ _ _ _ _ _ h1,by rw[bq];exact h2,h3,?_,by rw[bq];exact h5⟩;exact rW h4 hq hl hr (by omega)
  ·rcases hB i o hi h with g|⟨e,s,rfl⟩
   ·refine (hc.obj _ _ g).aU (fun ho'=>(hC i o hi h ho').2.1) (fun ho'=>gS _ _ _ _ _ (hsep i o hi h ho'))
   ·trivial
 ·intro i o h ho';by_cases hi:i=id
  ·subst hi;exact hc.base _ _ ho hlv
  ·obtain⟨g1,g2,_⟩:=hC i o hi h ho';exact hc.base _ _ g1 g2
 ·intro i i' o o' hne h h' ho1 ho2 e;by_cases hi:i=id
  ·subst hi;exact absurd e.symm (hsep i' o' (fun x=>hne x.symm) h' ho2)
  ·by_cases hi':i'=id
   ·subst hi';exact absurd e (hsep i o hi h ho1)
   ·obtain⟨g1,g2,_⟩:=hC i o hi h ho1;obtain⟨g1',g2',_⟩:=hC i' o' hi' h' ho2;exact hc.sep _ _ _ _ hne g1 g1' g2 g2' e
 ·intro i i' f1 e es' n' el' c' f2 e' tp' es'' n'' el'' c'' hne h h' hl1 hl2;by_cases hi:i=id
  ·subst hi;rw[hA]at h;cases h;obtain⟨_,_,g3⟩:=hC i' _ (fun x=>hne x.symm) h' hl2;exact⟨fun e=>absurd (congrArg some e.symm) g3,fun e=>absurd e.symm (hsep i' _ (fun x=>hne x.symm) h' hl2)⟩
  ·by_cases hi':i'=id
   ·subst hi';rw[hA]at h';cases h';obtain⟨_,_,g3⟩:=hC i _ hi h hl1;exact⟨fun e=>absurd (congrArg some e) g3,fun e=>absurd e (hsep i _ hi h hl1)⟩
   ·obtain⟨g1,g2,_⟩:=hC i _ hi h hl1;obtain⟨g1',g2',_⟩:=hC i' _ hi' h' hl2;exact hc.eZ _ _ _ _ _ _ _ _ _ _ _ _ _ _ _ hne g1 g1' g2 g2'
theorem xm {hp:Tr AO}{id f:Pz}{ep off es n:Nat}{eZ:Bool}{el:TypeId}{c:Tr (List AV)}{l vs:List AV}(ho:hp.get id=some (.bX f ep eZ es n el c))(hf:hp.get f=some (.cO ep true))
  (hq:off/es<n) (hl:c.get (bj (off/es))=some l) (hr:off%es+vs.length<=l.length):mh hp (hp.set id (.bX f ep eZ es n el (c.set (bj (off/es)) (fg (off%es) vs l)))) id off vs:=by
 have hne:f≠id:=fun e=>by rw[e,ho]at hf;cases hf
 generalize hx:(AO.bX f ep eZ es n el (c.set (bj (off/es)) (fg (off%es) vs l)))=x
 have hfam:∀g e s,(hp.set id x).get g=some (.cO e s)->hp.get g=some (.cO e s):=by
  intro g e s h;rcases ah h with ⟨_,h⟩|⟨_,h⟩
  ·rw[<-hx]at h;cases h
  ·exact h
 have hseg:∀i g e tp es' n' el' c',(hp.set id x).get i=some (.bX g e tp es' n' el' c')->∃tp es' n' el' c',hp.get i=some (.bX g e tp es' n' el' c'):=by
  intro i g e tp es' n' el' c' h;rcases ah h with ⟨hi,h⟩|⟨_,h⟩
  ·rw[<-hx]at h;cases h;exact⟨_,_,_,_,_,hi▸ho⟩
  ·exact⟨_,_,_,_,_,h⟩
 refine⟨fun nx hw=>⟨?_,?_,?_,?_⟩,fun B w0 ι w nx hw hc=>?_⟩
 ·intro i o h;rcases ah h with ⟨hi,_⟩|⟨_,h⟩
  ·exact hi▸hw.lt _ _ ho
  ·exact hw.lt _ _ h
 ·intro i g e tp es' n' el' c' h;obtain⟨_,_,_,_,_,h⟩:=hseg _ _ _ _ _ _ _ _ h;exact hw.cO _ _ _ _ _ _ _ _ h
 ·intro i g e tp es' n' el' c' e' s h h';obtain⟨_,_,_,_,_,h⟩:=hseg _ _ _ _ _ _ _ _ h;exact hw.ep _ _ _ _ _ _ _ _ _ _ h (hfam _ _ _ h')
 ·intro g e i i' tp es' n' el' c' tp' es'' n'' el'' c'' h h1 h2;obtain⟨_,_,_,_,_,h1⟩:=hseg _ _ _ _ _ _ _ _ h1;obtain⟨_,_,_,_,_,h2⟩:=hseg _ _ _ _ _ _ _ _ h2;exact hw.iw _ _ _ _ _ _ _ _ _ _ _ _ _ _ (hfam _ _ _ h) h1 h2
 ·refine p9 (ep':=ep) ho ⟨_,hf⟩ hq hl hr (by rw[Tr.bu,hx]) (fun i o hi h=>.inl (by rwa[Tr.dw hi]at h)) (fun i o hi h ho'=>?_) hc;rw[Tr.dw hi]at h;cases o with
  |arr=>exact⟨h,trivial,fun e=>by cases e⟩
  |map=>exact⟨h,trivial,fun e=>by cases e⟩
  |iter=>exact⟨h,trivial,fun e=>by cases e⟩
  |loop=>exact⟨h,trivial,fun e=>by cases e⟩
  |gv=>exact⟨h,trivial,fun e=>by cases e⟩
  |gone=>exact⟨h,trivial,fun e=>by cases e⟩
  |cO=>exact ho'.elim
  |bX g e tp es' n' el' c' =>
   obtain⟨s,hs⟩:=ho';have hs:=hfam _ _ _ hs;refine⟨h,⟨s,hs⟩,fun e'=>hi ?_⟩;cases e';rw[hf]at hs;cases hs;exact hw.iw _ _ _ _ _ _ _ _ _ _ _ _ _ _ hf h ho
theorem xo {hp:Tr AO}{id f:Pz}{ep off es n:Nat}{eZ s0:Bool}{el:TypeId}{c:Tr (List AV)}{l vs:List AV}(ho:hp.get id=some (.bX f ep eZ es n el c))(hf:hp.get f=some (.cO ep s0))
  (hq:off/es<n) (hl:c.get (bj (off/es))=some l) (hr:off%es+vs.length<=l.length) :
  mh hp ((hp.set f (.cO (ep+1) true)).set id (.bX f (ep+1) eZ es n el (c.set (bj (off/es)) (fg (off%es) vs l)))) id off vs:=by
 have hne:f≠id:=fun e=>by rw[e,ho]at hf;cases hf
 generalize hx:(AO.bX f (ep+1) eZ es n el (c.set (bj (off/es)) (fg (off%es) vs l)))=x
 have hget:∀i o,((hp.set f (.cO (ep+1) true)).set id x).get i=some o->(i=id/\x=o)∨(i≠id/\i=f/\o=.cO (ep+1) true)∨(i≠id/\i≠f/\hp.get i=some o):=by
  intro i o h;rcases ah h with ⟨hi,h⟩|⟨hi,h⟩
  ·exact .inl ⟨hi,h⟩
  ·rcases ah h with ⟨hi',h⟩|⟨hi',h⟩
   ·exact .inr (.inl ⟨hi,hi',h.symm⟩)
   ·exact .inr (.inr ⟨hi,hi',h⟩)
 refine⟨fun nx hw=>⟨?_,?_,?_,?_⟩,fun B w0 ι w nx hw hc=>?_⟩
 ·intro i o h;rcases hget i o h with ⟨hi,_⟩|⟨_,hi,_⟩|⟨_,_,h⟩
  ·exact hi▸hw.lt _ _ ho
  ·exact hi▸hw.lt _ _ hf
  ·exact hw.lt _ _ h
 ·intro i g e tp es' n' el' c' h;rcases hget i _ h with ⟨hi,h⟩|⟨_,hi,h⟩|⟨_,_,h⟩
  ·rw[<-hx]at h;cases h;exact hw.cO _ _ _ _ _ _ _ _ ho
  ·cases h
  ·exact hw.cO _ _ _ _ _ _ _ _ h
 ·intro i g e tp es' n' el' c' e' s h h';rcases hget g _ h' with ⟨_,h'⟩|⟨_,hg,h'⟩|⟨_,hg,h'⟩
  ·rw[<-hx]at h';cases h'
  ·cases h';rcases hget i _ h with ⟨hi,h⟩|⟨_,hi,h⟩|⟨_,_,h⟩
   ·rw[<-hx]at h;cases h;exact zad _
   ·cases h
   ·exact Nat.le_succ_of_le (hw.ep _ _ _ _ _ _ _ _ _ _ h (hg▸hf))
  ·rcases hget i _ h with ⟨hi,h⟩|⟨_,hi,h⟩|⟨_,_,h⟩
   ·rw[<-hx]at h;cases h;exact absurd rfl hg
   ·cases h
   ·exact hw.ep _ _ _ _ _ _ _ _ _ _ h h'
 ·intro g e i i' tp es' n' el' c' tp' es'' n'' el'' c'' h h1 h2;rcases hget g _ h with ⟨_,h⟩|⟨_,hg,h⟩|⟨_,hg,h⟩
  ·rw[<-hx]at h;cases h
  ·cases h
   have key:∀j tp es' n' el' c',((hp.set f (.cO (ep+1) true)).set id x).get j=some (.bX g (ep+1) tp es' n' el' c')->j=id:=by
    intro j tp es' n' el' c' h;rcases hget j _ h with ⟨hi,h⟩|⟨_,hi,h⟩|⟨_,_,h⟩
    ·exact hi
    ·cases h
    ·have:=hw.ep _ _ _ _ _ _ _ _ _ _ h (hg▸hf);omega
   rw[key _ _ _ _ _ _ h1,key _ _ _ _ _ _ h2]
  ·rcases hget i _ h1 with ⟨_,h1⟩|⟨_,_,h1⟩|⟨_,_,h1⟩
   ·rw[<-hx]at h1;cases h1;exact absurd rfl hg
   ·cases h1
   ·rcases hget i' _ h2 with ⟨_,h2⟩|⟨_,_,h2⟩|⟨_,_,h2⟩
    ·rw[<-hx]at h2;cases h2;exact absurd rfl hg
    ·cases h2
    ·exact hw.iw _ _ _ _ _ _ _ _ _ _ _ _ _ _ h h1 h2
 ·have hff:((hp.set f (.cO (ep+1) true)).set id x).get f=some (.cO (ep+1) true):=by rw[Tr.dw hne,Tr.bu]
  refine p9 (ep':=ep+1) ho ⟨_,hf⟩ hq hl hr (by rw[Tr.bu,hx]) (fun i o hi h=>?_) (fun i o hi h ho'=>?_) hc
  ·rcases hget i o h with ⟨h1,_⟩|⟨_,_,h1⟩|⟨_,_,h1⟩
   ·exact absurd h1 hi
   ·exact .inr ⟨_,_,h1⟩
   ·exact .inl h1
  ·rcases hget i o h with ⟨h1,_⟩|⟨_,_,h1⟩|⟨_,hif,h1⟩
   ·exact absurd h1 hi
   ·rw[h1]at ho';exact ho'.elim
   ·cases o with
    |arr=>exact⟨h1,trivial,fun e=>by cases e⟩
    |map=>exact⟨h1,trivial,fun e=>by cases e⟩
    |iter=>exact⟨h1,trivial,fun e=>by cases e⟩
    |loop=>exact⟨h1,trivial,fun e=>by cases e⟩
    |gv=>exact⟨h1,trivial,fun e=>by cases e⟩
    |gone=>exact⟨h1,trivial,fun e=>by cases e⟩
    |cO=>exact ho'.elim
    |bX g e tp es' n' el' c' =>
     obtain⟨s,hs⟩:=ho';by_cases hg:g=f
     ·subst hg;rw[hff]at hs;cases hs;have:=hw.ep _ _ _ _ _ _ _ _ _ _ h1 hf;omega
     ·refine⟨h1,⟨s,?_⟩,fun e'=>hg (Option.some.inj e')⟩;rcases hget g _ hs with ⟨_,h3⟩|⟨_,h3,_⟩|⟨_,_,h3⟩
      ·rw[<-hx]at h3;cases h3
      ·exact absurd h3 hg
      ·exact h3
theorem kr {hp:Tr AO}{id:Pz}{off:Nat}{vs:List AV}{k:Tr AO->Rs}(h:jz hp id off vs k=.ok):∃hp',k hp'=.ok/\flat vs=true/\mh hp hp' id off vs:=by
 obtain⟨hfl,h⟩:=aJ h;obtain⟨o,ho,h⟩:=dm h;cases o with
 |arr es n el c =>
  obtain⟨l,hq,hl,h⟩:=pZ h;obtain⟨hr,h⟩:=oT _ h;rw[Tr.cK,Tr.cK]at h;exact⟨_,h,hfl,J3 ho hq hl hr⟩
 |bX f ep eZ es n el c =>
  obtain⟨iw,hf,h⟩:=pY h;obtain⟨l,hq,hl,h⟩:=pZ h;obtain⟨hr,h⟩:=oT _ h;simp only[Tr.cK,aM]at h;rcases bW h with ⟨rfl,h⟩|⟨rfl,h⟩
  ·exact⟨_,h,hfl,xm ho hf hq hl hr⟩
  ·exact⟨_,h,hfl,xo ho hf hq hl hr⟩
 |cO=>cases h
 |map=>cases h
 |iter=>cases h
 |loop=>cases h
 |gv=>cases h
 |gone=>cases h
end Go.aK
namespace Go.aK
open Go.RowKit
theorem cx {hp:Tr AO}{nx:Pz}{x o:AO}(hw:Wf hp nx)(hx:∀e s,x≠.cO e s)(h:own (hp.set nx x) o):own hp o:=by
 cases o with
 |bX f e tp es n el c =>
  obtain⟨s,hs⟩:=h;rcases ah hs with ⟨_,h'⟩|⟨_,h'⟩
  ·exact absurd h' (hx e s)
  ·exact⟨s,h'⟩
 |_=>exact h
theorem tH {B:Nat->Prop}{w0 w:World}{ι:En}{hp:Tr AO}{nx:Pz}{o:AO}{x:Obj}(hw:Wf hp nx)(hc:Core B w0 ι hp w)(hb:ι.aY nx=w.heap.size)(ho:gR o=none)(hx:∀e s,o≠.cO e s)
  (hob:jk ι (hp.set nx o) (w.alloc x) nx o):Core B w0 ι (hp.set nx o) (w.alloc x):=by
 have hlt:∀i p,hp.get i=some p->own hp p->ι.aY i<w.heap.size:=by
  intro i p hi hp';have:=hc.obj _ _ hi;cases p with
  |arr es n el c=>obtain⟨C,fz,h1,_⟩:=this;exact (Array.getElem?_eq_some_iff.1 h1).1
  |bX f e tp es n el c=>obtain⟨C,fz,h1,_⟩:=this hp';exact (Array.getElem?_eq_some_iff.1 h1).1
  |cO=>exact hp'.elim
  |map es c=>obtain⟨E,h1,_⟩:=this;exact (Array.getElem?_eq_some_iff.1 h1).1
  |iter=>exact (Array.getElem?_eq_some_iff.1 this.1).1
  |loop=>obtain⟨_,_,_,h1,_⟩:=this;exact (Array.getElem?_eq_some_iff.1 h1).1
  |gv=>exact (Array.getElem?_eq_some_iff.1 this).1
  |gone=>exact Dn this
 have hne:∀i p,hp.get i=some p->i≠nx:=fun i p hi e=>by have:=hw.lt _ _ hi;rw[e]at this;omega
 refine⟨hc.below.alloc hc.room x,fun k hk=>by have:=hc.room k hk;simp;omega,?_,?_,?_,?_⟩
 ·intro i p hi;rcases ah hi with ⟨rfl,rfl⟩|⟨hi',hi⟩
  ·exact hob
  ·exact (hc.obj _ _ hi).aU (cx hw hx) fun ho'=>Below.heap_alloc _ _ _ (hlt _ _ hi (cx hw hx ho'))
 ·intro i p hi ho';rcases ah hi with ⟨rfl,_⟩|⟨hi',hi⟩
  ·rw[hb];exact fun h=>by have:=hc.room _ h;omega
  ·exact hc.base _ _ hi (cx hw hx ho')
 ·intro i i' p p' hii hi hi' ho1 ho2 e;rcases ah hi with ⟨h1,h2⟩|⟨h1,g1⟩
  ·rcases ah hi' with ⟨h3,_⟩|⟨h3,g3⟩
   ·exact absurd (h1.trans h3.symm) hii
   ·have:=hlt _ _ g3 (cx hw hx ho2);rw[h1,hb]at e;omega
  ·rcases ah hi' with ⟨h3,_⟩|⟨h3,g3⟩
   ·have:=hlt _ _ g1 (cx hw hx ho1);rw[h3,hb]at e;omega
   ·exact hc.sep _ _ _ _ hii g1 g3 (cx hw hx ho1) (cx hw hx ho2) e
 ·intro i i' f e es n el c f' e' tp' es' n' el' c' hii hi hi' hl hl';rcases ah hi with ⟨_,h2⟩|⟨h1,g1⟩
  ·rw[h2]at ho;cases ho
  ·rcases ah hi' with ⟨_,h4⟩|⟨h3,g3⟩
   ·rw[h4]at ho;cases ho
   ·have q1:own hp (.bX f e true es n el c):=cx hw hx hl;have q2:own hp (.bX f' e' tp' es' n' el' c'):=cx hw hx hl';exact hc.eZ _ _ _ _ _ _ _ _ _ _ _ _ _ _ _ hii g1 g3 q1 q2
theorem tI {hp:Tr AO}{nx:Pz}{o:AO}(hw:Wf hp nx)(ho:gR o=none)(hx:∀e s,o≠.cO e s):Wf (hp.set nx o) nx.succ:=by
 refine⟨?_,?_,?_,?_⟩
 ·intro i p h;rw[Pz.cE];rcases ah h with ⟨rfl,_⟩|⟨_,h⟩
  ·omega
  ·have:=hw.lt _ _ h;omega
 ·intro i f e tp es n el c h;rw[Pz.cE];rcases ah h with ⟨_,h⟩|⟨_,h⟩
  ·rw[h]at ho;cases ho
  ·have:=hw.cO _ _ _ _ _ _ _ _ h;omega
 ·intro i f e tp es n el c e' s h h';rcases ah h with ⟨_,h⟩|⟨_,h⟩
  ·rw[h]at ho;cases ho
  ·rcases ah h' with ⟨_,h'⟩|⟨_,h'⟩
   ·exact absurd h' (hx _ _)
   ·exact hw.ep _ _ _ _ _ _ _ _ _ _ h h'
 ·intro f e i i' tp es n el c tp' es' n' el' c' h h1 h2;rcases ah h with ⟨_,h⟩|⟨_,h⟩
  ·exact absurd h (hx _ _)
  ·rcases ah h1 with ⟨_,h1⟩|⟨_,h1⟩
   ·rw[h1]at ho;cases ho
   ·rcases ah h2 with ⟨_,h2⟩|⟨_,h2⟩
    ·rw[h2]at ho;cases ho
    ·exact hw.iw _ _ _ _ _ _ _ _ _ _ _ _ _ _ h h1 h2
theorem GW {B:Nat->Prop}{w0 w:World}{ι:En}{hp:Tr AO}{nx:Pz}{ep:Nat}{s:Bool}(hw:Wf hp nx)(hc:Core B w0 ι hp w):Core B w0 ι (hp.set nx (.cO ep s)) w:=by
 have hown:∀i o,hp.get i=some o->own (hp.set nx (.cO ep s)) o->own hp o:=by
  intro i o hi h;cases o with
  |bX f e tp es n el c =>
   obtain⟨s',hs⟩:=h;rcases ah hs with ⟨h1,_⟩|⟨_,h'⟩
   ·have:=hw.cO _ _ _ _ _ _ _ _ hi;rw[h1]at this;omega
   ·exact⟨s',h'⟩
  |_=>exact h
 refine⟨hc.below,hc.room,?_,?_,?_,?_⟩
 ·intro i o h;rcases ah h with ⟨_,rfl⟩|⟨_,h⟩
  ·trivial
  ·exact (hc.obj _ _ h).aU (hown _ _ h) fun _=>rfl
 ·intro i o h ho;rcases ah h with ⟨_,rfl⟩|⟨_,h⟩
  ·exact ho.elim
  ·exact hc.base _ _ h (hown _ _ h ho)
 ·intro i i' o o' hne h h' ho ho' e;rcases ah h with ⟨_,rfl⟩|⟨_,h⟩
  ·exact ho.elim
  ·rcases ah h' with ⟨_,rfl⟩|⟨_,h'⟩
   ·exact ho'.elim
   ·exact hc.sep _ _ _ _ hne h h' (hown _ _ h ho) (hown _ _ h' ho') e
 ·intro i i' f e es n el c f' e' tp' es' n' el' c' hne h h' hl hl';rcases ah h with ⟨_,h⟩|⟨_,h⟩
  ·cases h
  ·rcases ah h' with ⟨_,h'⟩|⟨_,h'⟩
   ·cases h'
   ·exact hc.eZ _ _ _ _ _ _ _ _ _ _ _ _ _ _ _ hne h h' (hown _ _ h hl) (hown _ _ h' hl')
theorem GX {hp:Tr AO}{nx:Pz}{ep:Nat}{s:Bool}(hw:Wf hp nx):Wf (hp.set nx (.cO ep s)) nx.succ:=by
 refine⟨?_,?_,?_,?_⟩
 ·intro i p h;rw[Pz.cE];rcases ah h with ⟨rfl,_⟩|⟨_,h⟩
  ·omega
  ·have:=hw.lt _ _ h;omega
 ·intro i f e tp es n el c h;rw[Pz.cE];rcases ah h with ⟨_,h⟩|⟨_,h⟩
  ·cases h
  ·have:=hw.cO _ _ _ _ _ _ _ _ h;omega
 ·intro i f e tp es n el c e' s' h h';rcases ah h with ⟨_,h⟩|⟨_,h⟩
  ·cases h
  ·rcases ah h' with ⟨h1,_⟩|⟨_,h'⟩
   ·have:=hw.cO _ _ _ _ _ _ _ _ h;rw[h1]at this;omega
   ·exact hw.ep _ _ _ _ _ _ _ _ _ _ h h'
 ·intro f e i i' tp es n el c tp' es' n' el' c' h h1 h2;rcases ah h1 with ⟨_,h1⟩|⟨_,h1⟩
  ·cases h1
  ·rcases ah h2 with ⟨_,h2⟩|⟨_,h2⟩
   ·cases h2
   ·rcases ah h with ⟨h3,_⟩|⟨_,h⟩
    ·have:=hw.cO _ _ _ _ _ _ _ _ h1;rw[h3]at this;omega
    ·exact hw.iw _ _ _ _ _ _ _ _ _ _ _ _ _ _ h h1 h2
theorem lQ {B:Nat->Prop}{w0 w w':World}{ι:En}{hp:Tr AO}{nx f:Pz}{ep es m:Nat}{tp:Bool}{el:TypeId}{c:Tr (List AV)}(hw:Wf hp nx)(hc:Core B w0 ι hp w)
  (hob:jk ι (hp.set nx (.bX f ep tp es m el c)) w' nx (.bX f ep tp es m el c)) (hkeep:∀i o,hp.get i=some o->own hp o->jk ι hp w' i o) (hbelow:Kept B w0 w') (hroom:∀k,B k->k<w'.heap.size) (hbase:¬B (ι.aY nx))
  (hblk:∀i o,hp.get i=some o->own hp o->ι.aY i=ι.aY nx->gR o=some f)
  (ht1:tp=true->∀i f' e' tp' es' n' el' c',hp.get i=some (.bX f' e' tp' es' n' el' c')->live hp f' e'->(f=f'->tp'=false)/\(ι.aY nx=ι.aY i->m<ι.kQ nx->ι.sh i+n'*es'<=ι.sh nx+m*es))
  (ht2:∀i f' e' es' n' el' c',hp.get i=some (.bX f' e' true es' n' el' c')->live hp f' e'->(f'=f->tp=false)/\(ι.aY i=ι.aY nx->n'<ι.kQ i->ι.sh nx+m*es<=ι.sh i+n'*es')) :
  Core B w0 ι (hp.set nx (.bX f ep tp es m el c)) w':=by
 have hx:∀e s,AO.bX f ep tp es m el c≠.cO e s:=fun e s h=>by cases h
 have hne:∀i p,hp.get i=some p->i≠nx:=fun i p hi e=>by have:=hw.lt _ _ hi;rw[e]at this;omega
 refine⟨hbelow,hroom,?_,?_,?_,?_⟩
 ·intro i p hi;rcases ah hi with ⟨rfl,rfl⟩|⟨hi',hi⟩
  ·exact hob
  ·cases p with
   |cO=>trivial
   |arr=>exact (hkeep _ _ hi trivial).aU (fun h=>h) (fun _=>rfl)
   |map=>exact (hkeep _ _ hi trivial).aU (fun h=>h) (fun _=>rfl)
   |iter=>exact (hkeep _ _ hi trivial).aU (fun h=>h) (fun _=>rfl)
   |loop=>exact (hkeep _ _ hi trivial).aU (fun h=>h) (fun _=>rfl)
   |gv=>exact (hkeep _ _ hi trivial).aU (fun h=>h) (fun _=>rfl)
   |gone=>exact (hkeep _ _ hi trivial).aU (fun h=>h) (fun _=>rfl)
   |bX f' e' tp' es' n' el' c' =>
    intro hl;have hl':live hp f' e':=cx (o:=.bX f' e' tp' es' n' el' c') hw hx hl;exact hkeep _ _ hi hl' hl'
 ·intro i p hi ho';rcases ah hi with ⟨rfl,_⟩|⟨hi',hi⟩
  ·exact hbase
  ·exact hc.base _ _ hi (cx hw hx ho')
 ·intro i i' p p' hii hi hi' ho1 ho2 e;rcases ah hi with ⟨h1,h2⟩|⟨h1,g1⟩
  ·rcases ah hi' with ⟨h3,_⟩|⟨h3,g3⟩
   ·exact absurd (h1.trans h3.symm) hii
   ·rw[h1]at e;exact⟨f,by rw[<-h2];rfl,hblk _ _ g3 (cx hw hx ho2) e.symm⟩
  ·rcases ah hi' with ⟨h3,h4⟩|⟨h3,g3⟩
   ·rw[h3]at e;exact⟨f,hblk _ _ g1 (cx hw hx ho1) e,by rw[<-h4];rfl⟩
   ·exact hc.sep _ _ _ _ hii g1 g3 (cx hw hx ho1) (cx hw hx ho2) e
 ·intro i i' f1 e1 es1 n1 el1 c1 f2 e2 tp2 es2 n2 el2 c2 hii hi hi' hl hl';have q1:live hp f1 e1:=cx (o:=.bX f1 e1 true es1 n1 el1 c1) hw hx hl;have q2:live hp f2 e2:=cx (o:=.bX f2 e2 tp2 es2 n2 el2 c2) hw hx hl';rcases ah hi with ⟨h1,h2⟩|⟨h1,g1⟩
  ·rcases ah hi' with ⟨h3,_⟩|⟨h3,g3⟩
   ·exact absurd (h1.trans h3.symm) hii
   ·cases h2;rw[h1];exact ht1 rfl _ _ _ _ _ _ _ _ g3 q2
  ·rcases ah hi' with ⟨h3,h4⟩|⟨h3,g3⟩
   ·cases h4;rw[h3];exact ht2 _ _ _ _ _ _ _ g1 q1
   ·exact hc.eZ _ _ _ _ _ _ _ _ _ _ _ _ _ _ _ hii g1 g3 q1 q2
theorem zf {hp:Tr AO}{nx f:Pz}{ep es m:Nat}{tp s:Bool}{el:TypeId}{c:Tr (List AV)}(hw:Wf hp nx)(hf:hp.get f=some (.cO ep s))(hs:s=true->∀i e tp es n el c,hp.get i≠some (.bX f e tp es n el c)) :
  Wf (hp.set nx (.bX f ep tp es m el c)) nx.succ:=by
 have hflt:=hw.lt _ _ hf
 have hfam:∀g e s',(hp.set nx (.bX f ep tp es m el c)).get g=some (.cO e s')->hp.get g=some (.cO e s'):=by
  intro g e s' h;rcases ah h with ⟨_,h⟩|⟨_,h⟩
  ·cases h
  ·exact h
 refine⟨?_,?_,?_,?_⟩
 ·intro i p h;rw[Pz.cE];rcases ah h with ⟨rfl,_⟩|⟨_,h⟩
  ·omega
  ·have:=hw.lt _ _ h;omega
 ·intro i g e tp es n el c h;rw[Pz.cE];rcases ah h with ⟨_,h⟩|⟨_,h⟩
  ·cases h;omega
  ·have:=hw.cO _ _ _ _ _ _ _ _ h;omega
 ·intro i g e tp es n el c e' s' h h';have h':=hfam _ _ _ h';rcases ah h with ⟨_,h⟩|⟨_,h⟩
  ·cases h;rw[hf]at h';cases h';exact zad _
  ·exact hw.ep _ _ _ _ _ _ _ _ _ _ h h'
 ·intro g e i i' tp' es' n' el' c' tp'' es'' n'' el'' c'' h h1 h2;have h:=hfam _ _ _ h;rcases ah h1 with ⟨a1,h1⟩|⟨a1,h1⟩
  ·cases h1;rw[hf]at h;cases h;rcases ah h2 with ⟨a2,_⟩|⟨_,h2⟩
   ·exact a1.trans a2.symm
   ·exact absurd h2 (hs rfl _ _ _ _ _ _ _)
  ·rcases ah h2 with ⟨a2,h2⟩|⟨a2,h2⟩
   ·cases h2;rw[hf]at h;cases h;exact absurd h1 (hs rfl _ _ _ _ _ _ _)
   ·exact hw.iw _ _ _ _ _ _ _ _ _ _ _ _ _ _ h h1 h2
end Go.aK
namespace Go.aK
open Go.RowKit
def eE (hp:Tr AO)(id f:Pz)(ep es n:Nat)(el:TypeId)(c:Tr (List AV)):Tr AO:=(hp.set f (.cO ep false)).set id (.bX f ep false es n el c)
theorem cq {hp:Tr AO}{id f:Pz}{ep es n:Nat}{el:TypeId}{c:Tr (List AV)}{i:Pz}{o:AO}(h:(eE hp id f ep es n el c).get i=some o) :
  (i=id/\o=.bX f ep false es n el c)∨(i≠id/\i=f/\o=.cO ep false)∨(i≠id/\i≠f/\hp.get i=some o):=by
 rcases ah h with ⟨hi,h⟩|⟨hi,h⟩
 ·exact .inl ⟨hi,h.symm⟩
 ·rcases ah h with ⟨hi',h⟩|⟨hi',h⟩
  ·exact .inr (.inl ⟨hi,hi',h.symm⟩)
  ·exact .inr (.inr ⟨hi,hi',h⟩)
section
variable {hp:Tr AO}{nx id f:Pz}{ep ep' es n n0:Nat}{eZ s0:Bool}{el:TypeId}{c:Tr (List AV)}
theorem iM (hw:Wf hp nx)(ho:hp.get id=some (.bX f ep eZ es n el c))(hf:hp.get f=some (.cO ep s0))(hep:ep'=ep∨ep'=ep+1){i:Pz}{o:AO}(hi:i≠id)(hg:hp.get i=some o)
  (h:own (eE hp id f ep' es n0 el c) o):own hp o/\(gR o=some f->ep'=ep):=by
 cases o with
 |arr=>exact⟨trivial,fun e=>by cases e⟩
 |map=>exact⟨trivial,fun e=>by cases e⟩
 |iter=>exact⟨trivial,fun e=>by cases e⟩
 |loop=>exact⟨trivial,fun e=>by cases e⟩
 |gv=>exact⟨trivial,fun e=>by cases e⟩
 |gone=>exact⟨trivial,fun e=>by cases e⟩
 |cO=>exact h.elim
 |bX g e tp es' n' el' c' =>
  obtain⟨s,hs⟩:=h;rcases cq hs with ⟨_,h1⟩|⟨_,h1,h2⟩|⟨_,h1,h2⟩
  ·cases h1
  ·cases h2;have h3:=hw.ep _ _ _ _ _ _ _ _ _ _ hg (h1▸hf);have h4:ep'=ep:=by omega
   subst h4;exact⟨⟨s0,h1▸hf⟩,fun _=>rfl⟩
  ·exact⟨⟨s,h2⟩,fun e=>absurd (Option.some.inj e) h1⟩
theorem xq (hw:Wf hp nx)(ho:hp.get id=some (.bX f ep eZ es n el c))(hf:hp.get f=some (.cO ep s0))(hep:ep'=ep∨ep'=ep+1):Wf (eE hp id f ep' es n0 el c) nx:=by
 refine⟨?_,?_,?_,?_⟩
 ·intro i o h;rcases cq h with ⟨hi,_⟩|⟨_,hi,_⟩|⟨_,_,h⟩
  ·exact hi▸hw.lt _ _ ho
  ·exact hi▸hw.lt _ _ hf
  ·exact hw.lt _ _ h
 ·intro i g e tp es' n' el' c' h;rcases cq h with ⟨_,h⟩|⟨_,_,h⟩|⟨_,_,h⟩
  ·cases h;exact hw.cO _ _ _ _ _ _ _ _ ho
  ·cases h
  ·exact hw.cO _ _ _ _ _ _ _ _ h
 ·intro i g e tp es' n' el' c' e' s h h';rcases cq h' with ⟨_,h'⟩|⟨_,hg,h'⟩|⟨_,hg,h'⟩
  ·cases h'
  ·cases h';rcases cq h with ⟨_,h⟩|⟨_,_,h⟩|⟨_,_,h⟩
   ·cases h;exact zad _
   ·cases h
   ·have:=hw.ep _ _ _ _ _ _ _ _ _ _ h (hg▸hf);omega
  ·rcases cq h with ⟨_,h⟩|⟨_,_,h⟩|⟨_,_,h⟩
   ·cases h;exact absurd rfl hg
   ·cases h
   ·exact hw.ep _ _ _ _ _ _ _ _ _ _ h h'
 ·intro g e i i' tp es' n' el' c' tp' es'' n'' el'' c'' h h1 h2;rcases cq h with ⟨_,h⟩|⟨_,_,h⟩|⟨_,hg,h⟩
  ·cases h
  ·cases h
  ·rcases cq h1 with ⟨_,h1⟩|⟨_,_,h1⟩|⟨_,_,h1⟩
   ·cases h1;exact absurd rfl hg
   ·cases h1
   ·rcases cq h2 with ⟨_,h2⟩|⟨_,_,h2⟩|⟨_,_,h2⟩
    ·cases h2;exact absurd rfl hg
    ·cases h2
    ·exact hw.iw _ _ _ _ _ _ _ _ _ _ _ _ _ _ h h1 h2
theorem zg {ι:En}{C:Array Value}{base:Nat}(h:eI ι C base es n c)(hn:n0<=n):eI ι C base es n0 c:=fun q hq=>h q (by omega)
theorem tJ (hw:Wf hp nx)(ho:hp.get id=some (.bX f ep eZ es n el c))(hf:hp.get f=some (.cO ep s0))(hep:ep'=ep∨ep'=ep+1)(hn0:n0<=n){B:Nat->Prop}{w0 w:World}{ι:En}(hc:Core B w0 ι hp w) :
  Core B w0 ι (eE hp id f ep' es n0 el c) w:=by
 have hlv:live hp f ep:=⟨_,hf⟩;refine⟨hc.below,hc.room,?_,?_,?_,?_⟩
 ·intro i o h;rcases cq h with ⟨hi,h1⟩|⟨_,_,h1⟩|⟨hi,_,h1⟩
  ·rw[hi,h1];intro _;obtain⟨C,fz,g1,g2,g3,g4,g5⟩:=hc.obj _ _ ho hlv;exact⟨C,fz,g1,g2,by omega,zg g4 hn0,g5⟩
  ·rw[h1];trivial
  ·exact (hc.obj _ _ h1).aU (fun h2=>(iM hw ho hf hep hi h1 h2).1) fun _=>rfl
 ·intro i o h h2;rcases cq h with ⟨hi,_⟩|⟨_,_,h1⟩|⟨hi,_,h1⟩
  ·rw[hi];exact hc.base _ _ ho hlv
  ·rw[h1]at h2;exact h2.elim
  ·exact hc.base _ _ h1 (iM hw ho hf hep hi h1 h2).1
 ·intro i i' o o' hne h h' k k' e;rcases cq h with ⟨hi,h1⟩|⟨_,_,h1⟩|⟨hi,_,h1⟩
  ·rcases cq h' with ⟨hi',_⟩|⟨_,_,h1'⟩|⟨hi',_,h1'⟩
   ·exact absurd (hi.trans hi'.symm) hne
   ·rw[h1']at k';exact k'.elim
   ·obtain⟨g,g1,g2⟩:=hc.sep id i' (.bX f ep eZ es n el c) _ (fun x=>hi' x.symm) ho h1' hlv (iM hw ho hf hep hi' h1' k').1 (hi▸e);cases g1;exact⟨f,by rw[h1];rfl,g2⟩
  ·rw[h1]at k;exact k.elim
  ·rcases cq h' with ⟨hi',h1'⟩|⟨_,_,h1'⟩|⟨hi',_,h1'⟩
   ·obtain⟨g,g1,g2⟩:=hc.sep i id _ (.bX f ep eZ es n el c) hi h1 ho (iM hw ho hf hep hi h1 k).1 hlv (hi'▸e);cases g2;exact⟨f,g1,by rw[h1'];rfl⟩
   ·rw[h1']at k';exact k'.elim
   ·exact hc.sep _ _ _ _ hne h1 h1' (iM hw ho hf hep hi h1 k).1 (iM hw ho hf hep hi' h1' k').1 e
 ·intro i i' f1 e1 es1 n1 el1 c1 f2 e2 tp2 es2 n2 el2 c2 hne h h' k k';rcases cq h with ⟨_,h1⟩|⟨_,_,h1⟩|⟨hi,_,h1⟩
  ·cases h1
  ·cases h1
  ·have q1:=(iM hw ho hf hep hi h1 k).1;rcases cq h' with ⟨hi',h1'⟩|⟨_,_,h1'⟩|⟨hi',_,h1'⟩
   ·cases h1';obtain⟨t1,t2⟩:=hc.eZ i id _ _ _ _ _ _ _ _ _ _ _ _ _ hi h1 ho q1 hlv;refine⟨fun _=>rfl,fun e hlt=>?_⟩;have:=t2 (hi'▸e) hlt;have:=zae es hn0;rw[hi'];omega
   ·cases h1'
   ·exact hc.eZ _ _ _ _ _ _ _ _ _ _ _ _ _ _ _ hne h1 h1' q1 (iM hw ho hf hep hi' h1' k').1
theorem kT (hw:Wf hp nx)(ho:hp.get id=some (.bX f ep eZ es n el c))(hf:hp.get f=some (.cO ep s0))(hep:(ep'=ep/\eZ=true/\n0=n)∨ep'=ep+1){B:Nat->Prop}{w0 w:World}{ι:En}(hc:Core B w0 ι hp w)
  {i f':Pz} {e' es' n':Nat} {tp':Bool} {el':TypeId} {c':Tr (List AV)} (hi:i≠id) (h:(eE hp id f ep' es n0 el c).get i=some (.bX f' e' tp' es' n' el' c')) (hl:live (eE hp id f ep' es n0 el c) f' e') (hff:f'=f) :
  tp'=false/\(ι.aY i=ι.aY id->n0<ι.kQ id->ι.sh i+n'*es'<=ι.sh id+n0*es):=by
 rcases cq h with ⟨h1,_⟩|⟨_,_,h1⟩|⟨_,_,h1⟩
 ·exact absurd h1 hi
 ·cases h1
 ·have hh:=iM (o:=.bX f' e' tp' es' n' el' c') hw ho hf (hep.imp (·.1) (fun x=>x)) hi h1 hl;have he:=hh.2 (congrArg some hff);rcases hep with ⟨_,ht,hn⟩|h2
  ·subst ht;subst hn;obtain⟨t1,t2⟩:=hc.eZ id i _ _ _ _ _ _ _ _ _ _ _ _ _ (fun x=>hi x.symm) ho h1 ⟨_,hf⟩ hh.1;exact⟨t1 hff.symm,fun e hlt=>t2 e.symm hlt⟩
  ·omega
end
end Go.aK
namespace Go.aK
open Go.RowKit
noncomputable def lay:List (List AV)->Nat->Tr (List AV)->Tr (List AV)
 | [],_,c=>c
 |l::ls,q,c=>lay ls (q+1) (c.set (bj q) l)
theorem lR:∀(ls:List (List AV))(q:Nat)(c:Tr (List AV))(k:Tr (List AV)->Rs),E7 ls q c k=k (lay ls q c)
 | [],_,_,_=>rfl
 |l::ls,q,c,k=>by
  show (c.du (bj q) l fun c=>bo (q+1) fun q=>E7 ls q c k)=_;rw[Tr.cK,aM,lR ls];rfl
theorem xr:∀(ls:List (List AV))(q:Nat)(c:Tr (List AV))(i:Nat),(lay ls q c).get (bj i)=if q<=i/\i<q+ls.length then ls[i-q]? else c.get (bj i)
 | [],q,c,i=>by simp only[lay,zeo];rw[if_neg (by omega)]
 |l::ls,q,c,i=>by
  simp only[lay,zbi];rw[xr ls];by_cases h:q+1<=i/\i<q+1+ls.length
  ·rw[if_pos h,if_pos (by omega),show i-q=(i-(q+1))+1 by omega,zbn]
  ·rw[if_neg h];by_cases h2:i=q
   ·subst h2;rw[Tr.bu,if_pos (by omega),zeb];rfl
   ·rw[Tr.dw (mM h2),if_neg (by omega)]
def even (es:Nat)(ls:List (List AV)):Prop:=∀l∈ls,l.length=es
theorem db {es:Nat}:∀{ls:List (List AV)},even es ls->ls.flatten.length=ls.length*es
 | [],_=>by simp
 |l::ls,h=>by
  have h1:=h l (zac ..);have h2:=db (es:=es) (ls:=ls) fun x hx=>h x (zaa _ hx);simp only[zcc,zak,zbi,h1,h2,zau];omega
theorem zh {es:Nat}:∀{ls:List (List AV)},even es ls->∀(j r:Nat)(l:List AV),ls[j]?=some l->r<es->ls.flatten[j*es+r]?=l[r]?
 | [],_,j,r,l,h,_=>by simp at h
 |x::ls,h,0,r,l,hl,hr=>by
  have h1:=h x (zac ..);simp only[zba,Option.some.injEq]at hl;subst hl;rw[zcc,zbw,zap,zat (by omega)]
 |x::ls,h,j+1,r,l,hl,hr=>by
  have h1:=h x (zac ..);rw[zbn]at hl;have:=zh (es:=es) (ls:=ls) (fun y hy=>h y (zaa _ hy)) j r l hl hr;rw[zcc,zax (by rw[h1,zau];omega),h1,<-this];congr 1;rw[zau];omega
theorem rX {es:Nat}{a b:List (List AV)}(ha:even es a)(hb:even es b):even es (a++b):=fun l hl=>by
 rcases List.mem_append.1 hl with h|h
 ·exact ha l h
 ·exact hb l h
theorem gT {ι:En}{C C':Array Value}{base es n:Nat}{c:Tr (List AV)}{ls:List (List AV)}(h:eI ι C base es n c)(he:even es ls)
  (hold:∀i,i<n*es->C'[base+i]?=C[base+i]?) (hnew:∀i,i<ls.length*es->C'[base+(n*es+i)]?=((ls.flatten)[i]?).map (ak ι)):eI ι C' base es (n+ls.length) (lay ls n c):=by
 intro q hq;by_cases hqn:q<n
 ·obtain⟨l,h1,h2,h3⟩:=h q hqn;refine⟨l,by rw[xr,if_neg (by omega)];exact h1,h2,fun r hr=>?_⟩;have:=zae es (zce hqn);rw[zau]at this;rw[hold _ (by omega),h3 r hr]
 ·have hlt:q-n<ls.length:=by omega
  have hl:ls[q-n]?=some (ls[q-n]'hlt):=zaj hlt;have hlen:(ls[q-n]'hlt).length=es:=he _ (zcp hlt);refine⟨_,by rw[xr,if_pos (by omega)];exact hl,hlen,fun r hr=>?_⟩;have hm:=zae es (zce hlt);rw[zau]at hm
  have e:q*es+r=n*es+((q-n)*es+r):=by
   have:q=n+(q-n):=by omega
   rw[this,zbh];simp only[zcu];omega
  rw[e,hnew _ (by omega),zh he _ _ _ hl hr]
theorem iT (ι:En)(C:Array Value)(base es:Nat)(c:Tr (List AV)):eI ι C base es 0 c:=fun q hq=>by omega
theorem hO (sz:Nat)(id:Pz)(hp:Tr AO):∀(n off:Nat)(k:List (List AV)->Rs),jv hp id sz n off k=.ok ->
  ∃ls,k ls=.ok/\ls.length=n/\∀B w0 ι w,Core B w0 ι hp w->even sz ls/\p7 ι w id off ls.flatten
 |0,off,k,h=>⟨[],h,rfl,fun B w0 ι w hc=>⟨fun l hl=>by simp at hl,fun i hi=>by simp at hi⟩⟩
 |n+1,off,k,h=>by
  obtain⟨l,h,hl⟩:=lO (k:=fun l=>bo (off+sz) fun off=>jv hp id sz n off fun r=>k (l::r)) h;rw[aM]at h;obtain⟨ls,h,hn,hls⟩:=hO sz id hp n _ _ h;refine⟨l::ls,h,by simp[hn],fun B w0 ι w hc=>?_⟩;obtain⟨h1,h2⟩:=hl B w0 ι w hc;obtain⟨h3,h4⟩:=hls B w0 ι w hc;refine⟨fun x hx=>?_,fun i hi=>?_⟩
  ·rcases List.mem_cons.1 hx with rfl|hx
   ·exact h1
   ·exact h3 x hx
  ·rw[zcc];by_cases hlt:i<l.length
   ·rw[zat hlt];exact h2 i hlt
   ·rw[zcc,zak]at hi;have:=h4 (i-l.length) (by omega);rw[zax (by omega),<-this];congr 2;omega
theorem mi:∀(a b:List Value)(w:World)(k o:Nat),bp w k o (a++b)=bp (bp w k o a) k (o+a.length) b
 | [],b,w,k,o=>by simp[bp]
 |v::a,b,w,k,o=>by
  simp only[zeh,bp,zbi];rw[mi a b,show o+1+a.length=o+(a.length+1) by omega]
theorem zi {w:World}{a p:Addr}{v u:Value}(h:(w.setCell a v).cell? p=some u):∃u',w.cell? p=some u':=by
 by_cases hb:p.block=a.block
 ·unfold World.cell? at h ⊢;rw[hb]at h ⊢;simp only[World.setCell,zcn]at h;cases hg:w.heap[a.block]? with
  |none=>rw[hg]at h;simp at h
  |some o =>
   rw[hg]at h;cases o with
   |cells c e fz =>
    simp only[if_true,zaz]at h;cases hs:p.spot.isSome with
    |true=>rw[hs]at h;simp at h
    |false =>
     rw[hs]at h;simp only[zaf,if_false]at h ⊢
     have hlt:p.off<c.size:=by
      have:=(Array.getElem?_eq_some_iff.1 h).1;split at this
      ·exact this
      ·simpa using this
     exact⟨c[p.off],zbf hlt⟩
   |_=>simp at h
 ·have:(w.setCell a v).cell? p=w.cell? p:=World.cell?_of_block (Below.heap_setCell w a v _ hb);rw[this]at h;exact⟨u,h⟩
theorem mY (w:World)(a p:Addr)(v:Value):(w.setCell a v).frozen? p=w.frozen? p:=by
 unfold World.frozen?;simp only[World.setCell,zcn];by_cases hb:a.block=p.block
 ·rw[if_pos hb];cases w.heap[p.block]? with
  |none=>rfl
  |some o=>cases o<;>rfl
 ·rw[if_neg hb]
theorem qa:∀(vs:List Value)(w:World)(b o:Nat)(p:Addr)(u:Value),(bp w b o vs).cell? p=some u->∃u',w.cell? p=some u'
 | [],w,b,o,p,u,h=>⟨u,h⟩
 |v::vs,w,b,o,p,u,h=>by
  obtain⟨u',h'⟩:=qa vs _ b (o+1) p u h;exact zi h'
theorem mj:∀(vs:List Value)(w:World)(b o:Nat)(p:Addr),(bp w b o vs).frozen? p=w.frozen? p
 | [],w,b,o,p=>rfl
 |v::vs,w,b,o,p=>by simp only[bp];rw[mj vs,mY]
theorem mh.append {hp hp1 hp2:Tr AO}{id:Pz}{off:Nat}{a b:List AV}(h:mh hp hp1 id off a)(h':mh hp1 hp2 id (off+a.length) b):mh hp hp2 id off (a++b):=by
 refine⟨fun nx hw=>h'.1 nx (h.1 nx hw),fun B w0 ι w nx hw hc=>?_⟩;obtain⟨c1,p1⟩:=h.2 B w0 ι w nx hw hc;obtain⟨c2,p2⟩:=h'.2 B w0 ι _ nx (h.1 nx hw) c1;refine⟨by rw[e8,mi,aw,zbp];exact c2,fun i hi=>?_⟩;by_cases hlt:i<a.length
 ·exact p1 i hlt
 ·rw[zak]at hi;obtain⟨⟨u,hu⟩,hf⟩:=p2 (i-a.length) (by omega);rw[show ι.sh id+(off+a.length)+(i-a.length)=ι.sh id+off+i by omega]at hu hf;exact⟨qa _ _ _ _ _ _ hu,by rw[mj]at hf;exact hf⟩
theorem mh.nil (hp:Tr AO)(id:Pz)(off:Nat):mh hp hp id off []:=⟨fun _ h=>h,fun _ _ _ _ _ _ hc=>⟨hc,fun i hi=>by simp at hi⟩⟩
theorem rY {a b:List AV}(ha:flat a=true)(hb:flat b=true):flat (a++b)=true:=by
 induction a with
 |nil=>exact hb
 |cons v a ih =>
  obtain⟨h1,h2⟩:=vQ ha;have:=ih h2;show Bool.rec (motive:=fun _=>Bool) false (flat (a++b)) (sK v)=true;rw[h1,this]
theorem ku (id:Pz)(sz:Nat):∀(ls:List (List AV))(off:Nat)(hp:Tr AO)(k:Tr AO->Rs),lH id sz ls off hp k=.ok->∃hp',k hp'=.ok/\flat ls.flatten=true/\even sz ls/\mh hp hp' id off ls.flatten
 | [],off,hp,k,h=>⟨hp,h,rfl,fun l hl=>by simp at hl,mh.nil _ _ _⟩
 |l::ls,off,hp,k,h=>by
  obtain⟨h0,h⟩:=aJ (b:=Nat.beq l.length sz) (x:=jz hp id off l fun hp=>bo (off+sz) fun off=>lH id sz ls off hp k) (n:=9) h;have hl:=aj h0;obtain⟨hp1,h,hf,hput⟩:=kr h;rw[aM]at h;obtain⟨hp2,h,hf2,he,hput2⟩:=ku id sz ls _ hp1 k h;refine⟨hp2,h,by rw[zcc];exact rY hf hf2,fun x hx=>?_,?_⟩
  ·rcases List.mem_cons.1 hx with rfl|hx
   ·exact hl
   ·exact he x hx
  ·rw[zcc];exact hput.append (by rw[hl];exact hput2)
theorem jx (ι:En):∀(vs:List AV),flat vs=true->∀v∈aq ι vs,vj v=true
 | [],_,v,hv=>by simp[aq]at hv
 |x::vs,h,v,hv=>by
  obtain⟨h1,h2⟩:=vQ h;simp only[aq,List.mem_cons]at hv;rcases hv with rfl|hv
  ·exact J2 ι h1
  ·exact jx ι vs h2 v hv
end Go.aK
namespace Go.aK
open Go.RowKit
section
variable {P:Program}{w:World}
theorem nQ {t:TypeId}{i:TypeInfo}(h:P.info? t=some i):(typeInfo t).run P w=.ok i w:=by
 simp[typeInfo,h]
theorem ay {t:TypeId}{d:TypeDesc}(h:P.underlying t=some d):(underlying t).run P w=.ok d w:=by
 simp[underlying,h]
theorem zj {t:TypeId}{d:TypeDesc}(h:P.underlying t=some d):∃i,P.info? t=some i:=by
 unfold Program.underlying at h;split at h
 ·rename_i u i hi;exact⟨_,hi⟩
 ·rename_i i hi;exact⟨_,hi⟩
 ·cases h
theorem dy {t:TypeId}{i:TypeInfo}(h:P.info? t=some i):(sizeOf t).run P w=.ok (af P t) w:=by
 simp[sizeOf,nQ h,af,h]
theorem hX {t:TypeId}{d:TypeDesc}(h:P.underlying t=some d):(sizeOf t).run P w=.ok (af P t) w:=by
 obtain⟨i,hi⟩:=zj h;exact dy hi
theorem iN {t:TypeId}{d:TypeDesc}(h:P.underlying t=some d):(isAgg t).run P w=.ok (ec P t) w:=by
 unfold isAgg ec;simp[ay h,h];cases d<;>simp
theorem qb {t:TypeId}(h:ec P t=true):∃d,P.underlying t=some d:=by
 unfold ec at h;cases hu:P.underlying t with
 |none=>rw[hu]at h;cases h
 |some d=>exact⟨d,rfl⟩
theorem gB {a:Addr}{v:Value}(h:w.cell? a=some v):(load a).run P w=.ok v w:=by
 simp[h]
theorem run_loadCellsFrom (b o:Nat):∀(l:List Value)(i:Nat)(acc:Array Value),(∀j,j<l.length->w.cell? ⟨b,o+i+j,none⟩=l[j]?) ->
  (loadCellsFrom ⟨b,o,none⟩ i l.length acc).run P w=.ok (acc++l.toArray) w
 | [],i,acc,h=>by simp[loadCellsFrom]
 |v::l,i,acc,h=>by
  have h0:=h 0 (by simp);simp only[zbi,loadCellsFrom]
  rw[gz,Sem.run_bind,gB (by simpa using h0),Result.andThen_ok,run_loadCellsFrom b o l (i+1) _ (fun j hj=>by
   have:=h (j+1) (by simp;omega);rw[zbn]at this;rw[<-this];congr 2
   omega)]
  congr 1;rw[Array.push_eq_append,Array.append_assoc];congr 1;simp
theorem run_loadCells {b o:Nat}{l:List Value}{n:Nat}(hn:n=l.length)(h:∀j,j<l.length->w.cell? ⟨b,o+j,none⟩=l[j]?):(loadCells ⟨b,o,none⟩ n).run P w=.ok l.toArray w:=by
 subst hn;have:=run_loadCellsFrom (P:=P) b o l 0 #[] (fun j hj=>by simpa using h j hj);simpa [loadCells] using this
theorem PD {v:Value}(h:vj v=true):v.oneCell'=true:=by cases v<;>first|rfl|cases h
theorem hY (b o:Nat):∀(l:List Value)(i:Nat)(w:World),(∀v∈l,vj v=true)->lP w b (o+i) l.length->(storeCells ⟨b,o,none⟩ l i).run P w=.ok () (bp w b (o+i) l)
 | [],i,w,_,_=>by simp[storeCells,bp]
 |v::l,i,w,hv,hc=>by
  obtain⟨⟨u,hu⟩,hf⟩:=hc 0 (by simp);rw[zbt]at hu hf;have h1:=PD (hv v (zac ..));simp only[storeCells,bp];rw[gz,Sem.run_bind,run_store P w _ v _ h1,hu];simp only[hf,zaf,if_false,Result.andThen_ok];rw[hY b o l (i+1) _ (fun x hx=>hv x (zaa _ hx)) (fun j hj=>?_)]
  ·rw[zbp]
  ·obtain⟨⟨u',hu'⟩,hf'⟩:=hc (j+1) (by simp;omega);rw[show o+i+(j+1)=o+(i+1)+j by omega]at hu' hf';refine⟨?_,by rw[mY];exact hf'⟩;have:=hu';by_cases hb:w.cell? ⟨b,o+(i+1)+j,none⟩=(w.setCell ⟨b,o+i,none⟩ v).cell? ⟨b,o+(i+1)+j,none⟩
   ·exact⟨u',by rw[<-hb];exact hu'⟩
   ·exfalso;apply hb;unfold World.cell?;simp only[World.setCell,zcn,if_true];cases w.heap[b]? with
    |none=>rfl
    |some x =>
     cases x with
     |cells c e fz =>
      simp only[zaz,zdk,zaf,if_false];rw[zcf (by omega)]
     |_=>rfl
end
def GY (D:Nat):Deferred:={ target:=.collected D,args:=#[] }
noncomputable def marks (ι:En)(l:List Pz):List Deferred:=l.map fun id=>GY (ι.aY id)
structure ca (ι:En) (nt:Nat) (tm:Tm) (a:Act):Prop where
 size:a.tmps.size=nt
 defers:a.defers=marks ι tm.ml
 val:∀t,a.tmps.getD t undef=ak ι (tm.at t)
theorem zk {d:Nat}(ih:∀v a,iS d v=some a->∀ι,ak ι a=v)(ι:En):∀(l:List Value)(l':List AV),l.mapM (iS d)=some l'->aq ι l'=l
 | [],l',h=>by simp at h;subst h;rfl
 |v::l,l',h=>by
  rw[zed]at h;cases ha:iS d v with
  |none=>rw[ha]at h;cases h
  |some a =>
   rw[ha]at h;cases hl:l.mapM (iS d)with
   |none=>rw[hl]at h;cases h
   |some r =>
    rw[hl]at h;cases h;simp only[aq];rw[ih v a ha ι,zk ih ι l r hl]
theorem ei:∀(d:Nat)(v:Value)(a:AV),iS d v=some a->∀ι,ak ι a=v
 |0,v,a,h=>by cases h
 |d+1,v,a,h=>by
  intro ι;have ih:=zk (d:=d) (fun v a h ι=>ei d v a h ι) ι;cases v with
  |bool b=>cases h;simp[ak]
  |int k n=>cases h;simp[ak]
  |float k n=>cases h;simp[ak]
  |complex k x y=>cases h
  |string s=>cases h;simp only[ak];rw[mR]
  |pointer p=>cases p with
   |none=>cases h;simp[ak]
   |some x=>cases h
  |slice p n m=>cases p with
   |some x=>simp[iS]at h
   |none=>cases n with
    |succ n=>simp[iS]at h
    |zero=>cases m with
     |succ m=>simp[iS]at h
     |zero=>cases h;simp[ak]
  |map r=>cases r with
   |none=>cases h;simp[ak]
   |some x=>cases h
  |chan r=>cases h
  |func fn first captured =>
   simp only[iS]at h;cases hf:GI fn with
   |false=>rw[hf]at h;cases h
   |true =>
    cases hx:first.toList.mapM (iS d)with
    |none=>rw[hf,hx]at h;cases h
    |some x =>
     cases hy:captured.toList.mapM (iS d)with
     |none=>rw[hf,hx,hy]at h;cases h
     |some y =>
      rw[hf,hx,hy]at h;cases h;simp only[ak];rw[ih _ _ hx,ih _ _ hy,yZ hf]
  |nilFunc=>cases h;simp[ak]
  |iface t v=>cases h
  |nilIface=>cases h;simp[ak]
  |agg cs =>
   simp only[iS]at h;cases hm:cs.toList.mapM (iS d)with
   |none=>rw[hm]at h;cases h
   |some l=>rw[hm]at h;cases h;simp only[ak];rw[ih _ _ hm]
  |tuple cs =>
   simp only[iS]at h;cases hm:cs.toList.mapM (iS d)with
   |none=>rw[hm]at h;cases h
   |some l=>rw[hm]at h;cases h;simp only[ak];rw[ih _ _ hm]
theorem aQ {x:Operand}{tm:Tm}{k:AV->Rs}(h:(cQ x).run tm k=.ok):∃v,k v=.ok/\∀ι nt a,ca ι nt tm a->a.eval x=ak ι v:=by
 cases x with
 |tmp t =>
  have h:(pL t).run tm k=.ok:=h;rw[lL]at h;exact⟨_,h,fun ι nt a ha=>ha.val t⟩
 |const v =>
  simp only[cQ]at h;cases hv:iS 8 v with
  |none=>rw[hv]at h;cases h
  |some a=>rw[hv]at h;exact⟨a,h,fun ι nt b _=>(ei 8 v a hv ι).symm⟩
 |global g=>cases h
 |func f=>exact⟨_,h,fun ι nt a _=>by simp[Act.eval,ak,aq,kR]⟩
theorem s5:∀(xs:List Operand){tm:Tm}{k:List AV->Rs},yO xs tm k=.ok->∃vs,k vs=.ok/\∀ι nt a,ca ι nt tm a->xs.map a.eval=aq ι vs
 | [],tm,k,h=>⟨[],h,fun _ _ _ _=>rfl⟩
 |x::xs,tm,k,h=>by
  obtain⟨v,h,hv⟩:=aQ (k:=fun v=>yO xs tm fun vs=>k (v::vs)) h;obtain⟨vs,h,hvs⟩:=s5 xs h;exact⟨v::vs,h,fun ι nt a ha=>by simp only[zal,aq];rw[hv ι nt a ha,hvs ι nt a ha]⟩
end Go.aK
namespace Go.aK
open Go.RowKit
theorem tK {kd:IntKind}{z:Int}{k:Int->Rs}(h:vC kd z k=.ok):k (kd.wrap z)=.ok:=by
 unfold vC at h;cases kd
 case i64 =>
  cases z with
  |ofNat m =>
   simp only[aM,cU]at h;rcases bW h with ⟨hb,h⟩|⟨_,h⟩
   ·have:=aN hb;rw[zdm _ ⟨by simp only[zbk];omega,by simp only[zbk];omega⟩];exact h
   ·exact h
  |negSucc m =>
   simp only[aM,cU]at h;rcases bW h with ⟨hb,h⟩|⟨_,h⟩
   ·have:=aN hb;rw[zdm _ ⟨by omega,by omega⟩];exact h
   ·exact h
 all_goals (simp only[cU]at h;exact h)
theorem qc {mx:Nat}{kd:IntKind}(hin:∀n:Int,-(mx:Int)-1<=n->n<=mx->kd.wrap n=n){z:Int}{k:Int->Rs}(h:vD mx kd z k=.ok):k (kd.wrap z)=.ok:=by
 unfold vD at h;cases z with
 |ofNat m =>
  rcases bW h with ⟨hb,h⟩|⟨_,h⟩
  ·rw[aM]at h;have:=aN hb;rw[hin _ (by simp only[zbk];omega) (by simp only[zbk];omega)];exact h
  ·rw[cU]at h;exact h
 |negSucc m =>
  rcases bW h with ⟨hb,h⟩|⟨_,h⟩
  ·rw[aM]at h;have:=aN hb;rw[hin _ (by omega) (by omega)];exact h
  ·rw[cU]at h;exact h
theorem qd {mx:Nat}{kd:IntKind}(hin:∀n:Int,0<=n->n<=mx->kd.wrap n=n){z:Int}{k:Int->Rs}(h:vE mx kd z k=.ok):k (kd.wrap z)=.ok:=by
 unfold vE at h;cases z with
 |ofNat m =>
  rcases bW h with ⟨hb,h⟩|⟨_,h⟩
  ·rw[aM]at h;have:=aN hb;rw[hin _ (by simp only[zbk];omega) (by simp only[zbk];omega)];exact h
  ·rw[cU]at h;exact h
 |negSucc m =>
  simp only[cU]at h;exact h
theorem tL {kd:IntKind}{z:Int}{k:Int->Rs}(h:tA kd z k=.ok):k (kd.wrap z)=.ok:=by
 cases kd with
 |i8=>exact qc (mx:=127) (fun n h1 h2=>Go.IntWalk.i8_in n ⟨by omega,by omega⟩) h
 |i16=>exact qc (mx:=32767) (fun n h1 h2=>Go.IntWalk.i16_in n ⟨by omega,by omega⟩) h
 |i32=>exact qc (mx:=2147483647) (fun n h1 h2=>Go.IntWalk.i32_in n ⟨by omega,by omega⟩) h
 |i64=>exact qc (mx:=9223372036854775807) (fun n h1 h2=>zdm n ⟨by omega,by omega⟩) h
 |u8=>exact qd (mx:=255) (fun n h1 h2=>Go.IntWalk.u8_in n ⟨by omega,by omega⟩) h
 |u16=>exact qd (mx:=65535) (fun n h1 h2=>Go.IntWalk.u16_in n ⟨by omega,by omega⟩) h
 |u32=>exact qd (mx:=4294967295) (fun n h1 h2=>Go.IntWalk.u32_in n ⟨by omega,by omega⟩) h
 |u64=>exact qd (mx:=18446744073709551615) (fun n h1 h2=>Go.IntWalk.u64_in n ⟨by omega,by omega⟩) h
theorem J4 (a b:Int)(k:Int->Rs):Pq a b k=k (Int.add a b):=by
 cases a with
 |ofNat m =>
  cases b with
  |ofNat n=>exact aM (Nat.add m n) fun s=>k (.ofNat s)
  |negSucc n=>exact cU (Int.add (.ofNat m) (.negSucc n)) k
 |negSucc m=>exact cU (Int.add (.negSucc m) b) k
theorem J5 (a b:Int)(k:Int->Rs):Pr a b k=k (Int.sub a b):=by
 cases a with
 |ofNat m =>
  cases b with
  |ofNat n =>
   show bM (Nat.ble n m) (bo (Nat.sub m n) fun s=>k (.ofNat s)) (mE (Int.sub (.ofNat m) (.ofNat n)) k)=_;cases h:Nat.ble n m with
   |true =>
    have:=aN h;show bo (Nat.sub m n) (fun s=>k (.ofNat s))=_;rw[aM];congr 1;show ((m-n:Nat):Int)=(m:Int)-(n:Int);omega
   |false=>exact cU (Int.sub (.ofNat m) (.ofNat n)) k
  |negSucc n=>exact cU (Int.sub (.ofNat m) (.negSucc n)) k
 |negSucc m=>exact cU (Int.sub (.negSucc m) b) k
theorem GZ (a b:Int)(k:Bool->Rs):S8 a b k=k (decide (a<b)):=by
 cases a with
 |ofNat m =>
  cases b with
  |ofNat n =>
   show ck (Nat.ble (Nat.succ m) n) k=_;rw[aW];congr 1;rw[zcy,Nat.ble_eq,decide_eq_true_eq];simp only[zbk];omega
  |negSucc n=>exact aW (decide (Int.ofNat m < .negSucc n)) k
 |negSucc m=>exact aW (decide (Int.negSucc m<b)) k
theorem G4 (a b:Int)(k:Bool->Rs):Gw a b k=k (decide (a<=b)):=by
 cases a with
 |ofNat m =>
  cases b with
  |ofNat n =>
   show ck (Nat.ble m n) k=_;rw[aW];congr 1;rw[zcy,Nat.ble_eq,decide_eq_true_eq];simp only[zbk];omega
  |negSucc n=>exact aW (decide (Int.ofNat m<=.negSucc n)) k
 |negSucc m=>exact aW (decide (Int.negSucc m<=b)) k
theorem G5 (a b:Int)(k:Bool->Rs):S9 a b k=k (a==b):=by
 cases a with
 |ofNat m =>
  cases b with
  |ofNat n =>
   show ck (Nat.beq m n) k=_;rw[aW];congr 1;rw[zcy,Nat.beq_eq,beq_iff_eq];simp only[zbk];omega
  |negSucc n =>
   show k false=_;congr 1
 |negSucc m =>
  cases b with
  |ofNat n =>
   show k false=_;congr 1
  |negSucc n =>
   show ck (Nat.beq m n) k=_;rw[aW];congr 1;rw[zcy,Nat.beq_eq,beq_iff_eq];omega
theorem vS (l m l' m':Nat)(k:Bool->Rs):mF l m l' m' k=k (aR l m l' m'):=by
 unfold mF aR;cases h:Nat.beq l l' with
 |true=>show ck _ k=_;rw[aW,Bool.true_and]
 |false=>rfl
theorem Dp (k:AV->Rs)(b:Bool):E9 k b=k (.bool (!b)):=by cases b<;>rfl
theorem Dq {s:Sem Value}{k:AV->Rs}(h:GL s k=.ok):∃v c,s=.pure c/\k v=.ok/\∀ι,ak ι v=c:=by
 unfold GL at h;split at h
 ·rw[cU]at h;exact⟨_,_,rfl,h,fun ι=>by simp[ak]⟩
 ·rw[aW]at h;exact⟨_,_,rfl,h,fun ι=>by simp[ak]⟩
 ·rw[aM]at h;exact⟨_,_,rfl,h,fun ι=>by simp[ak]⟩
 ·cases h
theorem tM {p:Prop} [Decidable p] (h:decide p=true):p:=of_decide_eq_true h
def G6 (P:Program)(op:BinOp)(t:TypeId)(x y v:AV):Prop:=∀ι w,(binOp op t (ak ι x) (ak ι y)).run P w=.ok (ak ι v) w
theorem G7 {P:Program}{op:BinOp}{t:TypeId}{kd kd':IntKind}{a b:Int}{k:AV->Rs}(h:GM op t kd a kd' b k=.ok):∃v,k v=.ok/\G6 P op t (.int kd a) (.int kd' b) v:=by
 unfold GM at h;split at h
 case h_9 =>
  obtain⟨v,c,hs,hk,hr⟩:=Dq h;refine⟨v,hk,fun ι w=>?_⟩;simp only[ak];rw[hs,hr];rfl
 case h_1 =>
  obtain⟨hd,g⟩:=aJ h;obtain rfl:=tM hd;exact⟨_,tK g,fun ι w=>by simp[ak,binOp,Op.intArith]<;>rfl⟩
 case h_2 =>
  obtain⟨hd,g⟩:=aJ h;obtain rfl:=tM hd;exact⟨_,tK g,fun ι w=>by simp[ak,binOp,Op.intArith]<;>rfl⟩
 all_goals
  obtain⟨hd,g⟩:=aJ h;obtain rfl:=tM hd;rw[aW]at g;exact⟨_,g,fun ι w=>by simp[ak,binOp,Op.intCmp]⟩
theorem toList_mk (l:List UInt8):(ByteArray.mk l.toArray).toList=l:=by simp
theorem G8 {P:Program}{op:BinOp}{t:TypeId}{l m l' m':Nat}{k:AV->Rs}(h:yP op l m l' m' k=.ok):∃v,k v=.ok/\G6 P op t (.str l m) (.str l' m') v:=by
 unfold yP at h;split at h
 ·rw[aM]at h;obtain⟨hb,h⟩:=aJ h;rw[aM]at h;have hb:=aN hb;refine⟨_,h,fun ι w=>?_⟩;simp only[ak,binOp,Op.stringOp];rw[Sem.run_ite,if_neg]
  ·simp only[Sem.run_pure,Result.ok.injEq,and_true,Value.string.injEq];rw[jq,show jm l' m'=m'%256 ^ l' by unfold jm;rw[jq];rfl,mU];apply ByteArray.ext;simp
  ·have e1:(ByteArray.mk (bytesOf l m).toArray).size=l:=by show (bytesOf l m).toArray.size=l;simp[aB]
   have e2:(ByteArray.mk (bytesOf l' m').toArray).size=l':=by show (bytesOf l' m').toArray.size=l';simp[aB]
   rw[e1,e2];show ¬_ > _;simp only[IntKind.max,IntKind.signed,IntKind.bits];omega
 ·rw[aW]at h;refine⟨_,h,fun ι w=>?_⟩;simp only[ak,binOp,Op.stringOp,toList_mk,dZ];rfl
 ·rw[aW]at h;refine⟨_,h,fun ι w=>?_⟩;simp only[ak,binOp,Op.stringOp,toList_mk,dZ];rfl
 ·cases h
end Go.aK
namespace Go.aK
open Go.RowKit
theorem extract_mk (l:List Value)(a b:Nat):l.toArray.extract a b=((l.drop a).take (b-a)).toArray:=by simp
theorem qe {P:Program}{w:World}{t:TypeId}{l:List Value}{off:Nat}(h:ec P t=true):(part t l.toArray off).run P w=.ok (.agg ((l.drop off).take (af P t)).toArray) w:=by
 obtain⟨d,hd⟩:=qb h;simp only[part,Sem.run_bind,iN hd,h,Result.andThen_ok,if_true,hX hd,Sem.run_pure];rw[extract_mk];congr 4;omega
theorem ia {P:Program}{w:World}{t:TypeId}{l:List Value}{off:Nat}{v:Value}{d:TypeDesc}(hd:P.underlying t=some d)(h:ec P t=false)(hv:l[off]?=some v):(part t l.toArray off).run P w=.ok v w:=by
 simp only[part,Sem.run_bind,iN hd,h,Result.andThen_ok,zaf,if_false];rw[zao,hv];rfl
def vk (P:Program)(d:Nat)(t:TypeId)(x y:AV)(b:Bool):Prop:=∀D ι w,d<=D->(Op.equalIn D t (ak ι x) (ak ι y)).run P w=.ok b w
theorem zl {P:Program}:∀{d:Nat}{t:TypeId}{x y:AV}{k:Bool->Rs},jS P d t x y k=.ok->∃u,P.underlying t=some u:=by
 intro d t x y k h;cases d with
 |zero=>cases h
 |succ d =>
  cases hu:P.underlying t with
  |some u=>exact⟨u,rfl⟩
  |none=>simp only[jS,hu]at h;cases h
theorem jY (P:Program):∀(d:Nat)(t:TypeId)(x y:AV)(k:Bool->Rs),jS P d t x y k=.ok->∃b,k b=.ok/\vk P d t x y b
 |0,t,x,y,k,h=>by cases h
 |d+1,t,x,y,k,h=>by
  have up:∀{b:Bool},(∀D ι w,d<=D->(Op.equalIn (D+1) t (ak ι x) (ak ι y)).run P w=.ok b w)->vk P (d+1) t x y b:=by
   intro b hb D ι w hD;obtain⟨D,rfl⟩:∃D',D=D'+1:=⟨D-1,by omega⟩;exact hb D ι w (by omega)
  unfold jS at h;split at h
  case h_1 hu=>rw[aW]at h;exact⟨_,h,up fun D ι w _=>by simp[ak,Op.equalIn,ay hu]⟩
  case h_2 hu =>
   obtain⟨hd,g⟩:=aJ h;obtain rfl:=tM hd;rw[aW]at g;exact⟨_,g,up fun D ι w _=>by simp[ak,Op.equalIn,ay hu]⟩
  case h_3 hu=>rw[aW]at h;exact⟨_,h,up fun D ι w _=>by simp[ak,Op.equalIn,ay hu,dZ,beq_toListBytes]⟩
  case h_18 fields xs ys hu =>
   obtain⟨zm,h⟩:P.stoodInHeld t=false/\_:=by
    cases hs:P.stoodInHeld t with
    |true=>rw[hs]at h;cases h
    |false=>rw[hs]at h;exact⟨rfl,h⟩
   have hfs:P.fieldsOf t=fields:=by unfold Program.fieldsOf;rw[hu]
   have key:∀(fs:List Field) (k:Bool->Rs),
     List.rec (motive:=fun _=>(Bool->Rs)->Rs) (fun k=>k true)
     (fun f _ ih k=>bM (f.name == "_") (ih k)
      (pN f.offset xs fun a=>pN f.offset ys fun b=>bo (af P f.type) fun sz=>rR sz a fun a=>rR sz b fun b =>
       bM (ec P f.type) (jS P d f.type (.agg a) (.agg b) fun e=>bM e (ih k) (k false))
        (vf 0 a fun a=>vf 0 b fun b=>jS P d f.type a b fun e=>bM e (ih k) (k false)))) fs k=.ok ->
     ∃b,k b=.ok/\∀D ι w,d<=D->(Op.eqFields D (aq ι xs).toArray (aq ι ys).toArray fs).run P w=.ok b w:=by
    intro fs
    induction fs with
    |nil=>intro k h;exact⟨true,h,fun D ι w _=>rfl⟩
    |cons f fs ih =>
     intro k h;rcases bW h with ⟨hn,h⟩|⟨hn,h⟩
     ·obtain⟨b,hk,hb⟩:=ih k h;refine⟨b,hk,fun D ι w hD=>?_⟩;simp only[Op.eqFields];rw[if_neg (by simpa using hn)];exact hb D ι w hD
     ·have hn':f.name≠"_":=by simpa using hn
      obtain⟨h1,h⟩:=mP _ h;obtain⟨h2,h⟩:=mP _ h;rw[aM]at h;obtain⟨h3,h⟩:=mN _ h;obtain⟨h4,h⟩:=mN _ h;rcases bW h with ⟨ha,h⟩|⟨ha,h⟩
      ·obtain⟨e,h,he⟩:=jY P d f.type _ _ _ h
       have go:∀D ι w,d<=D->(Op.eqFields D (aq ι xs).toArray (aq ι ys).toArray (f::fs)).run P w=(if (!e)=true then Sem.pure false else Op.eqFields D (aq ι xs).toArray (aq ι ys).toArray fs).run P w:=by
        intro D ι w hD;simp only[Op.eqFields];rw[if_pos hn'];simp only[Sem.run_bind,qe ha,Result.andThen_ok];have:=he D ι w hD;simp only[ak,vO,vP]at this;rw[this];rfl
       rcases bW h with ⟨rfl,h⟩|⟨rfl,h⟩
       ·obtain⟨b,hk,hb⟩:=ih k h;exact⟨b,hk,fun D ι w hD=>by rw[go D ι w hD];exact hb D ι w hD⟩
       ·exact⟨false,h,fun D ι w hD=>by rw[go D ι w hD];rfl⟩
      ·obtain⟨a,ga,h⟩:=nO _ h;obtain⟨b',gb,h⟩:=nO _ h;obtain⟨u,hu'⟩:=zl h;obtain⟨e,h,he⟩:=jY P d f.type _ _ _ h
       have first:∀(l:List AV) (v:AV) (ι:En),((l.drop f.offset).take (af P f.type))[0]?=some v->(aq ι l)[f.offset]?=some (ak ι v):=by
        intro l v ι hg;rw[zck]at hg;split at hg
        ·rw[zbb,zbt]at hg;rw[bx,hg];rfl
        ·cases hg
       have go:∀D ι w,d<=D->(Op.eqFields D (aq ι xs).toArray (aq ι ys).toArray (f::fs)).run P w=(if (!e)=true then Sem.pure false else Op.eqFields D (aq ι xs).toArray (aq ι ys).toArray fs).run P w:=by
        intro D ι w hD;simp only[Op.eqFields];rw[if_pos hn'];simp only[Sem.run_bind,ia hu' ha (first _ _ ι ga),ia hu' ha (first _ _ ι gb),Result.andThen_ok];rw[he D ι w hD];rfl
       rcases bW h with ⟨rfl,h⟩|⟨rfl,h⟩
       ·obtain⟨b,hk,hb⟩:=ih k h;exact⟨b,hk,fun D ι w hD=>by rw[go D ι w hD];exact hb D ι w hD⟩
       ·exact⟨false,h,fun D ι w hD=>by rw[go D ι w hD];rfl⟩
   obtain⟨b,hk,hb⟩:=key fields.toList k h;refine⟨b,hk,up fun D ι w hD=>?_⟩;simp only[ak];rw[run_equalIn_struct w D t _ _ (by rw[hfs];exact hu) zm,hfs];exact hb D ι w hD
  case h_19 n e a b a' b' hu =>
   obtain⟨h1,g1⟩:=aJ h;obtain rfl:=zab h1;obtain⟨h2,g2⟩:=aJ g1;simp only[za,zam]at h2;obtain⟨ha,hi,hs⟩:=h2;obtain⟨i,hi⟩:=Option.isSome_iff_exists.1 hi;have hs:P.cellsOf e=1:=zab hs;obtain⟨u,hue⟩:=zl g2;obtain⟨x,g3,hx⟩:=jY P d e _ _ _ g2
   have go:∀D ι w,d<=D->(Op.equalIn (D+1) t (ak ι (.agg [a,b])) (ak ι (.agg [a',b']))).run P w=((do
     let r <-Op.equalIn D e (ak ι a) (ak ι a')
     if (!r)=true then pure false else do
      let r <-Op.equalIn D e (ak ι b) (ak ι b')
      if (!r)=true then pure false else pure true:Sem Bool)).run P w:=by
    intro D ι w hD;have p0:∀(x y:AV) w,(part e [ak ι x,ak ι y].toArray (0*P.cellsOf e)).run P w=.ok (ak ι x) w:=fun x y w=>ia hue ha (by rw[hs];rfl);have p1:∀(x y:AV) w,(part e [ak ι x,ak ι y].toArray (1*P.cellsOf e)).run P w=.ok (ak ι y) w:=fun x y w=>ia hue ha (by rw[hs];rfl);have p2:∀(x y:AV) w,(part e [ak ι x,ak ι y].toArray (P.cellsOf e)).run P w=.ok (ak ι y) w:=fun x y w=>by have:=p1 x y w;rwa[zez]at this
    show (Op.equalIn (D+1) t (.agg [ak ι a,ak ι b].toArray) (.agg [ak ι a',ak ι b'].toArray)).run P w=_;rw[run_equalIn_array w D _ _ hu hi];show (Op.eqItems D e (P.cellsOf e) _ _ [0,1]).run P w=_;simp only[Op.eqItems,Sem.run_bind,p0,p1,Result.andThen_ok];generalize (Op.equalIn D e (ak ι a) (ak ι a')).run P w=r1;cases r1 with
    |ok r w1 =>
     have q:=p2 a b w1;have q':=p2 a' b' w1;cases r<;>simp only[Result.andThen_ok,zez,Sem.run_bind]<;>simp only[Sem.run_bind,zew,zd,if_true,zaf,if_false,Sem.run_pure,p2,zez,Result.andThen_ok]
    |halt x w1=>simp[Result.andThen]
   rcases bW g3 with ⟨rfl,g4⟩|⟨rfl,g4⟩
   ·obtain⟨y,g5,hy⟩:=jY P d e _ _ _ g4;refine⟨y,g5,up fun D ι w hD=>?_⟩;rw[go D ι w hD];simp only[Sem.run_bind,hx D ι w hD,Result.andThen_ok];simp[hy D ι w hD];cases y<;>simp
   ·refine⟨false,g4,up fun D ι w hD=>?_⟩;rw[go D ι w hD];simp only[Sem.run_bind,hx D ι w hD,Result.andThen_ok];simp
  case h_20=>cases h
  all_goals
   rename_i hu;exact⟨_,h,up fun D ι w _=>by simp[ak,Op.equalIn,ay hu]⟩
theorem iO {P:Program}{t:TypeId}{x y:AV}{b:Bool}(h:vk P 9 t x y b)(ι:En)(w:World):(Op.equal t (ak ι x) (ak ι y)).run P w=.ok b w:=h 10000 ι w (by decide)
theorem qf {P:Program}{t:TypeId}{a b:Value}(h:∀k n k' n',a=.int k n->b=.int k' n'->False)(h2:∀k n k' n',a=.float k n->b=.float k' n'->False)(h3:∀k n m k' n' m',a=.complex k n m->b=.complex k' n' m'->False)(h4:∀s s',a=.string s->b=.string s'->False) :
  binOp .eql t a b=(do pure (.bool (<-Op.equal t a b)))/\binOp .neq t a b=(do pure (.bool (!(<-Op.equal t a b)))):=by
 cases a<;>cases b<;>first
  |exact⟨rfl,rfl⟩
  |exact (h _ _ _ _ rfl rfl).elim
  |exact (h2 _ _ _ _ rfl rfl).elim
  |exact (h3 _ _ _ _ _ _ rfl rfl).elim
  |exact (h4 _ _ rfl rfl).elim
theorem J6 {P:Program}{op:BinOp}{t:TypeId}{x y:AV}{k:AV->Rs}(h:yQ P op t x y k=.ok):(∃v,k v=.ok/\G6 P op t x y v)/\¬(x=.nilIface/\y=.nilIface):=by
 unfold yQ at h;split at h
 ·exact⟨G7 h,fun e=>by cases e.1⟩
 ·exact⟨G8 h,fun e=>by cases e.1⟩
 ·cases h
 ·rename_i hnf hni hns
  have side:∀ι,binOp .eql t (ak ι x) (ak ι y)=(do pure (.bool (<-Op.equal t (ak ι x) (ak ι y))))/\binOp .neq t (ak ι x) (ak ι y)=(do pure (.bool (!(<-Op.equal t (ak ι x) (ak ι y))))):=by
   intro ι;refine qf (P:=P) ?_ ?_ ?_ ?_
   ·intro k n k' n' hx hy;cases x<;>simp[ak]at hx
    cases y<;>simp[ak]at hy
    exact hni _ _ _ _ rfl rfl
   ·intro k n k' n' hx hy;cases x<;>simp[ak]at hx
    exact hnf _ _ rfl
   ·intro k n m k' n' m' hx hy;cases x<;>simp[ak]at hx
   ·intro s s' hx hy;cases x<;>simp[ak]at hx
    cases y<;>simp[ak]at hy
    exact hns _ _ _ _ rfl rfl
  have nil:∀{kk:Bool->Rs},jS P 9 t x y kk=.ok->¬(x=.nilIface/\y=.nilIface):=by
   rintro kk hk ⟨rfl,rfl⟩
   unfold jS at hk;split at hk<;>first|cases hk|skip
   all_goals simp_all
  split at h
  ·obtain⟨b,h1,h2⟩:=jY P _ _ _ _ _ h;refine⟨⟨_,h1,fun ι w=>?_⟩,nil h⟩;rw[(side ι).1];simp[iO h2 ι w,ak]
  ·obtain⟨b,h1,h2⟩:=jY P _ _ _ _ _ h;rw[aW]at h1;refine⟨⟨_,h1,fun ι w=>?_⟩,nil h⟩;rw[(side ι).2];simp[iO h2 ι w,ak]
  ·cases h
end Go.aK
namespace Go.aK
open Go.RowKit
theorem zo {kd:IntKind}{z:Int}{k:Int->Rs}(h:k (kd.wrap z)=.ok):vC kd z k=.ok:=by
 cases kd
 case i64 =>
  cases z with
  |ofNat m =>
   show bM (Nat.ble m 9223372036854775807) (bo m fun m=>k (.ofNat m)) (mE (IntKind.i64.wrap (.ofNat m)) k)=.ok;by_cases hb:m<=9223372036854775807
   ·rw[zdm _ ⟨by simp only[zbk];omega,by simp only[zbk];omega⟩]at h;rw[zbs hb,yY,aM];exact h
   ·rw[show Nat.ble m 9223372036854775807=false by rw[<-Bool.not_eq_true,Nat.ble_eq];exact hb,vK,cU];exact h
  |negSucc m =>
   show bM (Nat.ble m 9223372036854775807) (bo m fun m=>k (.negSucc m)) (mE (IntKind.i64.wrap (.negSucc m)) k)=.ok;by_cases hb:m<=9223372036854775807
   ·rw[zdm _ ⟨by omega,by omega⟩]at h;rw[zbs hb,yY,aM];exact h
   ·rw[show Nat.ble m 9223372036854775807=false by rw[<-Bool.not_eq_true,Nat.ble_eq];exact hb,vK,cU];exact h
 case i8=>exact (cU (IntKind.i8.wrap z) k).trans h
 case i16=>exact (cU (IntKind.i16.wrap z) k).trans h
 case i32=>exact (cU (IntKind.i32.wrap z) k).trans h
 case u8=>exact (cU (IntKind.u8.wrap z) k).trans h
 case u16=>exact (cU (IntKind.u16.wrap z) k).trans h
 case u32=>exact (cU (IntKind.u32.wrap z) k).trans h
 case u64=>exact (cU (IntKind.u64.wrap z) k).trans h
theorem mZ {b:Bool}{x:Rs}{n:Nat}(hb:b=true)(h:x=.ok):bM b x (.bad n)=.ok:=by rw[hb];exact h
theorem nc (kd:IntKind):decide (kd=kd)=true:=by simp
theorem J7 {P:Program}{op:BinOp}{t:TypeId}{x y:AV}{k:AV->Rs}(h:(Ps P op t).run x y k=.ok):yQ P op t x y k=.ok:=by
 cases op
 case add =>
  have h:qN x (.bad 39) (fun kd a=>asInt y fun kd' b=>bM (eM kd kd') (Pq a b fun z=>tA kd z fun z=>k (.int kd z)) (.bad 31)) (fun l m=>ke y (.bad 39) fun l' m'=>yP .add l m l' m' k)=.ok:=h;cases x<;>first|(cases h;done)|skip
  ·obtain⟨kd',b,rfl,g⟩:=c8 h;obtain⟨hk,g2⟩:=aJ g;have:=gQ hk;subst this;rw[J4]at g2;exact mZ (nc _) (zo (tL g2))
  ·cases y<;>first|(cases h;done)|exact h
 case sub =>
  have h:asInt x (fun kd a=>asInt y fun kd' b=>bM (eM kd kd') (Pr a b fun z=>tA kd z fun z=>k (.int kd z)) (.bad 31))=.ok:=h;obtain⟨kd,a,rfl,g⟩:=c8 h;obtain⟨kd',b,rfl,g1⟩:=c8 g;obtain⟨hk,g2⟩:=aJ g1;have:=gQ hk;subst this;rw[J5]at g2;exact mZ (nc _) (zo (tL g2))
 case lss =>
  have h:asInt x (fun kd a=>asInt y fun kd' b=>bM (eM kd kd') (S8 a b fun b=>k (.bool b)) (.bad 31))=.ok:=h;obtain⟨kd,a,rfl,g⟩:=c8 h;obtain⟨kd',b,rfl,g1⟩:=c8 g;obtain⟨hk,g2⟩:=aJ g1;have:=gQ hk;subst this;rw[GZ]at g2;exact mZ (nc _) (by rw[aW];exact g2)
 case gtr =>
  have h:asInt x (fun kd a=>asInt y fun kd' b=>bM (eM kd kd') (S8 b a fun b=>k (.bool b)) (.bad 31))=.ok:=h;obtain⟨kd,a,rfl,g⟩:=c8 h;obtain⟨kd',b,rfl,g1⟩:=c8 g;obtain⟨hk,g2⟩:=aJ g1;have:=gQ hk;subst this;rw[GZ]at g2;exact mZ (nc _) (by rw[aW];exact g2)
 case leq =>
  have h:asInt x (fun kd a=>asInt y fun kd' b=>bM (eM kd kd') (Gw a b fun b=>k (.bool b)) (.bad 31))=.ok:=h;obtain⟨kd,a,rfl,g⟩:=c8 h;obtain⟨kd',b,rfl,g1⟩:=c8 g;obtain⟨hk,g2⟩:=aJ g1;have:=gQ hk;subst this;rw[G4]at g2;exact mZ (nc _) (by rw[aW];exact g2)
 case geq =>
  have h:asInt x (fun kd a=>asInt y fun kd' b=>bM (eM kd kd') (Gw b a fun b=>k (.bool b)) (.bad 31))=.ok:=h;obtain⟨kd,a,rfl,g⟩:=c8 h;obtain⟨kd',b,rfl,g1⟩:=c8 g;obtain⟨hk,g2⟩:=aJ g1;have:=gQ hk;subst this;rw[G4]at g2;exact mZ (nc _) (by rw[aW];exact g2)
 case eql =>
  have h:qN x (yQ P .eql t x y k) (fun kd a=>asInt y fun kd' b=>bM (eM kd kd') (S9 a b fun b=>k (.bool b)) (.bad 31)) (fun l m=>ke y (.bad 39) fun l' m'=>mF l m l' m' fun b=>k (.bool b))=.ok:=h;cases x<;>first|exact h|skip
  ·obtain⟨kd',b,rfl,g⟩:=c8 h;obtain⟨hk,g2⟩:=aJ g;have:=gQ hk;subst this;rw[G5]at g2;exact mZ (nc _) (by rw[aW];exact g2)
  ·cases y<;>first|(cases h;done)|skip
   rename_i l m l' m' _;have h:mF l m l' m' (fun b=>k (.bool b))=.ok:=h;rw[vS]at h;show ck (aR l m l' m') (fun b=>k (.bool b))=.ok;rw[aW];exact h
 case neq =>
  have h:qN x (yQ P .neq t x y k) (fun kd a=>asInt y fun kd' b=>bM (eM kd kd') (S9 a b (E9 k)) (.bad 31)) (fun l m=>ke y (.bad 39) fun l' m'=>mF l m l' m' (E9 k))=.ok:=h;cases x<;>first|exact h|skip
  ·obtain⟨kd',b,rfl,g⟩:=c8 h;obtain⟨hk,g2⟩:=aJ g;have:=gQ hk;subst this;rw[G5,Dp]at g2;exact mZ (nc _) (by rw[aW];exact g2)
  ·cases y<;>first|(cases h;done)|skip
   rename_i l m l' m' _;have h:mF l m l' m' (E9 k)=.ok:=h;rw[vS,Dp]at h;show ck (!aR l m l' m') (fun b=>k (.bool b))=.ok;rw[aW];exact h
 all_goals exact h
end Go.aK
namespace Go.aK
open Go.RowKit
def En.at (ι:En)(nx:Pz)(b s κ:Nat):En:=⟨fun i=>if i=nx then b else ι.aY i,fun i=>if i=nx then s else ι.sh i,fun i=>if i=nx then κ else ι.kQ i⟩
theorem ib (ι:En)(nx:Pz)(b s κ:Nat):ao nx ι (ι.at nx b s κ):=by
 intro id hid;have:id≠nx:=fun e=>by rw[e]at hid;omega
 simp[En.at,this]
theorem tN {nx:Pz}{ι ι':En}(h:ao nx.succ ι ι'):ao nx ι ι':=fun id hid=>h id (by rw[Pz.cE];omega)
theorem eR {ι ι':En}{nx:Pz}{b s κ:Nat}(h:ao nx.succ (ι.at nx b s κ) ι'):ao nx ι ι'/\ι'.aY nx=b/\ι'.sh nx=s/\ι'.kQ nx=κ:=by
 refine⟨(ib ι nx b s κ).trans (tN h) (zad _),?_,?_,?_⟩
 ·rw[(h nx (by rw[Pz.cE];omega)).1];simp[En.at]
 ·rw[(h nx (by rw[Pz.cE];omega)).2.1];simp[En.at]
 ·rw[(h nx (by rw[Pz.cE];omega)).2.2];simp[En.at]
def Sat (B:Nat->Prop)(w0:World)(nt:Nat)(tm:Tm)(hp:Tr AO)(nx:Pz)(ι:En)(a:Act)(w:World):Prop :=
 Wf hp nx/\∀ι',ao nx ι ι'->ca ι' nt tm a/\Core B w0 ι' hp w
def G9 (B:Nat->Prop)(w0:World)(ι:En)(nx:Pz)(k:AV->Tr AO->Pz->Rs)(next:Value->World->Prop):Prop :=
 ∀v hp' nx' ι2 cv w',k v hp' nx'=.ok->Wf hp' nx'->nx.num<=nx'.num->ao nx ι ι2->(∀ι',ao nx' ι2 ι'->Core B w0 ι' hp' w'/\cv=ak ι' v)->next cv w'
def fw (r:Option Nat):Fence:={ Fence.wide with round:=r }
def dU (P:Program)(s:Sem Next)(w:World)(G:Value->World->Prop):Prop :=
 (∃cv w',(s.run P w=.ok (.value cv) w'∨(s.run P w=.ok .skip w'/\cv=undef))/\G cv w')∨
 (∃f args w',s.run P w=.ok (.enter f args) w'/\Calls P f args w' fun e w''=>∃cv,e=.returned cv/\G cv w'')∨
 (∃l f tmps assign body w',s.run P w=.ok (.round l f tmps assign body) w'/\RoundIn Fence.wide 0 P l f tmps assign body w' fun e w''=>∃cv,e=.returned cv/\G cv w'')
theorem dU.mono {P:Program}{s:Sem Next}{w:World}{G G':Value->World->Prop}(h:dU P s w G)(hg:∀cv w',G cv w'->G' cv w'):dU P s w G':=by
 rcases h with ⟨cv,w',h1,h2⟩|⟨f,args,w',h1,h2⟩|⟨l,f,tmps,x,y,w',h1,h2⟩
 ·exact .inl ⟨cv,w',h1,hg _ _ h2⟩
 ·exact .inr (.inl ⟨f,args,w',h1,Calls.mono h2 fun e w'' ⟨cv,e1,e2⟩=>⟨cv,e1,hg _ _ e2⟩⟩)
 ·exact .inr (.inr ⟨l,f,tmps,x,y,w',h1,RoundIn.mono h2 fun e w'' ⟨cv,e1,e2⟩=>⟨cv,e1,hg _ _ e2⟩⟩)
theorem dU.plain {P:Program}{o:Oper}{ρ:Operand->Value}{w:World}{G:Value->World->Prop}(h:dU P (execOp ρ o) w G):∀c,o.op≠.defer c:=by
 intro c hc
 have hr:∀n w',(execOp ρ o).run P w=.ok n w'->∃d,n=.defer d:=by
  intro n w' hr;simp only[execOp,hc,Sem.run_bind]at hr;cases hd:(resolve ρ c o.type).run P w with
  |ok d w2 =>
   rw[hd,Result.andThen_ok]at hr;simp only[Sem.run_pure,Result.ok.injEq]at hr;exact⟨_,hr.1.symm⟩
  |halt x w2=>rw[hd]at hr;cases hr
 rcases h with ⟨cv,w',h|⟨h,_⟩,_⟩|⟨f,args,w',h,_⟩|⟨l,f,tmps,x,y,w',h,_⟩<;>(obtain⟨d,hd⟩:=hr _ _ h;cases hd)
theorem tO {r:Option Nat}{n:Nat}:(fw r).depth.isSome=true->1<=n:=fun h=>by simp[fw,Fence.wide]at h
theorem zp {P:Program}{f:FuncId}{args:Array Value}{w:World}{R:Ending->World->Prop}(h:Calls P f args w R)(r:Option Nat)(n:Nat):CallsIn (fw r) n P f args w R:=by
 have h:CallsIn Fence.wide n P f args w R:=callsIn_wide.2 h;exact⟨trivial,fun cs _=>h.2 cs (room_wide _)⟩
theorem Ha {P:Program}{l:Nat}{f:FuncId}{tmps:Array Value}{x y:Code}{w:World}{R:Ending->World->Prop}(h:RoundIn Fence.wide 0 P l f tmps x y w R)(r:Option Nat)(n:Nat):RoundIn (fw r) n P l f tmps x y w R :=
 ⟨trivial,fun c cs _=>h.2 c cs (room_wide _)⟩
theorem dU.wp {P:Program}{r:Option Nat}{o:Oper}{a:Act}{w:World}{G:Value->World->Prop}(h:dU P (execOp a.eval o) w G){next:Act->World->Prop}{Q:Exit->Act->World->Prop}(hn:∀cv w',G cv w'->next (a.put o.dst cv) w'):o.wpIn (fw r) 0 P a w next Q:=by
 refine⟨fun _ _=>trivial,?_⟩;rw[Oper.semAt_eq _ _ _ h.plain];rcases h with ⟨cv,w',h|⟨h,rfl⟩,hg⟩|⟨f,args,w',h,hc⟩|⟨l,f,tmps,x,y,w',h,hc⟩
 ·rw[h];exact hn _ _ hg
 ·rw[h];exact hn _ _ hg
 ·rw[h,Oper.uponIn_enter];refine⟨tO,CallsIn.mono (zp hc r _) fun e w'' he=>?_⟩;obtain⟨cv,rfl,hg⟩:=he;exact hn _ _ hg
 ·rw[h,Oper.uponIn_round];refine⟨tO,RoundIn.mono (Ha hc r _) fun e w'' he=>?_⟩;obtain⟨cv,rfl,hg⟩:=he;exact hn _ _ hg
def jT (P:Program)(o:Oper)(tm:Tm)(hp:Tr AO)(nx:Pz)(k:AV->Tr AO->Pz->Rs):Prop :=
 ∀B w0 nt a w ι,Sat B w0 nt tm hp nx ι a w->∀(G:Value->World->Prop),G9 B w0 ι nx k G->dU P (execOp a.eval o) w G
structure Gx (P:Program) (o:Oper) (tm:Tm) (hp:Tr AO) (nx:Pz) (v:AV) (hp':Tr AO) (nx':Pz):Prop where
 le:nx.num<=nx'.num
 wf:Wf hp nx->Wf hp' nx'
 run:∀B w0 nt a w ι,Sat B w0 nt tm hp nx ι a w->∃ι2 cv w',ao nx ι ι2/\((execOp a.eval o).run P w=.ok (.value cv) w'∨((execOp a.eval o).run P w=.ok .skip w'/\cv=undef)) /\
  ∀ι',ao nx' ι2 ι'->Core B w0 ι' hp' w'/\cv=ak ι' v
section
variable {P:Program}{o:Oper}{tm:Tm}{hp hp':Tr AO}{nx nx':Pz}{k:AV->Tr AO->Pz->Rs}{v:AV}
theorem Gx.to (h:Gx P o tm hp nx v hp' nx')(hk:k v hp' nx'=.ok):jT P o tm hp nx k:=by
 intro B w0 nt a w ι hs G hn;obtain⟨ι2,cv,w',h1,h2,h3⟩:=h.run B w0 nt a w ι hs;exact .inl ⟨cv,w',h2,hn v hp' nx' ι2 cv w' hk (h.wf hs.1) h.le h1 h3⟩
def gK (P:Program)(o:Oper)(tm:Tm)(hp:Tr AO)(v:AV):Prop :=
 ∀B w0 ι nt a w,ca ι nt tm a->Core B w0 ι hp w->(execOp a.eval o).run P w=.ok (.value (ak ι v)) w
theorem gK.Ff (h:gK P o tm hp v)(nx:Pz):Gx P o tm hp nx v hp nx:=by
 refine⟨zad _,fun hw=>hw,fun B w0 nt a w ι hs=>⟨ι,ak ι v,w,ao.refl _ _,.inl ?_,fun ι' hι=>?_⟩⟩
 ·obtain⟨h1,h2⟩:=hs.2 ι (ao.refl _ _);exact h B w0 ι nt a w h1 h2
 ·obtain⟨h1,h2⟩:=hs.2 ι (ao.refl _ _);obtain⟨h3,h4⟩:=hs.2 ι' hι;refine⟨h4,?_⟩;have e1:=h B w0 ι nt a w h1 h2;have e2:=h B w0 ι' nt a w h3 h4;rw[e1]at e2;simpa using e2
def dz (P:Program)(o:Oper)(tm:Tm)(hp:Tr AO)(nx:Pz)(k:AV->Tr AO->Pz->Rs):Prop:=∃v,k v hp nx=.ok/\gK P o tm hp v
theorem dz.to (h:dz P o tm hp nx k):jT P o tm hp nx k:=by
 obtain⟨v,hk,hv⟩:=h;exact (hv.Ff nx).to hk
def Fg (P:Program)(o:Oper)(tm:Tm)(hp:Tr AO)(nx:Pz)(v:AV)(hp':Tr AO):Prop :=
 (Wf hp nx->Wf hp' nx)/\∀B w0 ι nt a w,Wf hp nx->ca ι nt tm a->Core B w0 ι hp w->∃w' cv,((execOp a.eval o).run P w=.ok (.value cv) w'∨((execOp a.eval o).run P w=.ok .skip w'/\cv=undef))/\cv=ak ι v/\Core B w0 ι hp' w'
theorem Fg.Ff (h:Fg P o tm hp nx v hp'):Gx P o tm hp nx v hp' nx:=by
 refine⟨zad _,h.1,fun B w0 nt a w ι hs=>?_⟩;obtain⟨h1,h2⟩:=hs.2 ι (ao.refl _ _);obtain⟨w',cv,hr,MR,hc⟩:=h.2 B w0 ι nt a w hs.1 h1 h2;refine⟨ι,cv,w',ao.refl _ _,hr,fun ι' hι=>?_⟩;obtain⟨h3,h4⟩:=hs.2 ι' hι;obtain⟨w'',cv',hr',hcv',hc'⟩:=h.2 B w0 ι' nt a w hs.1 h3 h4;rcases hr with hr|⟨hr,hu⟩
 ·rcases hr' with hr'|⟨hr',hu'⟩
  ·rw[hr]at hr';simp only[Result.ok.injEq,Next.value.injEq]at hr';obtain⟨rfl,rfl⟩:=hr';exact⟨hc',hcv'⟩
  ·rw[hr]at hr';simp at hr'
 ·rcases hr' with hr'|⟨hr',hu'⟩
  ·rw[hr]at hr';simp at hr'
  ·rw[hr]at hr';simp only[Result.ok.injEq,true_and]at hr';subst hr';exact⟨hc',by rw[hu,<-hu',hcv']⟩
theorem Gx.new {x:AO}(hx1:gR x=none)(hx2:∀e s,x≠.cO e s)
  (h:∀B w0 ι nt a w,ca ι nt tm a->Core B w0 ι hp w->ι.aY nx=w.heap.size->ι.sh nx=0->∃y,(execOp a.eval o).run P w=.ok (.value (ak ι v)) (w.alloc y)/\jk ι (hp.set nx x) (w.alloc y) nx x) :
  Gx P o tm hp nx v (hp.set nx x) nx.succ:=by
 refine⟨by rw[Pz.cE];omega,fun hw=>tI hw hx1 hx2,fun B w0 nt a w ι hs=>?_⟩;have hag:=ib ι nx w.heap.size 0 0;obtain⟨h1,h2⟩:=hs.2 _ hag;obtain⟨y,hr,_⟩:=h B w0 _ nt a w h1 h2 (by simp[En.at]) (by simp[En.at]);refine⟨_,_,_,hag,.inl hr,fun ι' hι=>?_⟩;obtain⟨ha,hb,hsh,_⟩:=eR hι;obtain⟨h3,h4⟩:=hs.2 ι' ha;obtain⟨y',hr',ho'⟩:=h B w0 ι' nt a w h3 h4 hb hsh;rw[hr]at hr';simp only[Result.ok.injEq,Next.value.injEq]at hr';obtain⟨e1,e2⟩:=hr';rw[e2];exact⟨tH hs.1 h4 hb hx1 hx2 ho',e1⟩
def MS (P:Program)(o:Oper)(tm:Tm)(nx:Pz)(v:AV)(x:AO):Prop :=
 gR x=none/\(∀e s,x≠.cO e s)/\∀ι nt a,ca ι nt tm a->ι.sh nx=0->∃y,(∀w,ι.aY nx=w.heap.size->(execOp a.eval o).run P w=.ok (.value (ak ι v)) (w.alloc y))/\∀hp w',w'.heap[ι.aY nx]?=some y->jk ι hp w' nx x
def rZ (P:Program)(o:Oper)(tm:Tm)(hp:Tr AO)(nx:Pz)(k:AV->Tr AO->Pz->Rs):Prop:=∃v x,k v (hp.set nx x) nx.succ=.ok/\MS P o tm nx v x
theorem cb (w:World)(y:Obj):(w.alloc y).heap[w.heap.size]?=some y:=by
 show (w.heap.push y)[w.heap.size]?=some y;simp
theorem rZ.to (h:rZ P o tm hp nx k):jT P o tm hp nx k:=by
 obtain⟨v,x,hk,hx1,hx2,hr⟩:=h;refine (Gx.new hx1 hx2 (fun B w0 ι nt a w ha hc hb hs=>?_)).to hk;obtain⟨y,h1,h2⟩:=hr ι nt a ha hs;exact⟨y,h1 w hb,h2 _ _ (by rw[hb];exact cb w y)⟩
end
theorem iA {B:Nat->Prop}{w0 w:World}{ι:En}{hp:Tr AO}(h:Core B w0 ι hp w):Core B w0 ι hp w.drew:=by
 refine⟨h.below.drew,h.room,fun i o hi=>?_,h.base,h.sep,h.eZ⟩;exact (h.obj i o hi).aU (fun x=>x) (fun _=>rfl)
theorem cW (hp:Tr AO)(nx:Pz)(o:AO)(k:Pz->Tr AO->Pz->Rs):newObj hp nx o k=k nx (hp.set nx o) nx.succ:=by
 unfold newObj;rw[Tr.cK,Pz.GS]
theorem nR (hp:Tr AO)(nx:Pz)(es n:Nat)(el:TypeId)(c:Tr (List AV))(k:Pz->Tr AO->Pz->Rs):lG hp nx es n el c k=k nx (hp.set nx (.arr es n el c)) nx.succ:=cW _ _ _ _
theorem heap_alloc_new (w:World)(y:Obj):(w.alloc y).heap[w.heap.size]?=some y:=by
 show (w.heap.push y)[w.heap.size]?=some y;simp
theorem tP {ι:En}{hp:Tr AO}{w:World}{nx:Pz}{l:List AV}{el:TypeId}(hb:w.heap[ι.aY nx]?=some (.cells (aq ι l).toArray el (0,0)))(hs:ι.sh nx=0):jk ι hp w nx (.arr l.length 1 el (one l)):=by
 refine⟨(aq ι l).toArray,(0,0),hb,hs,by simp[aw],?_,Or.inl rfl⟩;intro q hq;have:q=0:=by omega
 subst this;refine⟨l,rfl,rfl,fun r hr=>?_⟩;rw[zbw,zap,zap,zao,bx]
end Go.aK
