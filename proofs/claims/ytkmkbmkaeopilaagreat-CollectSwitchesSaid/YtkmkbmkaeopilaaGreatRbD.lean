/- Slice expressions. Slice expressions of a slice of open capacity. Conversions. A string made a slice of bytes. A key found in a map. A map is written. Maps: looked up, written. The lesser and the greater; a row that bears a constant's bytes. A range over a map: the iterator, its steps, the entry it stands at. Loops over functions: calls of yield, and the statement. The table of the operations. Conditions: none. -/
import Derived.Test.YtkmkbmkaeopilaaGreatRbC
import Derived.Maps.Range
namespace Go.Rex
open Go.RowKit
set_option linter.unusedSimpArgs false
set_option linter.unusedVariables false
section
variable {P : Program} {o : Oper} {tm : Tm} {hp : Tr AO} {nx : Pz} {k : AV → Tr AO → Pz → Rs} {call : CallT}
def Bd (tm : Tm) (y : Option Operand) (d n : Nat) : Prop := (y = none ∧ n = d) ∨ ∃ op kd, y = some op ∧ ∀ ι nt a, TmpOk ι nt tm a → a.eval op = .int kd (n : Int)
theorem optNat_ok {y : Option Operand} {d : Nat} {k : Nat → Rs} (h : optNat (y.map evB) tm d k = .ok) : ∃ n, k n = .ok ∧ Bd tm y d n := by
  cases y with
  | none => exact ⟨d, h, .inl ⟨rfl, rfl⟩⟩
  | some op =>
    obtain ⟨v, h, hv⟩ := evB_ok (x := op) h
    obtain ⟨kd, n, rfl, g⟩ := asNat_ok h
    exact ⟨n, g, .inr ⟨op, kd, rfl, fun ι nt a ha => by rw [hv ι nt a ha, ren_int]⟩⟩
theorem bound_ok {w : World} {kd : IntKind} {n y : Nat} {code : BoundsCode} (h : n ≤ y) : (Instr.sliceBound (.int kd (n : Int)) y code).run P w = .ok n w := by
  simp only [Instr.sliceBound, asIntOf, Sem.run_bind, Sem.run_pure, Result.andThen_ok]
  rw [if_pos ⟨by omega, by omega⟩]
  simp
theorem bounds_ok {w : World} {ι : En} {nt : Nat} {a : Act} {lo hi : Option Operand} {b : Bool} {len cap l h : Nat} (ha : TmpOk ι nt tm a) (hh : Bd tm hi len h) (hl : Bd tm lo 0 l) (h1 : l ≤ h) (h2 : h ≤ cap) :
    (Instr.sliceBounds b len cap (lo.map a.eval) (hi.map a.eval) none).run P w = .ok (l, h, cap) w := by
  unfold Instr.sliceBounds
  rcases hh with ⟨rfl, rfl⟩ | ⟨oh, kh, rfl, eh⟩
  · rcases hl with ⟨rfl, rfl⟩ | ⟨ol, kl, rfl, el⟩
    · simp
    · simp only [Option.map_some, Option.map_none, Sem.run_bind, Sem.run_pure, Result.andThen_ok, el ι nt a ha, bound_ok h1, Option.isSome_none, Bool.false_eq_true, if_false]
  · rcases hl with ⟨rfl, rfl⟩ | ⟨ol, kl, rfl, el⟩
    · simp only [Option.map_some, Option.map_none, Sem.run_bind, Sem.run_pure, Result.andThen_ok, eh ι nt a ha, bound_ok h2]
    · simp only [Option.map_some, Option.map_none, Sem.run_bind, Sem.run_pure, Result.andThen_ok, eh ι nt a ha, el ι nt a ha, bound_ok h2, bound_ok h1, Option.isSome_none, Bool.false_eq_true, if_false]
theorem bounds3_ok {w : World} {ι : En} {nt : Nat} {a : Act} {lo : Option Operand} {hi mx : Operand} {b : Bool} {len cap l h m : Nat} (ha : TmpOk ι nt tm a) {d1 d2 : Nat} (hm : Bd tm (some mx) d1 m) (hh : Bd tm (some hi) d2 h) (hl : Bd tm lo 0 l) (h1 : l ≤ h) (h2 : h ≤ m) (h3 : m ≤ cap) :
    (Instr.sliceBounds b len cap (lo.map a.eval) (some (a.eval hi)) (some (a.eval mx))).run P w = .ok (l, h, m) w := by
  unfold Instr.sliceBounds
  rcases hm with ⟨e, _⟩ | ⟨om, km, e0, em⟩
  · cases e
  cases e0
  rcases hh with ⟨e, _⟩ | ⟨oh, kh, e1, eh⟩
  · cases e
  cases e1
  rcases hl with ⟨rfl, rfl⟩ | ⟨ol, kl, rfl, el⟩
  · simp only [Option.map_some, Option.map_none, Sem.run_bind, Sem.run_pure, Result.andThen_ok, eh ι nt a ha, em ι nt a ha, bound_ok h2, bound_ok h3]
  · simp only [Option.map_some, Option.map_none, Sem.run_bind, Sem.run_pure, Result.andThen_ok, eh ι nt a ha, em ι nt a ha, el ι nt a ha, bound_ok h2, bound_ok h3, bound_ok h1, Option.isSome_some, if_true]
theorem sliceStr_ok {t : TypeId} {x : Operand} {lo hi : Option Operand} (ho : o.op = .slice t x lo hi none) (hu : P.underlying t = some .string)
    (h : ((evB x).run tm fun v => match v with
      | .str len n => optNat (hi.map evB) tm len fun h => optNat (lo.map evB) tm 0 fun l => ifK (Nat.ble l h && Nat.ble h len) (natF (Nat.sub h l) fun ln => natF (Nat.div n (pow8 (Nat.sub len h))) fun m => k (.str ln m) hp nx) (.bad 50)
      | _ => .bad 51) = .ok) : ValTo P o tm hp nx k := by
  obtain ⟨v, h, hv⟩ := evB_ok h
  cases v with
  | str len n =>
    obtain ⟨hh, h, bh⟩ := optNat_ok h
    obtain ⟨l, h, bl⟩ := optNat_ok h
    obtain ⟨hb, h⟩ := ifK_ok h
    simp only [Bool.and_eq_true] at hb
    have b1 := ble_ok hb.1
    have b2 := ble_ok hb.2
    rw [natF_eq, natF_eq] at h
    have key : OVal P o tm hp (.str (Nat.sub hh l) (Nat.div n (pow8 (Nat.sub len hh)))) := fun B w0 ι nt a w ha hc => by
      have hsz : (ByteArray.mk (bytesOf len n).toArray).size = len := by show (bytesOf len n).toArray.size = len; simp [bytesOf_length]
      simp only [execOp, ho]
      rw [hv ι nt a ha]
      simp only [ren, Option.map_none, Instr.sliceAt, Instr.slice, Sem.run_bind, run_und hu, Result.andThen_ok, Option.isSome_none, Bool.false_eq_true, if_false, Sem.run_pure]
      rw [hsz, bounds_ok ha bh bl b1 b2]
      simp only [Result.andThen_ok, Sem.run_pure, Result.ok.injEq, and_true, Next.value.injEq, Value.string.injEq]
      apply ByteArray.ext
      rw [ByteArray.data_extract]
      apply Array.ext'
      simp only [Array.toList_extract, pow8_eq]
      have e1 : bytesOf hh (n / 256 ^ (len - hh)) = (bytesOf len n).take hh := by
        have := bytesOf_take (len - hh) hh n
        rw [show hh + (len - hh) = len by omega] at this
        exact this
      have e2 : bytesOf (hh - l) (n / 256 ^ (len - hh)) = (bytesOf hh (n / 256 ^ (len - hh))).drop l := by
        have := bytesOf_drop (hh - l) l (n / 256 ^ (len - hh))
        rw [show l + (hh - l) = hh by omega] at this
        exact this
      show _ = bytesOf (hh - l) (n / 256 ^ (len - hh))
      rw [e2, e1, List.drop_take]
    exact val_to key h
  | _ => cases h
theorem slice_rest {w : World} {t el : TypeId} (hu : P.underlying t = some (.slice el)) {b q len cap l h m : Nat} {lo hi mx : Option Value} (hb : (Instr.sliceBounds true len cap lo hi mx).run P w = .ok (l, h, m) w) :
    (Instr.sliceAt t (.slice (some ⟨b, q, none⟩) len cap) lo hi mx).run P w = .ok (.slice (some (if m = l then ⟨b, q, none⟩ else ⟨b, q + l * szOf P el, none⟩)) (h - l) (m - l)) w ∨ P.info? el = none := by
  cases hi' : P.info? el with
  | none => exact .inr rfl
  | some i =>
    refine .inl ?_
    simp only [Instr.sliceAt, Instr.slice, Sem.run_bind, run_und hu, Result.andThen_ok, hb, run_size hi', Sem.run_pure]
    split
    · simp [*]
    · simp [*, addr_add]
theorem sliceEx_ok {t el : TypeId} {x : Operand} {lo hi : Option Operand} {id : Pz} {off len cap : Nat} (ho : o.op = .slice t x lo hi none) (hu : P.underlying t = some (.slice el)) (hi' : ∃ i, P.info? el = some i) (hv : ∀ ι nt a, TmpOk ι nt tm a → a.eval x = ren ι (.slice id off len cap))
    (h : (optNat (hi.map evB) tm len fun h => optNat (lo.map evB) tm 0 fun l => ifK (Nat.ble l h && Nat.ble h cap)
            (natF (Nat.sub h l) fun ln => natF (Nat.sub cap l) fun c => ifK (Nat.beq cap l) (k (.slice id off ln c) hp nx) (natF (off + l * szOf P el) fun off => k (.slice id off ln c) hp nx)) (.bad 53)) = .ok) : ValTo P o tm hp nx k := by
  obtain ⟨hh, h, bh⟩ := optNat_ok h
  obtain ⟨l, h, bl⟩ := optNat_ok h
  obtain ⟨hb, h⟩ := ifK_ok h
  simp only [Bool.and_eq_true] at hb
  have b1 := ble_ok hb.1
  have b2 := ble_ok hb.2
  simp only [natF_eq] at h
  obtain ⟨i, hi'⟩ := hi'
  have run : ∀ B w0 ι nt a w, TmpOk ι nt tm a → Core B w0 ι hp w → (execOp a.eval o).run P w = .ok (.value (.slice (some (if cap = l then ⟨ι.blk id, ι.sh id + off, none⟩ else ⟨ι.blk id, ι.sh id + off + l * szOf P el, none⟩)) (hh - l) (cap - l))) w := by
    intro B w0 ι nt a w ha hc
    simp only [execOp, ho]
    rw [hv ι nt a ha]
    simp only [ren, Option.map_none, Sem.run_bind]
    rcases slice_rest hu (b := ι.blk id) (q := ι.sh id + off) (bounds_ok (P := P) (w := w) (b := true) ha bh bl b1 b2) with e | e
    · rw [e]; rfl
    · rw [e] at hi'; cases hi'
  rcases ifK_two h with ⟨hq, h⟩ | ⟨hq, h⟩
  · have hq := beq_ok hq
    have key : OVal P o tm hp (.slice id off (Nat.sub hh l) (Nat.sub cap l)) := fun B w0 ι nt a w ha hc => by
      rw [run B w0 ι nt a w ha hc, if_pos hq]; simp [ren]
    exact val_to key h
  · have hq := beq_no hq
    have key : OVal P o tm hp (.slice id (off + l * szOf P el) (Nat.sub hh l) (Nat.sub cap l)) := fun B w0 ι nt a w ha hc => by
      rw [run B w0 ι nt a w ha hc, if_neg hq]; simp [ren, Nat.add_assoc]
    exact val_to key h
theorem sliceNil_ok {t el : TypeId} {x : Operand} {lo hi : Option Operand} (ho : o.op = .slice t x lo hi none) (hu : P.underlying t = some (.slice el)) (hi' : ∃ i, P.info? el = some i) (hv : ∀ ι nt a, TmpOk ι nt tm a → a.eval x = ren ι .nils)
    (h : (optNat (hi.map evB) tm 0 fun h => optNat (lo.map evB) tm 0 fun l => ifK (Nat.beq h 0 && Nat.beq l 0) (k .nils hp nx) (.bad 59)) = .ok) : ValTo P o tm hp nx k := by
  obtain ⟨hh, h, bh⟩ := optNat_ok h
  obtain ⟨l, h, bl⟩ := optNat_ok h
  obtain ⟨hb, h⟩ := ifK_ok h
  simp only [Bool.and_eq_true] at hb
  have b1 := beq_ok hb.1
  have b2 := beq_ok hb.2
  subst b1
  subst b2
  obtain ⟨i, hi'⟩ := hi'
  have key : OVal P o tm hp .nils := fun B w0 ι nt a w ha hc => by
    simp only [execOp, ho]
    rw [hv ι nt a ha]
    simp only [ren, Option.map_none, Sem.run_bind, Instr.sliceAt, Instr.slice, run_und hu, Result.andThen_ok]
    rw [bounds_ok (P := P) (w := w) (b := true) (cap := 0) ha bh bl (Nat.le_refl _) (Nat.le_refl _)]
    simp [run_size hi']
  exact val_to key h
end
end Go.Rex
namespace Go.Rex
open Go.RowKit
set_option linter.unusedSimpArgs false
set_option linter.unusedVariables false
section
variable {P : Program} {o : Oper} {tm : Tm} {hp : Tr AO} {nx : Pz} {k : AV → Tr AO → Pz → Rs} {call : CallT}
theorem end_child {id f : Pz} {ep es n skip l : Nat} {tip s0 : Bool} {el : TypeId} {c : Tr (List AV)} (hw : Wf hp nx) (ho : hp.get id = some (.seg f ep tip es n el c)) (hf : hp.get f = some (.fam ep s0)) (hl : skip + l = n) {B : Nat → Prop} {w0 w : World} {ι : En} (hc : Core B w0 ι hp w)
    (hb : ι.blk nx = ι.blk id) (hs : ι.sh nx = if ι.kap id - skip = l then ι.sh id + skip * es else ι.sh id + skip * es + l * es) (hk : ι.kap nx = ι.kap id - skip - l) :
    Core B w0 ι ((cutHp hp id f ep es n el c).set nx (.seg f ep tip es 0 el .e)) w := by
  have hep2 : ep = ep ∨ ep = ep + 1 := .inl rfl
  have hlv : live hp f ep := ⟨_, hf⟩
  have hw1 := cut_wf (n0 := n) hw ho hf hep2
  have hc1 := cut_core (n0 := n) hw ho hf hep2 (Nat.le_refl _) hc
  obtain ⟨C, fz, g1, g2, g3, g4, g5⟩ := hc.obj _ _ ho hlv
  have hmul : n * es = skip * es + l * es := by rw [← hl, Nat.add_mul]
  have hkm : ι.kap id * es = n * es + (ι.kap id - skip - l) * es := by rw [← Nat.add_mul]; congr 1; omega
  have hsle : ι.sh nx ≤ ι.sh id + n * es := by rw [hs]; split <;> omega
  have hcell : ∀ i, (cutHp hp id f ep es n el c).get i ≠ none → True := fun _ _ => trivial
  have hblk1 : ∀ i o, i ≠ id → (cutHp hp id f ep es n el c).get i = some o → own (cutHp hp id f ep es n el c) o → ι.blk i = ι.blk id → famOf o = some f := by
    intro i o hi hg hown e
    have hgid : (cutHp hp id f ep es n el c).get id = some (.seg f ep false es n el c) := Tr.get_set_same _ _ _
    have hlid : live (cutHp hp id f ep es n el c) f ep := by
      refine ⟨false, ?_⟩
      have hne : f ≠ id := fun e => by rw [e, ho] at hf; cases hf
      unfold cutHp
      rw [Tr.get_set_ne hne, Tr.get_set_same]
    obtain ⟨g, e1, e2⟩ := hc1.sep i id o _ hi hg hgid hown hlid e
    cases e2
    exact e1
  have hid : ∀ o, (cutHp hp id f ep es n el c).get id = some o → o = .seg f ep false es n el c := by
    intro o hg
    have hgid : (cutHp hp id f ep es n el c).get id = some (.seg f ep false es n el c) := Tr.get_set_same _ _ _
    rw [hgid] at hg
    exact (Option.some.inj hg).symm
  refine core_child hw1 hc1 (fun _ => ⟨C, fz, by rw [hb]; exact g1, ?_, Nat.zero_le _, cellsAt_nil _ _ _ _ _, g5⟩) (fun i o hg hown => hc1.obj i o hg) hc.below hc.room (by rw [hb]; exact hc.base _ _ ho hlv) (fun i o hg hown e => ?_) (fun ht i f' e' tp' es' n' el' c'' hg hl' => ⟨fun e => ?_, fun e hlt => ?_⟩) (fun i f' e' es' n' el' c'' hg hl' => ⟨fun e => ?_, fun e hlt => ?_⟩)
  · rw [hk, hs]
    split
    · rename_i h; rw [h, Nat.sub_self, Nat.zero_mul]; omega
    · omega
  · rw [hb] at e
    by_cases hi : i = id
    · subst hi; rw [hid _ hg]; rfl
    · exact hblk1 i o hi hg hown e
  · by_cases hi : i = id
    · subst hi; cases hid _ hg; rfl
    · exact (cut_rest hw ho hf (.inl ⟨rfl, ht, rfl⟩) hc hi hg hl' e.symm).1
  · rw [hb] at e
    rw [Nat.zero_mul, Nat.add_zero, hs, if_neg (by omega)]
    by_cases hi : i = id
    · subst hi; cases hid _ hg; omega
    · have hfo := hblk1 i _ hi hg hl' e.symm
      have := (cut_rest hw ho hf (.inl ⟨rfl, ht, rfl⟩) hc hi hg hl' (Option.some.inj hfo)).2 e.symm (by omega)
      omega
  · by_cases hi : i = id
    · subst hi; cases hid _ hg
    · cases ht : tip with
      | false => rfl
      | true => exact absurd (cut_rest hw ho hf (.inl ⟨rfl, ht, rfl⟩) hc hi hg hl' e).1 (by decide)
  · rw [hb] at e
    by_cases hi : i = id
    · subst hi; cases hid _ hg
    · have hfo := hblk1 i _ hi hg hl' e
      rcases cut_get hg with ⟨h, _⟩ | ⟨_, _, h⟩ | ⟨_, _, h⟩
      · exact absurd h hi
      · cases h
      · have hown := (cut_own (o := .seg f' e' true es' n' el' c'') hw ho hf hep2 hi h hl').1
        have := (hc.tip i id _ _ _ _ _ _ _ _ _ _ _ _ _ hi h ho hown hlv).2 e hlt
        rw [Nat.zero_mul, Nat.add_zero]
        omega
theorem sliceOp_ok {t el : TypeId} {x : Operand} {lo hi : Option Operand} {id : Pz} {off len skip : Nat} (ho : o.op = .slice t x lo hi none) (hu : P.underlying t = some (.slice el)) (hi' : ∃ i, P.info? el = some i) (hv : ∀ ι nt a, TmpOk ι nt tm a → a.eval x = ren ι (.oslice id off len skip))
    (h : (optNat (hi.map evB) tm len fun h => optNat (lo.map evB) tm 0 fun l =>
          hp.getK id (.bad 55) fun o => match o with
          | .seg f ep tip es n el' c => liveK hp f ep fun _ => ifK (Nat.ble l h && Nat.ble (skip + h) n)
            (ifK (Nat.beq l 0 && Nat.blt 0 h) (k (.oslice id off h skip) hp nx)
              (ifK (Nat.blt (skip + l) n) (natF (Nat.sub h l) fun ln => natF (off + l * szOf P el) fun off => natF (skip + l) fun skip => k (.oslice id off ln skip) hp nx)
                (ifK (Nat.beq es (szOf P el) && Nat.beq off (skip * es))
                    (hp.setK f (.fam ep false) fun hp => hp.setK id (.seg f ep false es n el' c) fun hp =>
                      newObj hp nx (.seg f ep tip es 0 el' .e) fun id hp nx => k (.oslice id 0 0 0) hp nx) (.bad 56)))) (.bad 58)
          | _ => .bad 57) = .ok) : OpTo P o tm hp nx k := by
  obtain ⟨hh, h, bh⟩ := optNat_ok h
  obtain ⟨l, h, bl⟩ := optNat_ok h
  obtain ⟨ob, hob, h⟩ := getK_ok h
  cases ob with
  | seg f ep tip es n el' c =>
    obtain ⟨s0, hf, h1⟩ := liveK_ok h
    obtain ⟨hb, h2⟩ := ifK_ok h1
    simp only [Bool.and_eq_true] at hb
    have b1 := ble_ok hb.1
    have b2 := ble_ok hb.2
    obtain ⟨i, hi'⟩ := hi'
    have run : ∀ B w0 ι nt a w, TmpOk ι nt tm a → Core B w0 ι hp w → n ≤ ι.kap id ∧ (execOp a.eval o).run P w = .ok (.value (.slice (some (if ι.kap id - skip = l then ⟨ι.blk id, ι.sh id + off, none⟩ else ⟨ι.blk id, ι.sh id + off + l * szOf P el, none⟩)) (hh - l) (ι.kap id - skip - l))) w := by
      intro B w0 ι nt a w ha hc
      obtain ⟨C, fz, g1, g2, g3, g4, g5⟩ := hc.obj _ _ hob ⟨_, hf⟩
      refine ⟨g3, ?_⟩
      simp only [execOp, ho]
      rw [hv ι nt a ha]
      simp only [ren, Option.map_none, Sem.run_bind]
      rcases slice_rest hu (b := ι.blk id) (q := ι.sh id + off) (bounds_ok (P := P) (w := w) (b := true) (cap := ι.kap id - skip) ha bh bl b1 (by omega)) with e | e
      · rw [e]; rfl
      · rw [e] at hi'; cases hi'
    rcases ifK_two h2 with ⟨hq, h3⟩ | ⟨_, h3⟩
    · simp only [Bool.and_eq_true] at hq
      have q1 := beq_ok hq.1
      have q2 := blt_ok hq.2
      subst q1
      have key : OVal P o tm hp (.oslice id off hh skip) := fun B w0 ι nt a w ha hc => by
        obtain ⟨g3, hr⟩ := run B w0 ι nt a w ha hc
        rw [hr, if_neg (by omega)]; simp [ren]
      exact (val_to key h3).to
    · rcases ifK_two h3 with ⟨hq, h4⟩ | ⟨hq, h4⟩
      · have hq := blt_ok hq
        simp only [natF_eq] at h4
        have key : OVal P o tm hp (.oslice id (off + l * szOf P el) (Nat.sub hh l) (skip + l)) := fun B w0 ι nt a w ha hc => by
          obtain ⟨g3, hr⟩ := run B w0 ι nt a w ha hc
          rw [hr, if_neg (by omega)]; simp [ren, Nat.add_assoc, Nat.sub_sub]
        exact (val_to key h4).to
      · have hq := blt_no hq
        obtain ⟨hz, h5⟩ := ifK_ok h4
        simp only [Bool.and_eq_true] at hz
        have z1 := beq_ok hz.1
        have z2 := beq_ok hz.2
        subst z1
        subst z2
        rw [Tr.setK_eq, Tr.setK_eq, newObj_eq] at h5
        have hln : skip + l = n := by omega
        have hhl : hh = l := by omega
        refine Eff.to (v := .oslice nx 0 0 0) (hp' := (cutHp hp id f ep (szOf P el) n el' c).set nx (.seg f ep tip (szOf P el) 0 el' .e)) (nx' := nx.succ) ⟨by rw [Pz.num_succ]; omega, fun hw => tail_wf hw hob hf (.inl rfl), fun B w0 nt a w ι hs => ?_⟩ h5
        obtain ⟨t1, c1⟩ := hs.2 ι (Agree.refl _ _)
        have hidlt := hs.1.lt _ _ hob
        obtain ⟨g3, hr⟩ := run B w0 ι nt a w t1 c1
        refine ⟨_, _, w, agree_at ι nx (ι.blk id) (if ι.kap id - skip = l then ι.sh id + skip * szOf P el else ι.sh id + skip * szOf P el + l * szOf P el) (ι.kap id - skip - l), .inl hr, fun ι' hι => ?_⟩
        obtain ⟨ha, k1, k2, k3⟩ := agree_at' hι
        obtain ⟨d1, d2, d3⟩ := ha id hidlt
        obtain ⟨t2, c2⟩ := hs.2 ι' ha
        refine ⟨end_child hs.1 hob hf hln c2 (by rw [k1, d1]) (by rw [k2, d2, d3]) (by rw [k3, d3]), ?_⟩
        simp only [ren, k1, k2, k3, Nat.add_zero, Nat.sub_zero, hhl, Nat.sub_self]
        split <;> rfl
  | _ => cases h
end
end Go.Rex
namespace Go.Rex
open Go.RowKit
set_option linter.unusedSimpArgs false
set_option linter.unusedVariables false
section
variable {P : Program} {o : Oper} {tm : Tm} {hp : Tr AO} {nx : Pz} {k : AV → Tr AO → Pz → Rs} {call : CallT}
theorem convInt_ok {s t : TypeId} {x : Operand} {ks kt : IntKind} (ho : o.op = .convert s t x) (hs : P.underlying s = some (.int ks)) (ht : P.underlying t = some (.int kt))
    (h : ((evB x).run tm fun v => asInt v fun _ n => wrapC kt n fun n => k (.int kt n) hp nx) = .ok) : ValTo P o tm hp nx k := by
  obtain ⟨v, h, hv⟩ := evB_ok h
  obtain ⟨kd, n, rfl, g⟩ := asInt_ok h
  have g := wrapC_ok g
  have key : OVal P o tm hp (.int kt (kt.wrap n)) := fun B w0 ι nt a w ha hc => by
    simp only [execOp, ho]
    rw [hv ι nt a ha]
    simp only [ren, convert, Sem.run_bind, run_und hs, run_und ht, Result.andThen_ok, Conv.intToInt, Sem.run_pure]
  exact val_to key g
theorem convStr_ok {s t : TypeId} {x : Operand} (ho : o.op = .convert s t x) (hs : P.underlying s = some .string) (ht : P.underlying t = some .string)
    (h : ((evB x).run tm fun v => match v with | .str l n => k (.str l n) hp nx | _ => .bad 90) = .ok) : ValTo P o tm hp nx k := by
  obtain ⟨v, h, hv⟩ := evB_ok h
  cases v with
  | str l n =>
    have key : OVal P o tm hp (.str l n) := fun B w0 ι nt a w ha hc => by
      simp only [execOp, ho]
      rw [hv ι nt a ha]
      simp only [ren, convert, Sem.run_bind, run_und hs, run_und ht, Result.andThen_ok, Sem.run_pure]
    exact val_to key h
  | _ => cases h
theorem bytesStr_ok : ∀ (ls : List (List AV)) (n : Nat) (k : Nat → Rs), bytesStr ls n k = .ok → ∃ (m : Nat) (bs : List UInt8), k m = .ok ∧ bs.length = ls.length ∧ (∀ l0, bytesOf (l0 + ls.length) m = bytesOf l0 n ++ bs) ∧ (even 1 ls → ∀ ι, renL ι ls.flatten = bs.map fun b => Value.int .u8 (b.toNat : Int))
  | [], n, k, h => ⟨n, [], h, rfl, fun l0 => by simp, fun _ ι => rfl⟩
  | l :: ls, n, k, h => by
    obtain ⟨v, hv, h⟩ := nthK_ok 0 (l := l) (k := fun v => match v with | .int .u8 (.ofNat b) => ifK (Nat.blt b 256) (natF (n * 256 + b) fun n => bytesStr ls n k) (.bad 85) | _ => .bad 85) h
    split at h
    · rename_i b
      obtain ⟨hb, h⟩ := ifK_ok h
      have hb := blt_ok hb
      rw [natF_eq] at h
      obtain ⟨m, bs, hk, hl, hm, hr⟩ := bytesStr_ok ls _ k h
      refine ⟨m, UInt8.ofNat b :: bs, hk, by simp [hl], fun l0 => ?_, fun he ι => ?_⟩
      · rw [List.length_cons, show l0 + (ls.length + 1) = (l0 + 1) + ls.length by omega, hm, bytesOf_snoc _ _ _ hb]
        simp
      · have h1 := he l (List.mem_cons_self ..)
        have h2 : l = [.int .u8 (.ofNat b)] := by
          cases l with
          | nil => simp at hv
          | cons y ys =>
            simp only [List.getElem?_cons_zero, Option.some.injEq] at hv
            simp only [List.length_cons, Nat.add_eq_right, List.length_eq_zero_iff] at h1
            rw [hv, h1]
        rw [List.flatten_cons, renL_append, hr (fun x hx => he x (List.mem_cons_of_mem _ hx)) ι, h2]
        simp only [renL, List.cons_append, List.nil_append, List.map_cons, ren_int]
        congr 3
        rw [UInt8.toNat_ofNat']
        omega
    · cases h
theorem run_bytes (bs : List UInt8) {w : World} (f : Value → ByteArray → Sem (ForInStep ByteArray)) (hf : ∀ (b : UInt8) s w, (f (.int .u8 (b.toNat : Int)) s).run P w = .ok (.yield (s.push b)) w) (s0 : ByteArray) :
    (forIn (bs.map fun b => Value.int .u8 (b.toNat : Int)) s0 f).run P w = .ok ⟨(s0.data.toList ++ bs).toArray⟩ w := by
  induction bs generalizing s0 with
  | nil => simp
  | cons b bs ih =>
    simp only [List.map_cons, List.forIn_cons, Sem.run_bind, hf, Result.andThen_ok]
    rw [ih]
    congr 2
    simp
theorem convBytes_ok {s t e : TypeId} {x : Operand} (ho : o.op = .convert s t x) (hs : P.underlying s = some (.slice e)) (ht : P.underlying t = some .string) (he : P.underlying e = some (.int .u8))
    (h : ((evB x).run tm fun v => match v with
      | .str _ _ => .bad 98
      | v => elemsOf hp 1 v fun ls => natF ls.length fun l => bytesStr ls 0 fun n => k (.str l n) hp nx) = .ok) : ValTo P o tm hp nx k := by
  obtain ⟨v, h, hv⟩ := evB_ok h
  have main : (elemsOf hp 1 v fun ls => natF ls.length fun l => bytesStr ls 0 fun n => k (.str l n) hp nx) = .ok → (∀ ι, (∃ b q len cap, ren ι v = .slice (some ⟨b, q, none⟩) len cap) ∨ ren ι v = .slice none 0 0) → ValTo P o tm hp nx k := by
    intro h hkind
    obtain ⟨ls, h, hsrc⟩ := elemsOf_ok (P := P) h
    rw [natF_eq] at h
    obtain ⟨m, bs, hk, hl, hm, hr⟩ := bytesStr_ok _ _ _ h
    have hm0 : bytesOf ls.length m = bs := by have := hm 0; simpa [bytesOf] using this
    have key : OVal P o tm hp (.str ls.length m) := fun B w0 ι nt a w ha hc => by
      have hs' := hsrc B w0 ι w hc
      have hlen := hs'.len
      have hcells := hs'.cells
      simp only [execOp, ho]
      rw [hv ι nt a ha]
      simp only [ren, hm0]
      rcases hkind ι with ⟨b, q, len, cap, ee⟩ | ee
      · rw [ee] at hlen hcells ⊢
        simp only [Builtin.lenOf, Sem.run_pure, Result.ok.injEq, and_true] at hlen
        simp only [Builtin.firstCells, Nat.mul_one] at hcells
        rw [hr hs'.even ι] at hcells
        have hb : (Conv.bytesToString (.slice (some ⟨b, q, none⟩) len cap)).run P w = .ok (.string ⟨bs.toArray⟩) w := by
          unfold Conv.bytesToString
          rw [Sem.run_bind, hlen, hcells, Result.andThen_ok, Sem.run_bind, ← Array.forIn_toList]
          rw [show ((bs.map fun b => Value.int .u8 (b.toNat : Int)).toArray).toList = bs.map fun b => Value.int .u8 (b.toNat : Int) from rfl]
          rw [run_bytes (P := P) bs (w := w) _ (fun b s w => by simp) ByteArray.empty]
          simp
        simp only [convert, Sem.run_bind, run_und hs, run_und ht, run_und he, Result.andThen_ok, hb, Sem.run_pure]
      · rw [ee] at hlen ⊢
        simp only [Builtin.lenOf, Sem.run_pure, Result.ok.injEq, and_true] at hlen
        have : bs = [] := List.eq_nil_of_length_eq_zero (by rw [hl, ← hlen])
        subst this
        simp only [convert, Sem.run_bind, run_und hs, run_und ht, run_und he, Result.andThen_ok, Conv.bytesToString, Sem.run_pure]
        rfl
    exact val_to key hk
  cases v with
  | slice id off len cap => exact main h (fun ι => .inl ⟨ι.blk id, ι.sh id + off, len, cap, by simp only [ren]⟩)
  | oslice id off len skip => exact main h (fun ι => .inl ⟨ι.blk id, ι.sh id + off, len, ι.kap id - skip, by simp only [ren]⟩)
  | nils => exact main h (fun ι => .inr (by simp only [ren]))
  | _ => cases h
end
end Go.Rex
namespace Go.Rex
open Go.RowKit
set_option linter.unusedSimpArgs false
set_option linter.unusedVariables false
theorem freeze_alloc (w : World) (C : Array Value) (e : TypeId) : (w.alloc (.cells C e (0, 0))).freeze ⟨w.heap.size, C.size, none⟩ 1 = w.alloc (.cells C e (C.size, C.size + 1)) := by
  unfold World.freeze
  rw [if_neg (by decide)]
  have hh : (w.heap.push (Obj.cells C e (0, 0))).modify w.heap.size (fun
      | .cells c elem (lo, hi) => .cells c elem (if lo == hi then (C.size, C.size + 1) else (min lo C.size, max hi (C.size + 1)))
      | o => o) = w.heap.push (Obj.cells C e (C.size, C.size + 1)) := by
    apply Array.ext_getElem?
    intro i
    rw [Array.getElem?_modify, Array.getElem?_push, Array.getElem?_push]
    by_cases hi : w.heap.size = i
    · subst hi; simp
    · rw [if_neg hi, if_neg (fun h => hi h.symm), if_neg (fun h => hi h.symm)]
  exact congrArg (fun h => ({ w with heap := h } : World)) hh
theorem run_newRow {P : Program} (w : World) (C : Array Value) (e : TypeId) : (newRow e C).run P w = .ok ⟨w.heap.size, 0, none⟩ (w.alloc (.cells C e (0, 0))) := rfl
theorem run_mark {P : Program} (w : World) (C : Array Value) (e : TypeId) : (markStringish ⟨w.heap.size, 0, none⟩).run P (w.alloc (.cells C e (0, 0))) = .ok () (w.alloc (.cells C e (C.size, C.size + 1))) := by
  have h : (w.alloc (.cells C e (0, 0))).shape? w.heap.size = some (e, C.size) := by
    unfold World.shape?
    rw [heap_alloc_new]
  simp only [markStringish, Sem.run_bind, run_shape, h, Result.andThen_ok, run_freeze]
  rw [freeze_alloc]
section
variable {P : Program} {o : Oper} {tm : Tm} {hp : Tr AO} {nx : Pz} {k : AV → Tr AO → Pz → Rs} {call : CallT}
theorem convToBytes_ok {s t e : TypeId} {x : Operand} (ho : o.op = .convert s t x) (hs : P.underlying s = some .string) (ht : P.underlying t = some (.slice e)) (he : P.underlying e = some (.int .u8))
    (h : ((evB x).run tm fun v => match v with
      | .str l n => strElems l n [] fun ls => ifK (smallRow l 1) (grow hp nx e 1 ls k) (.bad 91)
      | _ => .bad 92) = .ok) : OpTo P o tm hp nx k := by
  obtain ⟨v, h, hv⟩ := evB_ok h
  cases v with
  | str l n =>
    have h : (strElems l n [] fun ls => ifK (smallRow l 1) (grow hp nx e 1 ls k) (.bad 91)) = .ok := h
    rw [strElems_ok, List.append_nil] at h
    obtain ⟨hsm, h⟩ := ifK_ok h
    unfold grow at h
    rw [natF_eq, layK_eq, newObj_eq, newObj_eq] at h
    have hlen : (strL l n).length = l := by simp [strL, bytesOf_length]
    have heven : even 1 (strL l n) := fun x hx => by
      unfold strL at hx
      obtain ⟨b, _, rfl⟩ := List.mem_map.1 hx
      rfl
    rw [hlen] at h
    refine (grow_eff (fun B w0 ι nt a w ha hc => ?_)).to h
    generalize hcap : (Question.appendCap l 0 e).cut (w.tape w.drawn (.appendCap l 0 e)) = cap
    have hle : l ≤ cap := by rw [← hcap]; simp only [Question.cut]; omega
    generalize hC : ((bytesOf l n).toArray.map fun b => Value.int .u8 (b.toNat : Int)) ++ Array.replicate (cap - l) (Value.int .u8 0) = C
    have hCs : C.size = cap := by rw [← hC]; simp [bytesOf_length]; omega
    refine ⟨cap, C, (C.size, C.size + 1), w.drew, core_drew hc, rfl, ?_, hle, by rw [hCs]; omega, ?_, Or.inr (Nat.le_refl _)⟩
    · simp only [execOp, ho]
      rw [hv ι nt a ha]
      have hsz : (ByteArray.mk (bytesOf l n).toArray).size = l := by show (bytesOf l n).toArray.size = l; simp [bytesOf_length]
      have e1 : ({ w with drawn := w.drawn + 1 } : World) = w.drew := rfl
      simp only [ren, convert, Sem.run_bind, run_und hs, run_und ht, run_und he, Result.andThen_ok, Conv.stringToBytes, hsz, run_choose, Question.forced, Bool.false_eq_true, if_false, hcap, e1, run_newRow, Sem.run_pure, hC, run_mark]
    · have := cellsAt_lay (ι := ι) (C := C) (C' := C) (base := 0) (c := .e) (cellsAt_nil ι C 0 1 .e) heven (fun i hi => rfl) (fun i hi => ?_)
      · rw [Nat.zero_add, hlen] at this
        exact this
      · rw [Nat.zero_mul, Nat.zero_add, Nat.zero_add]
        rw [hlen, Nat.mul_one] at hi
        have hfl : (strL l n).flatten = (bytesOf l n).map fun b => AV.int .u8 (.ofNat b.toNat) := by
          unfold strL
          generalize bytesOf l n = bs
          induction bs with
          | nil => rfl
          | cons b bs ih => simp only [List.map_cons, List.flatten_cons, ih]; rfl
        rw [hfl, ← hC, Array.getElem?_append_left (by simp [bytesOf_length, hi]), Array.getElem?_map, List.getElem?_toArray, List.getElem?_map, Option.map_map]
        congr 1
  | _ => cases h
end
end Go.Rex
namespace Go.Rex
open Go.RowKit
set_option linter.unusedSimpArgs false
set_option linter.unusedVariables false
section
variable {P : Program}
/-- What a search finds. -/
def Found (P : Program) (t : TypeId) (k : AV) (es : List ME) (r : Option (Nat × ME)) : Prop :=
  match r with
  | none => ∀ e ∈ es, EqIs P 9 t k e.key false
  | some (j, e) => ∃ pre post, es = pre ++ e :: post ∧ j = pre.length ∧ (∀ x ∈ pre, EqIs P 9 t k x.key false) ∧ EqIs P 9 t k e.key true
theorem findE_ok {t : TypeId} {k : AV} : ∀ (es : List ME) (i : Nat) (z : Rs) (kk : Nat → ME → Rs), findE P t k es i z kk = .ok → (z = .ok ∧ Found P t k es none) ∨ ∃ j e, kk (i + j) e = .ok ∧ Found P t k es (some (j, e))
  | [], i, z, kk, h => .inl ⟨h, fun e he => by simp at he⟩
  | e :: es, i, z, kk, h => by
    have h : eqvF P 9 t k e.key (fun b => ifK b (kk i e) (natF (i + 1) fun i => findE P t k es i z kk)) = .ok := h
    obtain ⟨b, h, hb⟩ := eqvF_ok P _ _ _ _ _ h
    rcases ifK_two h with ⟨rfl, h⟩ | ⟨rfl, h⟩
    · exact .inr ⟨0, e, h, [], es, rfl, rfl, fun x hx => by simp at hx, hb⟩
    · rw [natF_eq] at h
      rcases findE_ok es (i + 1) z kk h with ⟨h1, h2⟩ | ⟨j, e', h1, pre, post, h2, h3, h4, h5⟩
      · refine .inl ⟨h1, fun x hx => ?_⟩
        rcases List.mem_cons.1 hx with rfl | hx
        · exact hb
        · exact h2 x hx
      · refine .inr ⟨j + 1, e', by rw [show i + (j + 1) = i + 1 + j by omega]; exact h1, e :: pre, post, by rw [h2]; rfl, by rw [h3]; rfl, fun x hx => ?_, h5⟩
        rcases List.mem_cons.1 hx with rfl | hx
        · exact hb
        · exact h4 x hx
noncomputable def foundV (ι : En) (i : Nat) : Option (Nat × ME) → Option (Nat × Value)
  | none => none
  | some (j, e) => some (i + j, ren ι e.val)
theorem asking_ok {t : TypeId} {k : AV} {w : World} {ι : En} : ∀ (es : List ME) (i : Nat) (r : Option (Nat × ME)), Found P t k es r → (Instr.findAsking t (ren ι k) (es.map (entR ι)) i).run P w = .ok (foundV ι i r) w
  | [], i, none, h => rfl
  | [], i, some (j, e), h => by obtain ⟨pre, post, h1, _⟩ := h; cases pre <;> cases h1
  | e :: es, i, none, h => by
    have he := eqv_eql (h e (List.mem_cons_self ..)) ι w
    simp only [List.map_cons, Instr.findAsking, Sem.run_bind, entR, he, Result.andThen_ok, Bool.false_eq_true, if_false]
    exact asking_ok es (i + 1) none (fun x hx => h x (List.mem_cons_of_mem _ hx))
  | e :: es, i, some (j, e'), h => by
    obtain ⟨pre, post, h1, h2, h3, h4⟩ := h
    cases pre with
    | nil =>
      cases h1
      have he := eqv_eql h4 ι w
      simp only [List.map_cons, Instr.findAsking, Sem.run_bind, entR, he, Result.andThen_ok, if_true, Sem.run_pure, foundV, h2]
      rfl
    | cons x pre =>
      cases h1
      have he := eqv_eql (h3 e (List.mem_cons_self ..)) ι w
      simp only [List.map_cons, Instr.findAsking, Sem.run_bind, entR, he, Result.andThen_ok, Bool.false_eq_true, if_false]
      have := asking_ok (t := t) (k := k) (w := w) (ι := ι) (pre ++ e' :: post) (i + 1) (some (pre.length, e')) ⟨pre, post, rfl, rfl, fun y hy => h3 y (List.mem_cons_of_mem _ hy), h4⟩
      refine this.trans ?_
      rw [h2]
      simp only [foundV, List.length_cons]
      congr 3
      omega
theorem same_ok {t : TypeId} {d : TypeDesc} {a b : Value} {c : Bool} (hu : P.underlying t = some d) (h : Instr.sameNow d a b = some c) (w : World) : (Op.equal t a b).run P w = .ok c w := by
  unfold Instr.sameNow at h
  split at h
  · rename_i kd k a k' b
    by_cases hk : k = k'
    · subst hk
      rw [if_pos rfl] at h
      cases h
      exact run_equalIn_int w 9999 t k kd a b hu
    · rw [if_neg hk] at h; cases h
  · rename_i a b
    cases h
    have := run_equalIn_string w 9999 t a b hu
    rw [← beq_toListBytes] at this
    exact this
  · rename_i a b
    cases h
    exact run_equalIn_bool' w 9999 t a b hu
  · cases h
theorem now_ok {t : TypeId} {d : TypeDesc} {k : AV} {ι : En} (hu : P.underlying t = some d) : ∀ (es : List ME) (i : Nat) (r : Option (Nat × ME)) (q : Option (Nat × Value)), Found P t k es r → Instr.findNow d (ren ι k) (es.map (entR ι)) i = some q → q = foundV ι i r
  | [], i, none, q, h, hq => by cases hq; rfl
  | [], i, some (j, e), q, h, hq => by obtain ⟨pre, post, h1, _⟩ := h; cases pre <;> cases h1
  | e :: es, i, r, q, h, hq => by
    simp only [List.map_cons, Instr.findNow, entR] at hq
    cases hs : Instr.sameNow d (ren ι k) (ren ι e.key) with
    | none => rw [hs] at hq; cases hq
    | some c =>
      rw [hs] at hq
      have hc := same_ok hu hs default
      cases r with
      | none =>
        have he := eqv_eql (h e (List.mem_cons_self ..)) ι default
        rw [hc] at he
        cases he
        exact now_ok hu es (i + 1) none q (fun x hx => h x (List.mem_cons_of_mem _ hx)) hq
      | some je =>
        obtain ⟨j, e'⟩ := je
        obtain ⟨pre, post, h1, h2, h3, h4⟩ := h
        cases pre with
        | nil =>
          cases h1
          have he := eqv_eql h4 ι default
          rw [hc] at he
          cases he
          cases hq
          rw [h2]; rfl
        | cons x pre =>
          cases h1
          have he := eqv_eql (h3 e (List.mem_cons_self ..)) ι default
          rw [hc] at he
          cases he
          have := now_ok hu (pre ++ e' :: post) (i + 1) (some (pre.length, e')) q ⟨pre, post, rfl, rfl, fun y hy => h3 y (List.mem_cons_of_mem _ hy), h4⟩ hq
          rw [this, h2]
          simp only [foundV, List.length_cons]
          congr 2
          omega
theorem find_ok {t : TypeId} {d : TypeDesc} {k : AV} {ι : En} {w : World} {es : List ME} {r : Option (Nat × ME)} (hu : P.underlying t = some d) (h : Found P t k es r) : (Instr.findKey t (ren ι k) (es.map (entR ι))).run P w = .ok (foundV ι 0 r) w := by
  unfold Instr.findKey
  rw [Sem.run_bind, run_und hu, Result.andThen_ok]
  cases hn : Instr.findNow d (ren ι k) (es.map (entR ι)) 0 with
  | none => exact asking_ok es 0 r h
  | some q => simp only [Sem.run_pure]; rw [now_ok hu es 0 r q h hn]
end
end Go.Rex
namespace Go.Rex
open Go.RowKit
set_option linter.unusedSimpArgs false
set_option linter.unusedVariables false
section
variable {hp : Tr AO} {id : Pz} {x y : AO}
/-- The world behind a map's write. -/
def putMap (w : World) (b : Nat) (E : Array MapEntry) (cl : Nat) : World := { w with heap := w.heap.setIfInBounds b (.map E cl) }
theorem map_put {es es' : List ME} {cl cl' : Nat} (ho : hp.get id = some (.map es cl)) : (∀ nx, Wf hp nx → Wf (hp.set id (.map es' cl')) nx) ∧ ∀ B w0 ι w, Core B w0 ι hp w → ∀ E' : Array MapEntry, E'.toList = es'.map (entR ι) → Core B w0 ι (hp.set id (.map es' cl')) (putMap w (ι.blk id) E' cl') := by
  refine ⟨fun nx hw => swap_wf hw ho rfl (fun _ _ h => by cases h) rfl (fun _ _ h => by cases h), fun B w0 ι w hc E' hE => ?_⟩
  obtain ⟨E, h1, h2⟩ := hc.obj _ _ ho
  have hb := hc.base _ _ ho trivial
  have hlt := (Array.getElem?_eq_some_iff.1 h1).1
  have hoth : ∀ b, b ≠ ι.blk id → (putMap w (ι.blk id) E' cl').heap[b]? = w.heap[b]? := fun b hbne => by
    show (w.heap.setIfInBounds _ _)[b]? = _
    rw [Array.getElem?_setIfInBounds_ne (fun e => hbne e.symm)]
  refine swap_core ho rfl (fun _ _ h => by cases h) rfl (fun _ _ h => by cases h) hc (hc.below.trans ⟨rfl, rfl, rfl, by simp [putMap], fun b hb' => hoth b (fun e => hb (e ▸ hb'))⟩) (fun k hk => by simp [putMap]; exact hc.room k hk) hoth ⟨E', ?_, hE⟩
  show (w.heap.setIfInBounds _ _)[ι.blk id]? = _
  simp [hlt]
end
end Go.Rex
namespace Go.Rex
open Go.RowKit
set_option linter.unusedSimpArgs false
set_option linter.unusedVariables false
section
variable {P : Program} {o : Oper} {tm : Tm} {hp : Tr AO} {nx : Pz} {k : AV → Tr AO → Pz → Rs} {call : CallT}
theorem bits1_ok {a b : AV} (h : bits1 a b = true) (ι : En) : ren ι a = ren ι b ∧ ∀ n, Instr.sameBits n (ren ι a) (ren ι b) = true := by
  unfold bits1 at h
  split at h
  · rename_i x y
    obtain rfl : x = y := by simpa using h
    exact ⟨rfl, fun n => by cases n <;> simp [ren, Instr.sameBits]⟩
  · simp only [Bool.and_eq_true, decide_eq_true_eq, beq_iff_eq] at h
    obtain ⟨rfl, rfl⟩ := h
    exact ⟨rfl, fun n => by cases n <;> simp [ren, Instr.sameBits]⟩
  · rw [strEq_iff] at h
    have h := by simpa using h
    simp only [ren]
    rw [h]
    exact ⟨rfl, fun n => by cases n <;> (simp only [Instr.sameBits]; rw [beq_toListBytes]; exact beq_self_eq_true _)⟩
  · cases h
theorem bitsL_ok (ι : En) : ∀ {as bs : List AV}, bitsL as bs = true → renL ι as = renL ι bs ∧ ∀ n, ((renL ι as).zip (renL ι bs)).all (fun (x, y) => Instr.sameBits n x y) = true
  | [], [], _ => ⟨rfl, fun n => rfl⟩
  | [], _ :: _, h => by cases h
  | _ :: _, [], h => by cases h
  | a :: as, b :: bs, h => by
    simp only [bitsL, Bool.and_eq_true] at h
    obtain ⟨h1, h2⟩ := bits1_ok h.1 ι
    obtain ⟨h3, h4⟩ := bitsL_ok ι h.2
    exact ⟨by simp only [renL]; rw [h1, h3], fun n => by simp only [renL, List.zip_cons_cons, List.all_cons, Bool.and_eq_true]; exact ⟨h2 n, h4 n⟩⟩
theorem bitsF_ok {a b : AV} (h : bitsF a b = true) (ι : En) : ren ι a = ren ι b ∧ Instr.sameBits 10000 (ren ι a) (ren ι b) = true := by
  unfold bitsF at h
  split at h
  · obtain ⟨h1, h2⟩ := bitsL_ok ι h
    refine ⟨by simp only [ren]; rw [h1], ?_⟩
    simp only [ren, Instr.sameBits, Bool.and_eq_true]
    refine ⟨by rw [h1]; simp, ?_⟩
    have := h2 9999
    simpa using this
  · obtain ⟨h1, h2⟩ := bits1_ok h ι
    exact ⟨h1, h2 _⟩
theorem check_scal {t : TypeId} {d : TypeDesc} (hu : P.underlying t = some d) (hd : d = .bool ∨ (∃ kd, d = .int kd) ∨ d = .string) (e : Bool) (n : Nat) (v : Value) (w : World) : (Instr.checkKey e (n + 1) t v).run P w = .ok () w := by
  unfold Instr.checkKey
  rw [Sem.run_bind, run_und hu, Result.andThen_ok]
  rcases hd with rfl | ⟨kd, rfl⟩ | rfl <;> rfl
theorem keyF_ok : ∀ (d : Nat) {t : TypeId} {v : AV}, keyF P d t v = true → (∃ dd, P.underlying t = some dd) ∧ ∀ e n ι w, (Instr.checkKey e (n + d) t (ren ι v)).run P w = .ok () w
  | 0, t, v, h => by cases h
  | d + 1, t, v, h => by
    unfold keyF at h
    split at h
    · rename_i hu; exact ⟨⟨_, hu⟩, fun e n ι w => check_scal hu (.inl rfl) e (n + d) _ w⟩
    · rename_i hu; exact ⟨⟨_, hu⟩, fun e n ι w => check_scal hu (.inr (.inl ⟨_, rfl⟩)) e (n + d) _ w⟩
    · rename_i hu; exact ⟨⟨_, hu⟩, fun e n ι w => check_scal hu (.inr (.inr rfl)) e (n + d) _ w⟩
    · rename_i fs hu
      cases v with
      | agg cs =>
        simp only at h
        refine ⟨⟨_, hu⟩, fun e n ι w => ?_⟩
        rw [show n + (d + 1) = (n + d) + 1 by omega]
        unfold Instr.checkKey
        rw [Sem.run_bind, run_und hu, Result.andThen_ok]
        simp only [ren]
        rw [← Array.forIn_toList]
        generalize fs.toList = l at h
        induction l with
        | nil => rfl
        | cons f l ih =>
          rw [List.all_cons, Bool.and_eq_true] at h
          obtain ⟨h1, h3⟩ := h
          obtain ⟨u, hp', hc⟩ : ∃ u, (part f.type (renL ι cs).toArray f.offset).run P w = .ok (ren ι u) w ∧ (Instr.checkKey e (n + d) f.type (ren ι u)).run P w = .ok () w := by
            cases hagg : aggT P f.type with
            | true =>
              rw [hagg] at h1
              exact ⟨_, part_agg hagg ι w, (keyF_ok d h1).2 e n ι w⟩
            | false =>
              rw [hagg] at h1
              simp only at h1
              cases hg : cs[f.offset]? with
              | none => rw [hg] at h1; cases h1
              | some u =>
                rw [hg] at h1
                simp only at h1
                obtain ⟨⟨dd, hd⟩, hk⟩ := keyF_ok d h1
                exact ⟨u, part_one (by unfold knownT; rw [hd]; rfl) hagg hg ι w, hk e n ι w⟩
          have ih := ih h3
          rw [List.forIn_cons]
          rw [Sem.run_bind] at ih
          by_cases hn : f.name ≠ "_"
          · simp only [if_pos hn, Sem.run_bind, hp', hc, Result.andThen_ok, Sem.run_pure]
            exact ih
          · simp only [if_neg hn, Sem.run_bind, Result.andThen_ok, Sem.run_pure]
            exact ih
      | _ => cases h
    · cases h
theorem keyChk_ok {t : TypeId} {v : AV} {r : Rs} (h : keyChk P t v r = .ok) : r = .ok ∧ (∃ d, P.underlying t = some d) ∧ ∀ e ι w, (Instr.checkKey e 10000 t (ren ι v)).run P w = .ok () w := by
  unfold keyChk at h
  split at h
  · rename_i hu; exact ⟨h, ⟨_, hu⟩, fun e ι w => check_scal hu (.inl rfl) e 9999 _ w⟩
  · rename_i hu; exact ⟨h, ⟨_, hu⟩, fun e ι w => check_scal hu (.inr (.inl ⟨_, rfl⟩)) e 9999 _ w⟩
  · rename_i hu; exact ⟨h, ⟨_, hu⟩, fun e ι w => check_scal hu (.inr (.inr rfl)) e 9999 _ w⟩
  · obtain ⟨h1, h⟩ := ifK_ok h
    obtain ⟨h2, h3⟩ := keyF_ok 4 h1
    exact ⟨h, h2, fun e ι w => h3 e 9996 ι w⟩
  · cases h
theorem run_getMap {w : World} {b : Nat} {E : Array MapEntry} {cl : Nat} (h : w.heap[b]? = some (.map E cl)) : (getObj b).run P w = .ok (.map E cl) w := by
  simp [getObj, Sem.run, h]
theorem run_setMap {w : World} {b : Nat} {E E' : Array MapEntry} {cl cl' : Nat} (h : w.heap[b]? = some (.map E cl)) : (setObj b (.map E' cl')).run P w = .ok () (putMap w b E' cl') := by
  simp [setObj, Sem.run, h, putMap]
theorem mapK_ok {v : AV} {kk : Pz → List ME → Nat → Rs} (h : mapK hp v kk = .ok) : ∃ id es c, v = .map id ∧ hp.get id = some (.map es c) ∧ kk id es c = .ok := by
  unfold mapK at h
  cases v with
  | map id =>
    have h : hp.getK id (.bad 102) (fun o => selMap o fun es c => kk id es c) = .ok := h
    obtain ⟨ob, ho, h⟩ := getK_ok h
    cases ob with
    | map es c => exact ⟨id, es, c, rfl, ho, h⟩
    | _ => cases h
  | _ => cases h
theorem lookup_ok {t kt et : TypeId} {m i : Operand} {ok : Bool} {z : AV} (ho : o.op = .lookup t m i ok) (hu : P.underlying t = some (.map kt et)) (hz : zeroOf P et = some z)
    (h : ((evB m).run tm fun m => (evB i).run tm fun i => keyChk P kt i (match m with
        | .nilmap => Bool.rec (motive := fun _ => Rs) (k z hp nx) (k (.tup [z, .bool false]) hp nx) ok
        | m => mapK hp m fun _ es _ => findE P kt i es 0 (Bool.rec (motive := fun _ => Rs) (k z hp nx) (k (.tup [z, .bool false]) hp nx) ok) fun _ e => Bool.rec (motive := fun _ => Rs) (k e.val hp nx) (k (.tup [e.val, .bool true]) hp nx) ok)) = .ok) : ValTo P o tm hp nx k := by
  obtain ⟨mv, h, hm⟩ := evB_ok h
  obtain ⟨iv, h, hi⟩ := evB_ok h
  obtain ⟨h, ⟨d, hd⟩, hchk⟩ := keyChk_ok h
  obtain ⟨_, zv, _, _, _, hzero⟩ := zeroOf_ok hz
  have outK : ∀ {v : AV} {b : Bool}, (Bool.rec (motive := fun _ => Rs) (k v hp nx) (k (.tup [v, .bool b]) hp nx) ok) = .ok → k (if ok then .tup [v, .bool b] else v) hp nx = .ok := by
    intro v b h
    cases ok <;> exact h
  have big : mapK hp mv (fun _ es _ => findE P kt iv es 0 (Bool.rec (motive := fun _ => Rs) (k z hp nx) (k (.tup [z, .bool false]) hp nx) ok) fun _ e => Bool.rec (motive := fun _ => Rs) (k e.val hp nx) (k (.tup [e.val, .bool true]) hp nx) ok) = .ok → ValTo P o tm hp nx k := by
    intro h
    obtain ⟨id, es, c, rfl, hob, h⟩ := mapK_ok h
    rcases findE_ok _ _ _ _ h with ⟨h, hf⟩ | ⟨j, e, h, hf⟩
    · have key : OVal P o tm hp (if ok then .tup [z, .bool false] else z) := fun B w0 ι nt a w ha hc => by
        obtain ⟨E, h1, h2⟩ := hc.obj _ _ hob
        have hfind := find_ok (ι := ι) (w := w) hd hf
        simp only [execOp, ho, Sem.run_bind]
        rw [hm ι nt a ha, hi ι nt a ha]
        simp only [ren, Instr.lookup, Sem.run_bind, run_und hu, Result.andThen_ok, run_getMap h1, Sem.run_pure, hchk, h2, hfind, foundV, hzero ι]
        cases ok <;> simp [ren, renL]
      exact val_to key (outK h)
    · have key : OVal P o tm hp (if ok then .tup [e.val, .bool true] else e.val) := fun B w0 ι nt a w ha hc => by
        obtain ⟨E, h1, h2⟩ := hc.obj _ _ hob
        have hfind := find_ok (ι := ι) (w := w) hd hf
        simp only [execOp, ho, Sem.run_bind]
        rw [hm ι nt a ha, hi ι nt a ha]
        simp only [ren, Instr.lookup, Sem.run_bind, run_und hu, Result.andThen_ok, run_getMap h1, Sem.run_pure, hchk, h2, hfind, foundV]
        cases ok <;> simp [ren, renL]
      exact val_to key (outK h)
  cases mv with
  | nilmap =>
    have key : OVal P o tm hp (if ok then .tup [z, .bool false] else z) := fun B w0 ι nt a w ha hc => by
      have hfind := find_ok (ι := ι) (w := w) (es := []) (r := none) (k := iv) hd (fun e he => by simp at he)
      simp only [execOp, ho, Sem.run_bind]
      rw [hm ι nt a ha, hi ι nt a ha]
      simp only [ren, Instr.lookup, Sem.run_bind, run_und hu, Result.andThen_ok, Sem.run_pure, hchk]
      rw [show ([] : List MapEntry) = ([] : List ME).map (entR ι) from rfl, hfind]
      simp only [foundV, Result.andThen_ok, Sem.run_bind, hzero ι, Sem.run_pure]
      cases ok <;> simp [ren, renL]
    exact val_to key (outK h)
  | _ => exact big h
/-! writes -/
theorem setVal_ok {v : AV} : ∀ (j : Nat) {es : List ME} {kk : List ME → Rs}, setValK v j es kk = .ok → ∃ e, es[j]? = some e ∧ kk (es.set j ⟨e.key, v, e.born⟩) = .ok
  | 0, [], kk, h => by cases h
  | 0, e :: es, kk, h => ⟨e, rfl, h⟩
  | j + 1, [], kk, h => by cases h
  | j + 1, e :: es, kk, h => by
    obtain ⟨e', h1, h2⟩ := setVal_ok j (es := es) (kk := fun t => kk (e :: t)) h
    exact ⟨e', by simpa using h1, by simpa using h2⟩
theorem snocK_ok (e : ME) : ∀ (es : List ME) (kk : List ME → Rs), snocK e es kk = kk (es ++ [e])
  | [], kk => rfl
  | x :: es, kk => by
    show snocK e es (fun t => kk (x :: t)) = _
    rw [snocK_ok e es]; rfl
theorem dropE_ok : ∀ (j : Nat) {es : List ME} {kk : List ME → Rs}, dropE j es kk = .ok → kk (es.eraseIdx j) = .ok ∧ j < es.length
  | 0, [], kk, h => by cases h
  | 0, e :: es, kk, h => ⟨h, by simp⟩
  | j + 1, [], kk, h => by cases h
  | j + 1, e :: es, kk, h => by
    obtain ⟨h1, h2⟩ := dropE_ok j (es := es) (kk := fun t => kk (e :: t)) h
    exact ⟨by simpa using h1, by simpa using h2⟩
theorem bornE_ok {b : Nat} : ∀ (es : List ME) (i : Nat) (kk : Nat → Rs), bornE b es i kk = .ok → ∃ j, kk (i + j) = .ok ∧ ∀ ι, (es.map (entR ι)).findIdx? (fun e => (e.born : Int) == (b : Int)) = some j
  | [], i, kk, h => by cases h
  | e :: es, i, kk, h => by
    rcases ifK_two (b := Nat.beq e.born b) (x := kk i) (y := natF (i + 1) fun i => bornE b es i kk) h with ⟨hb, h⟩ | ⟨hb, h⟩
    · exact ⟨0, h, fun ι => by rw [List.map_cons, List.findIdx?_cons, if_pos (by simp [entR, beq_ok hb])]⟩
    · rw [natF_eq] at h
      obtain ⟨j, h1, h2⟩ := bornE_ok es _ _ h
      refine ⟨j + 1, by rw [show i + (j + 1) = i + 1 + j by omega]; exact h1, fun ι => ?_⟩
      have hne := beq_no hb
      rw [List.map_cons, List.findIdx?_cons, if_neg (by simp [entR]; omega), h2 ι]; rfl
theorem mod_list (E : Array MapEntry) (j : Nat) (f : MapEntry → MapEntry) (l : List MapEntry) (h : E.toList = l) : (E.modify j f).toList = l.modify j f := by rw [Array.toList_modify, h]
theorem entR_modify (ι : En) (v : AV) (kn : Value) : ∀ (es : List ME) (j : Nat) (e : ME), es[j]? = some e → kn = ren ι e.key → (es.map (entR ι)).modify j (fun x => { x with key := kn, val := ren ι v }) = (es.set j ⟨e.key, v, e.born⟩).map (entR ι)
  | [], j, e, h, _ => by simp at h
  | x :: es, 0, e, h, hk => by
    simp only [List.getElem?_cons_zero, Option.some.injEq] at h
    subst h
    simp [entR, hk]
  | x :: es, j + 1, e, h, hk => by
    have := entR_modify ι v kn es j e (by simpa using h) hk
    simp only [List.map_cons, List.modify_succ_cons, List.set_cons_succ]
    rw [this]
theorem entR_same (ι : En) (kn : Value) : ∀ (es : List ME) (j : Nat) (e : ME), es[j]? = some e → kn = ren ι e.key → (es.map (entR ι)).modify j (fun x => { x with key := kn }) = es.map (entR ι)
  | [], j, e, h, _ => by simp at h
  | x :: es, 0, e, h, hk => by
    simp only [List.getElem?_cons_zero, Option.some.injEq] at h
    subst h
    simp [entR, hk]
  | x :: es, j + 1, e, h, hk => by
    have := entR_same ι kn es j e (by simpa using h) hk
    simp only [List.map_cons, List.modify_succ_cons]
    rw [this]
theorem entR_val (ι : En) (v : AV) : ∀ (es : List ME) (j : Nat) (e : ME), es[j]? = some e → (es.map (entR ι)).modify j (fun x => { x with val := ren ι v }) = (es.set j ⟨e.key, v, e.born⟩).map (entR ι)
  | [], j, e, h => by simp at h
  | x :: es, 0, e, h => by
    simp only [List.getElem?_cons_zero, Option.some.injEq] at h
    subst h
    simp [entR]
  | x :: es, j + 1, e, h => by
    have := entR_val ι v es j e (by simpa using h)
    simp only [List.map_cons, List.modify_succ_cons, List.set_cons_succ]
    rw [this]
theorem found_at {t : TypeId} {kv : AV} {es : List ME} {j : Nat} {e : ME} (h : Found P t kv es (some (j, e))) : es[j]? = some e := by
  obtain ⟨pre, post, h1, h2, _⟩ := h
  rw [h1, h2]
  simp
theorem E_at {ι : En} {E : Array MapEntry} {es : List ME} {j : Nat} {e : ME} (h2 : E.toList = es.map (entR ι)) (hj : es[j]? = some e) : E[j]? = some (entR ι e) := by
  rw [← Array.getElem?_toList, h2, List.getElem?_map, hj]; rfl
theorem update_ok {t kt et : TypeId} {m i x : Operand} (ho : o.op = .mapUpdate t m i x ∨ o.op = .insert t m i x) (hu : P.underlying t = some (.map kt et))
    (h : ((evB m).run tm fun m => (evB i).run tm fun i => (evB x).run tm fun x => keyChk P kt i (mapK hp m fun id es c =>
        findE P kt i es 0 (snocK ⟨i, x, c⟩ es fun es => natF (c + 1) fun c => hp.setK id (.map es c) fun hp => k undefA hp nx)
          fun j e => ifK (bitsF e.key i) (setValK x j es fun es => hp.setK id (.map es c) fun hp => k undefA hp nx) (.bad 107))) = .ok) : OpTo P o tm hp nx k := by
  obtain ⟨mv, h, hm⟩ := evB_ok h
  obtain ⟨iv, h, hi⟩ := evB_ok h
  obtain ⟨xv, h, hx⟩ := evB_ok h
  obtain ⟨h, ⟨d, hd⟩, hchk⟩ := keyChk_ok h
  obtain ⟨id, es, c, rfl, hob, h⟩ := mapK_ok h
  have hexec : ∀ (a : Act), execOp a.eval o = (do Instr.mapUpdate t (a.eval m) (a.eval i) (a.eval x); pure .skip) := by
    intro a
    rcases ho with ho | ho <;> simp only [execOp, ho]
  rcases findE_ok _ _ _ _ h with ⟨h, hf⟩ | ⟨j, e, h, hf⟩
  · rw [snocK_ok, natF_eq, Tr.setK_eq] at h
    have key : OWr P o tm hp nx undefA (hp.set id (.map (es ++ [⟨iv, xv, c⟩]) (c + 1))) := by
      refine ⟨(map_put hob).1 nx, fun B w0 ι nt a w hw ha hc => ?_⟩
      obtain ⟨E, h1, h2⟩ := hc.obj _ _ hob
      have hfind := find_ok (ι := ι) (w := w) hd hf
      refine ⟨_, undef, .inr ⟨?_, rfl⟩, (ren_undef ι).symm, (map_put hob).2 B w0 ι w hc (E.push ⟨ren ι iv, ren ι xv, c⟩) (by simp [h2, entR])⟩
      rw [hexec, hm ι nt a ha, hi ι nt a ha, hx ι nt a ha]
      simp only [ren, Instr.mapUpdate, Sem.run_bind, run_und hu, Result.andThen_ok, run_getMap h1, hchk, h2, hfind, foundV, run_setMap h1, Sem.run_pure]
    exact key.eff.to h
  · obtain ⟨hb, h⟩ := ifK_ok h
    rw [Nat.zero_add] at h
    obtain ⟨e', he', h⟩ := setVal_ok _ h
    rw [Tr.setK_eq] at h
    have hat := found_at hf
    rw [hat] at he'
    cases he'
    have key : OWr P o tm hp nx undefA (hp.set id (.map (es.set j ⟨e.key, xv, e.born⟩) c)) := by
      refine ⟨(map_put hob).1 nx, fun B w0 ι nt a w hw ha hc => ?_⟩
      obtain ⟨E, h1, h2⟩ := hc.obj _ _ hob
      have hfind := find_ok (ι := ι) (w := w) hd hf
      obtain ⟨hb1, hb2⟩ := bitsF_ok hb ι
      refine ⟨_, undef, .inr ⟨?_, rfl⟩, (ren_undef ι).symm, (map_put hob).2 B w0 ι w hc (E.modify j fun y => { y with key := ren ι iv, val := ren ι xv }) (by rw [mod_list _ _ _ _ h2]; exact entR_modify ι xv _ es j e hat hb1.symm)⟩
      rw [hexec, hm ι nt a ha, hi ι nt a ha, hx ι nt a ha]
      simp only [ren, Instr.mapUpdate, Sem.run_bind, run_und hu, Result.andThen_ok, run_getMap h1, hchk, h2, hfind, foundV, Nat.zero_add, E_at h2 hat, Option.map_some, Option.getD_some, Instr.keyThatStays]
      rw [show (entR ι e).key = ren ι e.key from rfl, hb2]
      simp only [if_true, Sem.run_pure, Result.andThen_ok, run_setMap h1]
    exact key.eff.to h
theorem entry_ok {t kt et : TypeId} {m i : Operand} {z : AV} (ho : o.op = .mapEntry t m i) (hu : P.underlying t = some (.map kt et)) (hz : zeroOf P et = some z)
    (h : ((evB m).run tm fun m => (evB i).run tm fun i => keyChk P kt i (mapK hp m fun id es c =>
        findE P kt i es 0 (snocK ⟨i, z, c⟩ es fun es => natF (c + 1) fun c' => hp.setK id (.map es c') fun hp => k (.tup [z, .int .i64 (.ofNat c)]) hp nx)
          fun _ e => ifK (bitsF e.key i) (hp.setK id (.map es c) fun hp => k (.tup [e.val, .int .i64 (.ofNat e.born)]) hp nx) (.bad 107))) = .ok) : OpTo P o tm hp nx k := by
  obtain ⟨mv, h, hm⟩ := evB_ok h
  obtain ⟨iv, h, hi⟩ := evB_ok h
  obtain ⟨h, ⟨d, hd⟩, hchk⟩ := keyChk_ok h
  obtain ⟨id, es, c, rfl, hob, h⟩ := mapK_ok h
  obtain ⟨_, zv, _, _, _, hzero⟩ := zeroOf_ok hz
  rcases findE_ok _ _ _ _ h with ⟨h, hf⟩ | ⟨j, e, h, hf⟩
  · rw [snocK_ok, natF_eq, Tr.setK_eq] at h
    have key : OWr P o tm hp nx (.tup [z, .int .i64 (.ofNat c)]) (hp.set id (.map (es ++ [⟨iv, z, c⟩]) (c + 1))) := by
      refine ⟨(map_put hob).1 nx, fun B w0 ι nt a w hw ha hc => ?_⟩
      obtain ⟨E, h1, h2⟩ := hc.obj _ _ hob
      have hfind := find_ok (ι := ι) (w := w) hd hf
      refine ⟨_, _, .inl ?_, rfl, (map_put hob).2 B w0 ι w hc (E.push ⟨ren ι iv, ren ι z, c⟩) (by simp [h2, entR])⟩
      simp only [execOp, ho]
      rw [hm ι nt a ha, hi ι nt a ha]
      simp only [ren, renL, Instr.mapEntry, Sem.run_bind, run_und hu, Result.andThen_ok, run_getMap h1, hchk, h2, hfind, foundV, hzero ι, run_setMap h1, Sem.run_pure, goInt]
      rfl
    exact key.eff.to h
  · obtain ⟨hb, h⟩ := ifK_ok h
    rw [Tr.setK_eq] at h
    have hat := found_at hf
    have key : OWr P o tm hp nx (.tup [e.val, .int .i64 (.ofNat e.born)]) (hp.set id (.map es c)) := by
      refine ⟨(map_put hob).1 nx, fun B w0 ι nt a w hw ha hc => ?_⟩
      obtain ⟨E, h1, h2⟩ := hc.obj _ _ hob
      have hfind := find_ok (ι := ι) (w := w) hd hf
      obtain ⟨hb1, hb2⟩ := bitsF_ok hb ι
      refine ⟨_, _, .inl ?_, rfl, (map_put hob).2 B w0 ι w hc (E.modify j fun y => { y with key := ren ι iv }) (by rw [mod_list _ _ _ _ h2]; exact entR_same ι _ es j e hat hb1.symm)⟩
      simp only [execOp, ho]
      rw [hm ι nt a ha, hi ι nt a ha]
      simp only [ren, renL, Instr.mapEntry, Sem.run_bind, run_und hu, Result.andThen_ok, run_getMap h1, hchk, h2, hfind, foundV, Nat.zero_add, E_at h2 hat, Option.map_some, Option.getD_some, Instr.keyThatStays]
      rw [show (entR ι e).key = ren ι e.key from rfl, hb2]
      simp only [if_true, Sem.run_pure, Sem.run_bind, Result.andThen_ok, run_setMap h1, goInt, entR]
      rfl
    exact key.eff.to h
theorem entryStore_ok {t : TypeId} {m s x : Operand} (ho : o.op = .entryStore t m s x)
    (h : ((evB m).run tm fun m => (evB s).run tm fun s => (evB x).run tm fun x => mapK hp m fun id es c => asNat s fun b =>
    bornE b es 0 fun j => setValK x j es fun es => hp.setK id (.map es c) fun hp => k undefA hp nx) = .ok) : OpTo P o tm hp nx k := by
  obtain ⟨mv, h, hm⟩ := evB_ok h
  obtain ⟨sv, h, hsv⟩ := evB_ok h
  obtain ⟨xv, h, hx⟩ := evB_ok h
  obtain ⟨id, es, c, rfl, hob, h⟩ := mapK_ok h
  obtain ⟨kd, b, rfl, h⟩ := asNat_ok h
  obtain ⟨j, h, hj⟩ := bornE_ok _ _ _ h
  rw [Nat.zero_add] at h
  obtain ⟨e, he, h⟩ := setVal_ok _ h
  rw [Tr.setK_eq] at h
  have key : OWr P o tm hp nx undefA (hp.set id (.map (es.set j ⟨e.key, xv, e.born⟩) c)) := by
    refine ⟨(map_put hob).1 nx, fun B w0 ι nt a w hw ha hc => ?_⟩
    obtain ⟨E, h1, h2⟩ := hc.obj _ _ hob
    refine ⟨_, undef, .inr ⟨?_, rfl⟩, (ren_undef ι).symm, (map_put hob).2 B w0 ι w hc (E.modify j fun y => { y with val := ren ι xv }) (by rw [mod_list _ _ _ _ h2]; exact entR_val ι xv es j e he)⟩
    have hfi : E.findIdx? (fun e => (e.born : Int) == (b : Int)) = some j := by
      have e1 : E = E.toList.toArray := rfl
      rw [← hj ι, ← h2]
      exact List.findIdx?_toArray _ E.toList
    simp only [execOp, ho]
    rw [hm ι nt a ha, hsv ι nt a ha, hx ι nt a ha, ren_int]
    simp only [ren, Instr.entryStore, Sem.run_bind, Result.andThen_ok, run_getMap h1, Go.asInt, asIntOf, Sem.run_pure, hfi, run_setMap h1]
  exact key.eff.to h
theorem call_twoG {c : Call} {b : Builtin} {ts : TypeId} {tss : List TypeId} {s x : Operand} (ho : o.op = .call c) (hc : c.callee = .builtin b) (ht : c.argTypes.toList = ts :: tss) (hx : c.args.toList = [s, x]) {a : Act} {w : World} {f : Array TypeId → TypeId → Array Value → Sem Value}
    (hb : ∀ ats ty cs as, builtin b ats ty cs as = (do pure (.value (← f ats ty as)))) : (execOp a.eval o).run P w = ((f (ts :: tss).toArray o.type #[a.eval s, a.eval x]).run P w).andThen fun v w' => .ok (.value v) w' := by
  have hargs : c.args.map a.eval = #[a.eval s, a.eval x] := by rw [map_mk, hx]; rfl
  have hats : c.argTypes = (ts :: tss).toArray := by apply Array.ext'; rw [ht]
  simp only [execOp, ho, resolve, hc, hargs, hats, Sem.run_bind, Sem.run_pure, Result.andThen_ok, invoke, hb]
theorem eraseIdx_entR (ι : En) : ∀ (es : List ME) (j : Nat), (es.map (entR ι)).eraseIdx j = (es.eraseIdx j).map (entR ι)
  | [], j => by simp
  | e :: es, 0 => by simp
  | e :: es, j + 1 => by simp [eraseIdx_entR ι es j]
theorem delete_ok {c : Call} {t kt et : TypeId} {ts : List TypeId} {m i : Operand} (ho : o.op = .call c) (hc : c.callee = .builtin .delete) (ht : c.argTypes.toList = t :: ts) (hx : c.args.toList = [m, i]) (hu : P.underlying t = some (.map kt et))
    (h : ((evB m).run tm fun m => (evB i).run tm fun i => keyChk P kt i (match m with
        | .nilmap => k undefA hp nx
        | m => mapK hp m fun id es c => findE P kt i es 0 (hp.setK id (.map es c) fun hp => k undefA hp nx) fun j _ => dropE j es fun es => hp.setK id (.map es c) fun hp => k undefA hp nx)) = .ok) : OpTo P o tm hp nx k := by
  obtain ⟨mv, h, hm⟩ := evB_ok h
  obtain ⟨iv, h, hi⟩ := evB_ok h
  obtain ⟨h, ⟨d, hd⟩, hchk⟩ := keyChk_ok h
  have hrun : ∀ (a : Act) (w : World), (execOp a.eval o).run P w = ((Builtin.delete_ (t :: ts).toArray o.type #[a.eval m, a.eval i]).run P w).andThen fun v w' => .ok (.value v) w' := fun a w => call_twoG ho hc ht hx (fun _ _ _ _ => rfl)
  have big : mapK hp mv (fun id es c => findE P kt iv es 0 (hp.setK id (.map es c) fun hp => k undefA hp nx) fun j _ => dropE j es fun es => hp.setK id (.map es c) fun hp => k undefA hp nx) = .ok → OpTo P o tm hp nx k := by
    intro h
    obtain ⟨id, es, c, rfl, hob, h⟩ := mapK_ok h
    rcases findE_ok _ _ _ _ h with ⟨h, hf⟩ | ⟨j, e, h, hf⟩
    · rw [Tr.setK_eq] at h
      have key : OWr P o tm hp nx undefA (hp.set id (.map es c)) := by
        refine ⟨(map_put hob).1 nx, fun B w0 ι nt a w hw ha hc => ?_⟩
        obtain ⟨E, h1, h2⟩ := hc.obj _ _ hob
        have hfind := find_ok (ι := ι) (w := w) hd hf
        refine ⟨_, undef, .inl ?_, (ren_undef ι).symm, (map_put hob).2 B w0 ι w hc E h2⟩
        rw [hrun, hm ι nt a ha, hi ι nt a ha]
        simp only [Builtin.delete_, List.getElem?_toArray, List.getElem?_cons_zero, List.getElem?_cons_succ, ren, Sem.run_bind, run_und hu, Result.andThen_ok, run_getMap h1, hchk, h2, hfind, foundV, run_setMap h1, Sem.run_pure]
        rfl
      exact key.eff.to h
    · rw [Nat.zero_add] at h
      obtain ⟨h, hlt⟩ := dropE_ok _ h
      rw [Tr.setK_eq] at h
      have key : OWr P o tm hp nx undefA (hp.set id (.map (es.eraseIdx j) c)) := by
        refine ⟨(map_put hob).1 nx, fun B w0 ι nt a w hw ha hc => ?_⟩
        obtain ⟨E, h1, h2⟩ := hc.obj _ _ hob
        have hfind := find_ok (ι := ι) (w := w) hd hf
        refine ⟨_, undef, .inl ?_, (ren_undef ι).symm, (map_put hob).2 B w0 ι w hc (E.eraseIdxIfInBounds j) (by rw [Array.toList_eraseIdxIfInBounds, h2, eraseIdx_entR])⟩
        rw [hrun, hm ι nt a ha, hi ι nt a ha]
        simp only [Builtin.delete_, List.getElem?_toArray, List.getElem?_cons_zero, List.getElem?_cons_succ, ren, Sem.run_bind, run_und hu, Result.andThen_ok, run_getMap h1, hchk, h2, hfind, foundV, Nat.zero_add, run_setMap h1, Sem.run_pure]
        rfl
      exact key.eff.to h
  cases mv with
  | nilmap =>
    have key : OVal P o tm hp undefA := fun B w0 ι nt a w ha hcc => by
      rw [hrun, hm ι nt a ha, hi ι nt a ha]
      simp only [Builtin.delete_, List.getElem?_toArray, List.getElem?_cons_zero, List.getElem?_cons_succ, ren, Sem.run_bind, run_und hu, Result.andThen_ok, hchk, Sem.run_pure]
      rfl
    exact (val_to key h).to
  | _ => exact big h
end
end Go.Rex
namespace Go.Rex
open Go.RowKit
set_option linter.unusedSimpArgs false
set_option linter.unusedVariables false
section
variable {P : Program} {o : Oper} {tm : Tm} {hp : Tr AO} {nx : Pz} {k : AV → Tr AO → Pz → Rs} {call : CallT}
theorem call_args {c : Call} {b : Builtin} {s x : Operand} (ho : o.op = .call c) (hc : c.callee = .builtin b) (hx : c.args.toList = [s, x]) {a : Act} {w : World} {f : Array TypeId → TypeId → Array Value → Sem Value}
    (hb : ∀ ats ty cs as, builtin b ats ty cs as = (do pure (.value (← f ats ty as)))) : (execOp a.eval o).run P w = ((f c.argTypes o.type #[a.eval s, a.eval x]).run P w).andThen fun v w' => .ok (.value v) w' := by
  have hargs : c.args.map a.eval = #[a.eval s, a.eval x] := by rw [map_mk, hx]; rfl
  simp only [execOp, ho, resolve, hc, hargs, Sem.run_bind, Sem.run_pure, Result.andThen_ok, invoke, hb]
theorem minK_ok {mx : Bool} {v y : AV} {kk : AV → Rs} (h : minK mx v y kk = .ok) : ∃ ka a b, v = .int ka a ∧ y = .int ka b ∧ kk (.int ka (if (if mx then b > a else b < a) then b else a)) = .ok := by
  obtain ⟨ka, a, rfl, g⟩ := asInt_ok h
  obtain ⟨kb, b, rfl, g2⟩ := asInt_ok g
  obtain ⟨hk, g3⟩ := ifK_ok g2
  obtain rfl := dec_ok hk
  clear h g g2
  have h := g3
  clear g3
  refine ⟨ka, a, b, rfl, rfl, ?_⟩
  cases mx
  · rcases ifK_two h with ⟨hb, h⟩ | ⟨hb, h⟩
    · have hb : b < a := of_decide_eq_true hb
      simpa [hb] using h
    · have hb : ¬ b < a := of_decide_eq_false hb
      simpa [hb] using h
  · rcases ifK_two h with ⟨hb, h⟩ | ⟨hb, h⟩
    · have hb : b > a := of_decide_eq_true hb
      simpa [hb] using h
    · have hb : ¬ b > a := of_decide_eq_false hb
      simpa [hb] using h
theorem min_ok {mx : Bool} {c : Call} {x y : Operand} (ho : o.op = .call c) (hc : c.callee = .builtin (if mx then .max else .min)) (hx : c.args.toList = [x, y]) (h : ((evB x).run tm fun a => (evB y).run tm fun b => minK mx a b fun v => k v hp nx) = .ok) : ValTo P o tm hp nx k := by
  obtain ⟨v, h, hv⟩ := evB_ok h
  obtain ⟨u, h, hu⟩ := evB_ok h
  obtain ⟨ka, p, q, rfl, rfl, g⟩ := minK_ok h
  refine val_to (fun B w0 ι nt a w ha hcc => ?_) g
  cases mx with
  | false =>
    rw [call_args ho hc hx (f := Builtin.min_) (fun _ _ _ _ => rfl), hv ι nt a ha, hu ι nt a ha]
    simp only [Builtin.min_, List.foldlM_cons, List.foldlM_nil, ren, Builtin.min2, Sem.run_bind, Sem.run_pure, Result.andThen_ok, Bool.false_eq_true, if_false]
  | true =>
    rw [call_args ho hc hx (f := Builtin.max_) (fun _ _ _ _ => rfl), hv ι nt a ha, hu ι nt a ha]
    simp only [Builtin.max_, List.foldlM_cons, List.foldlM_nil, ren, Builtin.max2, Sem.run_bind, Sem.run_pure, Result.andThen_ok, if_true]
/-! the mark behind a row of constant bytes -/
theorem freeze_ne (w : World) (a : Addr) (n b : Nat) (h : b ≠ a.block) : (w.freeze a n).heap[b]? = w.heap[b]? := by
  unfold World.freeze
  split
  · rfl
  · show (w.heap.modify _ _)[b]? = _
    rw [Array.getElem?_modify, if_neg (fun e => h e.symm)]
theorem freeze_size (w : World) (a : Addr) (n : Nat) : (w.freeze a n).heap.size = w.heap.size := by
  unfold World.freeze
  split
  · rfl
  · simp
theorem freeze_at {w : World} {b : Nat} {C : Array Value} {el : TypeId} {fz : Nat × Nat} (h : w.heap[b]? = some (.cells C el fz)) (hf : unfrozen fz C.size) : ∃ fz', (w.freeze ⟨b, C.size, none⟩ 1).heap[b]? = some (.cells C el fz') ∧ unfrozen fz' C.size := by
  obtain ⟨lo, hi⟩ := fz
  unfold World.freeze
  rw [if_neg (by decide)]
  refine ⟨if lo == hi then (C.size, C.size + 1) else (min lo C.size, max hi (C.size + 1)), ?_, ?_⟩
  · show (w.heap.modify _ _)[b]? = _
    rw [Array.getElem?_modify, if_pos rfl, h]
    rfl
  · by_cases he : lo = hi
    · rw [if_pos (by simpa using he)]; exact .inr (Nat.le_refl _)
    · rw [if_neg (by simpa using he)]
      rcases hf with hf | hf
      · exact absurd hf he
      · exact .inr (by simp only at hf ⊢; omega)
theorem convMark_ok {s t e e' : TypeId} {x : Operand} (ho : o.op = .convert s t x) (hs : P.underlying s = some (.slice e')) (ht : P.underlying t = some (.slice e)) (he : P.underlying e = some (.int .u8))
    (h : ((evB x).run tm fun v => match v with
      | .slice id off len cap => ifK (Nat.beq s t) (hp.getK id (.bad 230) fun o => match o with
        | .arr _ _ _ _ => k (.slice id off len cap) hp nx
        | _ => .bad 231) (.bad 232)
      | _ => .bad 233) = .ok) : OpTo P o tm hp nx k := by
  obtain ⟨v, h, hv⟩ := evB_ok h
  cases v with
  | slice id off len cap =>
    obtain ⟨hst, h⟩ := ifK_ok h
    have hst := beq_ok hst
    obtain ⟨ob, hob, h⟩ := getK_ok h
    cases ob with
    | arr es n el c =>
      have key : OWr P o tm hp nx (.slice id off len cap) hp := by
        refine ⟨fun hw => hw, fun B w0 ι nt a w hw ha hc => ?_⟩
        obtain ⟨C, fz, h1, h2, h3, h4, h5⟩ := hc.obj _ _ hob
        have hb := hc.base _ _ hob trivial
        obtain ⟨fz', f1, f2⟩ := freeze_at h1 h5
        refine ⟨w.freeze ⟨ι.blk id, C.size, none⟩ 1, _, .inl ?_, rfl, ?_⟩
        · have hsh : w.shape? (ι.blk id) = some (el, C.size) := by
            unfold World.shape?
            rw [h1]
          have hm : (markStringish ⟨ι.blk id, ι.sh id + off, none⟩).run P w = .ok () (w.freeze ⟨ι.blk id, C.size, none⟩ 1) := by
            simp only [markStringish, Sem.run_bind, run_shape, hsh, Result.andThen_ok, run_freeze]
          simp only [execOp, ho]
          rw [hv ι nt a ha]
          simp only [ren, convert, Sem.run_bind, run_und hs, run_und ht, run_und he, Result.andThen_ok, show (s == t) = true by simp [hst], hm, Sem.run_pure]
        · refine ⟨hc.below.trans ⟨?_, ?_, ?_, by rw [freeze_size]; exact Nat.le_refl _, fun b hb' => freeze_ne _ _ _ _ (fun e => hb (by have e : b = ι.blk id := e; rw [← e]; exact hb'))⟩, fun b hb' => by rw [freeze_size]; exact hc.room b hb', fun i p hi => ?_, hc.base, hc.sep, hc.tip⟩
          · unfold World.freeze; split <;> rfl
          · unfold World.freeze; split <;> rfl
          · unfold World.freeze; split <;> rfl
          · by_cases hi' : i = id
            · subst hi'
              rw [hob] at hi
              cases hi
              exact ⟨C, fz', f1, h2, h3, h4, f2⟩
            · refine (hc.obj i p hi).keep (fun x => x) fun ho' => freeze_ne _ _ _ _ (fun e => ?_)
              obtain ⟨f, _, g⟩ := hc.sep _ _ _ _ hi' hi hob ho' trivial e
              cases g
      exact key.eff.to h
    | _ => cases h
  | _ => cases h
end
end Go.Rex
namespace Go.Rex
open Go.RowKit
set_option linter.unusedSimpArgs false
set_option linter.unusedVariables false
section
variable {P : Program} {o : Oper} {tm : Tm} {hp : Tr AO} {nx : Pz} {k : AV → Tr AO → Pz → Rs} {call : CallT}
theorem andK_ok {a b : Rs} (h : andK a b = .ok) : a = .ok ∧ b = .ok := by
  cases a with
  | ok => exact ⟨rfl, h⟩
  | bad n => cases h
theorem selIter_ok {o : AO} {kk : Pz → Nat → List Nat → Nat → Rs} (h : selIter o kk = .ok) : ∃ m s l c, o = .iter m s l c ∧ kk m s l c = .ok := by
  cases o with
  | iter m s l c => exact ⟨m, s, l, c, rfl, h⟩
  | _ => cases h
theorem selMap_ok {o : AO} {kk : List ME → Nat → Rs} (h : selMap o kk = .ok) : ∃ es c, o = .map es c ∧ kk es c = .ok := by
  cases o with
  | map es c => exact ⟨es, c, rfl, h⟩
  | _ => cases h
theorem inK_iff (b : Nat) : ∀ l, inK b l = l.contains b
  | [] => rfl
  | x :: l => by
    show Bool.rec (motive := fun _ => Bool) (inK b l) true (Nat.beq x b) = _
    rw [List.contains_cons]
    cases hb : Nat.beq x b with
    | true => rw [beq_ok hb]; simp
    | false =>
      have : (b == x) = false := by
        rw [beq_eq_false_iff_ne]
        intro e
        subst e
        rw [Nat.beq_refl] at hb; cases hb
      rw [this]
      simpa using inK_iff b l
theorem oldK_ok {since : Nat} : ∀ {es : List ME}, oldK since es = true → ∀ e ∈ es, e.born < since
  | [], _, e, he => by simp at he
  | x :: es, h, e, he => by
    have h : Bool.rec (motive := fun _ => Bool) false (oldK since es) (Nat.blt x.born since) = true := h
    cases hb : Nat.blt x.born since with
    | false => rw [hb] at h; cases h
    | true =>
      rw [hb] at h
      rcases List.mem_cons.1 he with rfl | he
      · exact blt_ok hb
      · exact oldK_ok h e he
theorem eachLeft_ok {seen : List Nat} {z : Rs} {kk : ME → Rs} : ∀ {es : List ME} {sm : Bool}, eachLeft seen es z kk sm = .ok →
    (∀ e ∈ es, seen.contains e.born = false → kk e = .ok) ∧ (sm = false → (∀ e ∈ es, seen.contains e.born = true) → z = .ok)
  | [], sm, h => ⟨fun e he => by simp at he, fun hs _ => by subst hs; exact h⟩
  | x :: es, sm, h => by
    have h : Bool.rec (motive := fun _ => Rs) (andK (kk x) (eachLeft seen es z kk true)) (eachLeft seen es z kk sm) (inK x.born seen) = .ok := h
    cases hb : inK x.born seen with
    | true =>
      rw [hb] at h
      obtain ⟨h1, h2⟩ := eachLeft_ok h
      rw [inK_iff] at hb
      refine ⟨fun e he hn => ?_, fun hs ha => h2 hs fun e he => ha e (List.mem_cons_of_mem _ he)⟩
      rcases List.mem_cons.1 he with rfl | he
      · rw [hb] at hn; cases hn
      · exact h1 e he hn
    | false =>
      rw [hb] at h
      obtain ⟨h0, h⟩ := andK_ok h
      obtain ⟨h1, h2⟩ := eachLeft_ok h
      rw [inK_iff] at hb
      refine ⟨fun e he hn => ?_, fun hs ha => by rw [ha x (List.mem_cons_self ..)] at hb; cases hb⟩
      rcases List.mem_cons.1 he with rfl | he
      · exact h0
      · exact h1 e he hn
theorem rangeB_ok {t : TypeId} {x : Operand} (ho : o.op = .range t x) (h : (rangeB P t (evB x)).run call tm hp nx k = .ok) : OpTo P o tm hp nx k := by
  unfold rangeB at h
  split at h
  · rename_i kt et hu
    obtain ⟨v, h, hv⟩ := evB_ok h
    cases v with
    | map m =>
      have h : hp.getK m (.bad 263) (fun o => selMap o fun es c => newObj hp nx (.iter m c [] c) fun id hp nx => k (.ptr id 0) hp nx) = .ok := h
      obtain ⟨ob, hob, h⟩ := getK_ok h
      obtain ⟨es, c, rfl, g⟩ := selMap_ok h
      rw [newObj_eq] at g
      refine (Eff.new (x := .iter m c [] c) rfl (fun _ _ h => by cases h) (fun B w0 ι nt a w ha hc hb hs => ?_)).to g
      obtain ⟨E, h1, h2⟩ := hc.obj _ _ hob
      refine ⟨.mapIter (some (ι.blk m)) c #[] c, ?_, ?_⟩
      · simp only [execOp, ho, hv ι nt a ha, ren, Instr.range, Sem.run_bind, run_und hu, Result.andThen_ok, run_getMap h1, Sem.run_pure]
        rw [hb, hs]
        rfl
      · exact ⟨by rw [hb]; exact heap_alloc_at _ _, hs⟩
    | _ => cases h
  · cases h
theorem nextB_ok {it : Operand} (ho : o.op = .next it false) (h : (nextB (evB it)).run call tm hp nx k = .ok) : OpTo P o tm hp nx k := by
  obtain ⟨v, h, hv⟩ := evB_ok h
  obtain ⟨id, off, rfl, g⟩ := asPtr_ok h
  obtain ⟨h0, g⟩ := ifK_ok g
  have h0 := beq_ok h0
  subst h0
  obtain ⟨ob, hob, g⟩ := getK_ok g
  obtain ⟨m, since, seen, at', rfl, g1⟩ := selIter_ok g
  obtain ⟨ob, hom, g2⟩ := getK_ok g1
  obtain ⟨es, c, rfl, g3⟩ := selMap_ok g2
  obtain ⟨hq, g4⟩ := ifK_ok g3
  rw [Bool.and_eq_true] at hq
  have hold := oldK_ok hq.1
  have hsc := ble_ok hq.2
  obtain ⟨hl, hz⟩ := eachLeft_ok g4
  intro B w0 nt a w ι hs G hn
  have hcore := fun ι' hι => hs.2 ι' hι
  obtain ⟨t1, c1⟩ := hcore ι (Agree.refl _ _)
  obtain ⟨i1, i2⟩ := c1.obj _ _ hob
  obtain ⟨E, m1, m2⟩ := c1.obj _ _ hom
  have hE : ∀ ι', Agree nx ι ι' → E.toList = es.map (entR ι') := fun ι' hι => by
    obtain ⟨E', m1', m2'⟩ := (hcore ι' hι).2.obj _ _ hom
    have hb := (hι m (hs.1.lt _ _ hom)).1
    rw [hb, m1] at m1'
    cases m1'
    exact m2'
  have hrun : (execOp a.eval o).run P w = ((Instr.next (.pointer (some ⟨ι.blk id, 0, none⟩)) false o.type).run P w).andThen fun v w => .ok (.value v) w := by
    simp only [execOp, ho, hv ι nt a t1, ren, i2, Nat.zero_add, Sem.run_bind, Sem.run_pure]
  have hval : ∀ ι', Agree nx ι ι' → ∀ e ∈ es, ren ι' e.key = ren ι e.key ∧ ren ι' e.val = ren ι e.val := by
    intro ι' hι e he
    have h1 := hE ι' hι
    rw [m2] at h1
    have := List.map_inj_left.1 h1 e he
    simp only [entR, MapEntry.mk.injEq] at this
    exact ⟨this.1.symm, this.2.1.symm⟩
  rcases run_next_at (P := P) w o.type (ι.blk id) (ι.blk m) since at' seen.reverse.toArray E c i1 m1 (fun x hx => by
      rw [m2] at hx
      obtain ⟨e, he, rfl⟩ := List.mem_map.1 hx
      exact hold e he) hsc with ⟨hleft, hr⟩ | ⟨e, he, w1, hw1, hr⟩
  · refine .inl ⟨.tuple #[.bool false], w, .inl (by rw [hrun, hr]; rfl), hn (.tup [.bool false]) hp nx ι _ w (hz rfl fun e he => ?_) hs.1 (Nat.le_refl _) (Agree.refl _ _) fun ι' hι => ⟨(hcore ι' hι).2, by simp [ren, renL]⟩⟩
    have hem : leftOf E seen.reverse.toArray = #[] := Array.eq_empty_of_size_eq_zero hleft
    unfold leftOf at hem
    rw [Array.filter_eq_empty_iff] at hem
    have := hem (entR ι e) (by rw [← Array.mem_toList_iff, m2]; exact List.mem_map.2 ⟨e, he, rfl⟩)
    simpa [entR] using this
  · unfold leftOf at he
    rw [Array.mem_toList_iff, Array.mem_filter] at he
    obtain ⟨he1, he2⟩ := he
    rw [← Array.mem_toList_iff, m2] at he1
    obtain ⟨e', he', rfl⟩ := List.mem_map.1 he1
    have hns : seen.contains e'.born = false := by simpa [entR] using he2
    have hk := hl e' he' hns
    rw [Tr.setK_eq] at hk
    have hw1h : w1.heap = w.heap := by rcases hw1 with rfl | rfl <;> rfl
    refine .inl ⟨_, _, .inl (by rw [hrun, hr]; rfl), hn (.tup [.bool true, e'.key, e'.val]) _ nx ι _ _ hk (swap_wf hs.1 hob rfl (fun _ _ h => by cases h) rfl (fun _ _ h => by cases h)) (Nat.le_refl _) (Agree.refl _ _) fun ι' hι => ?_⟩
    obtain ⟨t2, c2⟩ := hcore ι' hι
    have hbi := (hι id (hs.1.lt _ _ hob)).1
    have hbm := (hι m (hs.1.lt _ _ hom)).1
    obtain ⟨q1, q2⟩ := hval ι' hι e' he'
    refine ⟨?_, by simp only [ren, renL, entR, q1, q2]⟩
    have hblk := c2.base _ _ hob trivial
    rw [hbi] at hblk
    have hlt : ι.blk id < w.heap.size := (Array.getElem?_eq_some_iff.1 i1).1
    have hoth : ∀ b, b ≠ ι'.blk id → (Go.ChangeMaps.setBlock w1 (ι.blk id) (.mapIter (some (ι.blk m)) since (seen.reverse.toArray.push (entR ι e').born) c)).heap[b]? = w.heap[b]? := fun b hbne => by
      show (w1.heap.setIfInBounds _ _)[b]? = _
      rw [hw1h, Array.getElem?_setIfInBounds_ne (fun e => hbne (by rw [hbi]; exact e.symm))]
    refine swap_core hob rfl (fun _ _ h => by cases h) rfl (fun _ _ h => by cases h) c2 ?_ (fun k hk => by
      show k < (w1.heap.setIfInBounds _ _).size
      rw [hw1h, Array.size_setIfInBounds]
      exact c2.room k hk) hoth ⟨?_, (c2.obj _ _ hob).2⟩
    · refine c2.below.trans ⟨?_, ?_, ?_, ?_, fun b hb' => hoth b (fun e => hblk (by rw [← hbi, ← e]; exact hb'))⟩
      · rcases hw1 with rfl | rfl <;> rfl
      · rcases hw1 with rfl | rfl <;> rfl
      · rcases hw1 with rfl | rfl <;> rfl
      · show w.heap.size ≤ (w1.heap.setIfInBounds _ _).size
        rw [hw1h, Array.size_setIfInBounds]
        exact Nat.le_refl _
    · show (w1.heap.setIfInBounds _ _)[ι'.blk id]? = _
      rw [hbi, hbm, hw1h]
      simp [hlt, entR]
theorem run_getIter {w : World} {b : Nat} {m : Option Nat} {s : Nat} {l : Array Nat} {c : Nat} (h : w.heap[b]? = some (.mapIter m s l c)) : (getObj b).run P w = .ok (.mapIter m s l c) w := by
  simp [getObj, Sem.run, h]
theorem bornF_ok {b : Nat} {kk : ME → Rs} : ∀ {es : List ME}, bornF b es kk = .ok → ∃ e, es.find? (fun e => e.born == b) = some e ∧ kk e = .ok
  | [], h => by cases h
  | x :: es, h => by
    have h : ifK (Nat.beq x.born b) (kk x) (bornF b es kk) = .ok := h
    rw [List.find?_cons]
    rcases ifK_two h with ⟨hb, h⟩ | ⟨hb, h⟩
    · have := beq_ok hb
      exact ⟨x, by rw [this]; simp, h⟩
    · obtain ⟨e, h1, h2⟩ := bornF_ok h
      have hne : (x.born == b) = false := by
        rw [beq_eq_false_iff_ne]
        intro e
        rw [e, Nat.beq_refl] at hb; cases hb
      exact ⟨e, by rw [hne]; exact h1, h2⟩
theorem entryAtB_ok {it : Operand} (ho : o.op = .entry it) (h : (entryAtB (evB it)).run call tm hp nx k = .ok) : OpTo P o tm hp nx k := by
  obtain ⟨v, h, hv⟩ := evB_ok h
  obtain ⟨id, off, rfl, g⟩ := asPtr_ok h
  obtain ⟨h0, g⟩ := ifK_ok g
  have h0 := beq_ok h0
  subst h0
  obtain ⟨ob, hob, g⟩ := getK_ok g
  obtain ⟨m, since, seen, at', rfl, g1⟩ := selIter_ok g
  obtain ⟨ob, hom, g2⟩ := getK_ok g1
  obtain ⟨es, c, rfl, g3⟩ := selMap_ok g2
  obtain ⟨hq, g4⟩ := ifK_ok g3
  have hq := beq_ok hq
  subst hq
  cases seen with
  | nil => cases g4
  | cons b seen =>
    obtain ⟨e, he, g5⟩ := bornF_ok (kk := fun e => k (.tup [e.key, e.val]) hp nx) g4
    refine ValTo.to ⟨_, g5, fun B w0 ι nt a w ha hc => ?_⟩
    obtain ⟨i1, i2⟩ := hc.obj _ _ hob
    obtain ⟨E, m1, m2⟩ := hc.obj _ _ hom
    have hf : E.find? (fun x => x.born == b) = some (entR ι e) := by
      rw [← Array.find?_toList, m2, List.find?_map]
      show (es.find? (fun e => e.born == b)).map _ = _
      rw [he]; rfl
    have hb : (seen.reverse ++ [b]).toArray.back? = some b := by simp
    have i1 : w.heap[ι.blk id]? = some (.mapIter (some (ι.blk m)) since (seen.reverse ++ [b]).toArray c) := by rw [i1, List.reverse_cons]
    simp only [execOp, ho, hv ι nt a ha, ren, i2, Nat.zero_add, Instr.entry, Sem.run_bind, run_getIter i1, run_getMap m1, Result.andThen_ok, hb, bne_self_eq_false, Bool.false_eq_true, if_false, hf, Sem.run_pure]
    simp [renL, entR]
end
end Go.Rex
namespace Go.Rex
open Go.RowKit
set_option linter.unusedSimpArgs false
set_option linter.unusedVariables false
section
variable {P : Program} {call : CallT}
theorem selLoop_ok {o : AO} {kk : Nat → Nat → Tm → Array Tmp → Code → Code → LS → Rs} (h : selLoop o kk = .ok) : ∃ f nt tm ps x y st, o = .loop f nt tm ps x y st ∧ kk f nt tm ps x y st = .ok := by
  cases o with
  | loop f nt tm ps x y st => exact ⟨f, nt, tm, ps, x, y, st, rfl, h⟩
  | _ => cases h
theorem isReady_ok {st : LS} {r : Rs} (h : isReady st r = .ok) : st = .ready ∧ r = .ok := by
  cases st with
  | ready => exact ⟨rfl, h⟩
  | _ => cases h
theorem loopSet_ok {id : Pz} {st : LS} {hp : Tr AO} {k : Tr AO → Rs} (h : loopSet id st hp k = .ok) : ∃ f nt tm ps x y st0, hp.get id = some (.loop f nt tm ps x y st0) ∧ k (hp.set id (.loop f nt tm ps x y st)) = .ok := by
  obtain ⟨o, ho, h⟩ := getK_ok h
  obtain ⟨f, nt, tm, ps, x, y, st0, rfl, g⟩ := selLoop_ok h
  rw [Tr.setK_eq] at g
  exact ⟨f, nt, tm, ps, x, y, st0, ho, g⟩
theorem getD_set' (xs : Array Value) (i j : Nat) (v d : Value) (h : i < xs.size) : (xs.setIfInBounds i v).getD j d = if j = i then v else xs.getD j d := getD_set xs i j v d h
theorem paramsK_ok {nt : Nat} {k : Tm → Rs} : ∀ (ps : List Tmp) (vs : List AV) (tm : Tm), paramsK nt ps vs tm k = .ok → ∃ tm', k tm' = .ok ∧ tm'.ml = tm.ml ∧ ps.length = vs.length ∧
    ∀ ι (tmps : Array Value), tmps.size = nt → (∀ t, tmps.getD t undef = ren ι (tm.at t)) → ((ps.zip (renL ι vs)).foldl (fun t (p : Tmp × Value) => t.setIfInBounds p.1 p.2) tmps).size = nt ∧ ∀ t, ((ps.zip (renL ι vs)).foldl (fun t (p : Tmp × Value) => t.setIfInBounds p.1 p.2) tmps).getD t undef = ren ι (tm'.at t)
  | [], [], tm, h => ⟨tm, h, rfl, rfl, fun ι tmps h1 h2 => ⟨h1, h2⟩⟩
  | [], _ :: _, tm, h => by cases h
  | _ :: _, [], tm, h => by cases h
  | p :: ps, v :: vs, tm, h => by
    have h : ifK (Nat.blt p nt) ((setS p).run tm v fun tm => paramsK nt ps vs tm k) (.bad 286) = .ok := h
    obtain ⟨hp, h⟩ := ifK_ok h
    have hp := blt_ok hp
    rw [setS_eq] at h
    obtain ⟨tm', hk, hml, hl, hrest⟩ := paramsK_ok ps vs _ h
    refine ⟨tm', hk, by rw [hml, Tm.put_ml], by simp [hl], fun ι tmps h1 h2 => ?_⟩
    simp only [renL, List.zip_cons_cons, List.foldl_cons]
    refine hrest ι _ (by rw [Array.size_setIfInBounds]; exact h1) fun t => ?_
    rw [getD_set _ _ _ _ _ (by rw [h1]; exact hp)]
    by_cases ht : t = p
    · subst ht; rw [if_pos rfl, Tm.at_put_same]
    · rw [if_neg ht, Tm.at_put_ne ht]; exact h2 t
/-- The record of a loop is turned. -/
theorem loop_put {B : Nat → Prop} {w0 w : World} {hp : Tr AO} {nx : Pz} {ι : En} {id : Pz} {f nt : Nat} {tm : Tm} {ps : Array Tmp} {x y : Code} {st0 : LS} (hw : Wf hp nx) (ho : hp.get id = some (.loop f nt tm ps x y st0)) (hc : ∀ ι', Agree nx ι ι' → Core B w0 ι' hp w) (st : LS) :
    ∃ r : Loop, w.heap[ι.blk id]? = some (.loop r) ∧ r.state = stOf st0 ∧ r.pending = pendOf st0 ∧ Wf (hp.set id (.loop f nt tm ps x y st)) nx ∧ ∀ ι', Agree nx ι ι' → Core B w0 ι' (hp.set id (.loop f nt tm ps x y st)) (w.putObj (ι.blk id) (.loop { r with state := stOf st, pending := pendOf st })) := by
  obtain ⟨fnC, tmps, D, h1, h2, h3, h4⟩ := (hc ι (Agree.refl _ _)).obj _ _ ho
  have hlt : ι.blk id < w.heap.size := (Array.getElem?_eq_some_iff.1 h1).1
  refine ⟨_, h1, rfl, rfl, swap_wf hw ho rfl (fun _ _ h => by cases h) rfl (fun _ _ h => by cases h), fun ι' hι => ?_⟩
  have c1 := hc ι' hι
  have hbi := (hι id (hw.lt _ _ ho)).1
  have hbase := c1.base _ _ ho trivial
  rw [hbi] at hbase
  obtain ⟨fnC', tmps', D', q1, q2, q3, q4⟩ := c1.obj _ _ ho
  rw [hbi, h1] at q1
  cases q1
  have hoth : ∀ b, b ≠ ι'.blk id → (w.putObj (ι.blk id) (.loop { state := stOf st, pending := pendOf st, fn := fnC, tmps := tmps, params := ps, assign := x, body := y, defers := D })).heap[b]? = w.heap[b]? := fun b hbne => World.putObj_heap_other (fun e => hbne (by rw [hbi]; exact e))
  refine swap_core ho rfl (fun _ _ h => by cases h) rfl (fun _ _ h => by cases h) c1 (c1.below.trans ⟨rfl, rfl, rfl, by simp, fun b hb' => hoth b (fun e => hbase (by rw [← hbi, ← e]; exact hb'))⟩) (fun k hk => by simp; exact c1.room k hk) hoth ?_
  exact ⟨fnC, tmps, D, by rw [hbi]; exact World.putObj_heap_same hlt, q2, q3, q4⟩
theorem yield_ok (hcode : CodeOk P call) : YieldOk P call := by
  intro j vs hp nx k h B w0 w ι cargs hw hc G hG
  have hpred : Nat.pred j = j - 1 := rfl
  unfold yieldB at h
  rw [hpred] at h
  generalize hid : natPz (j - 1) = id at h ⊢
  obtain ⟨o, ho, h⟩ := getK_ok h
  obtain ⟨f, nt, tm, ps, x, y, st, rfl, g⟩ := selLoop_ok h
  obtain ⟨hno, g⟩ := ifK_ok g
  rw [Bool.and_eq_true] at hno
  obtain ⟨tm', g, hml, hlen, hpar⟩ := paramsK_ok _ _ _ g
  have hidlt := hw.lt _ _ ho
  have hc0 := fun ι' hι => (hc ι' hι).1
  obtain ⟨fnC, tmps, D, h1, h2, h3, h4⟩ := (hc0 ι (Agree.refl _ _)).obj _ _ ho
  have hcargs : ∀ ι', Agree nx ι ι' → cargs = (renL ι' vs).toArray := fun ι' hι => (hc ι' hι).2
  have hfold : ∀ ι', Agree nx ι ι' → (ps.zip cargs).foldl (fun tmps (t, a) => tmps.setIfInBounds t a) tmps = (ps.toList.zip (renL ι' vs)).foldl (fun t (p : Tmp × Value) => t.setIfInBounds p.1 p.2) tmps := fun ι' hι => by
    rw [hcargs ι' hι, ← Array.foldl_toList, Array.toList_zip]
  have hsat : Sat B w0 nt tm' hp nx ι { tmps := (ps.zip cargs).foldl (fun tmps (t, a) => tmps.setIfInBounds t a) tmps, defers := [] } w := by
    refine ⟨hw, fun ι' hι => ⟨?_, hc0 ι' hι⟩⟩
    obtain ⟨fnC', tmps', D', q1, q2, q3, q4⟩ := (hc0 ι' hι).obj _ _ ho
    rw [(hι id hidlt).1, h1] at q1
    cases q1
    obtain ⟨e1, e2⟩ := hpar ι' tmps q2 q4
    refine ⟨?_, by rw [hml, q3]; rfl, fun t => ?_⟩
    · show ((ps.zip cargs).foldl _ tmps).size = nt
      rw [hfold ι' hι]; exact e1
    · show ((ps.zip cargs).foldl _ tmps).getD t undef = _
      rw [hfold ι' hι]; exact e2 t
  have hrun := run_yield (P := P) (args := cargs) h1 (by rw [hcargs ι (Agree.refl _ _)]; simp [renL_length, ← hlen])
  refine .inr (.inr ⟨_, _, _, _, _, w, hrun, roundIn_of_wpIn (F := Fence.wide) (n := 0) trivial ?_⟩)
  refine hcode f nt x tm' hp nx _ g hno.1 (ι.blk id) B w0 w ι _ hsat _ (fun e tm1 hp1 nx1 ι1 a1 w1 hk1 hle1 ha1 hs1 => ?_)
  cases e with
  | ext i => cases hk1
  | ret => cases hk1
  | nrm =>
    have hk1 : hp1.getK id (.bad 284) (fun o => selLoop o fun _ _ _ _ _ _ st => isReady st (loopSet id .busy hp1 fun hp =>
        call.code f nt y tm1 hp nx1 fun e _ hp nx => Ex.rec (motive := fun _ => Rs)
          (loopSet id .ready hp fun hp => k (.bool true) hp nx)
          (fun i => loopSet id (.done (.ext i)) hp fun hp => k (.bool false) hp nx)
          (loopSet id (.done .ret) hp fun hp => k (.bool false) hp nx) e)) = .ok := hk1
    obtain ⟨o1, ho1, hk1⟩ := getK_ok hk1
    obtain ⟨f1, nt1, tmx, ps1, x1, y1, st1, rfl, g1⟩ := selLoop_ok hk1
    obtain ⟨rfl, g1⟩ := isReady_ok g1
    obtain ⟨f2, nt2, tm2, ps2, x2, y2, st2, ho2, g2⟩ := loopSet_ok g1
    rw [ho1] at ho2
    cases ho2
    have hb1 : ι1.blk id = ι.blk id := (ha1 id hidlt).1
    obtain ⟨r, r1, r2, r3, hw2, hc2⟩ := loop_put hs1.1 ho1 (fun ι' hι => (hs1.2 ι' hι).2) .busy
    rw [hb1] at r1 hc2
    have hbeg := run_beginRound (P := P) r1 r2
    have hreq : ({ r with state := stOf .busy, pending := pendOf .busy } : Loop) = { r with state := .busy } := by
      have : r.pending = none := r3
      rw [this]; rfl
    rw [hreq] at hc2
    refine ⟨_, hbeg, ?_⟩
    refine hcode f nt y tm1 _ nx1 _ g2 hno.2 (ι.blk id) B w0 _ ι1 a1 ⟨hw2, fun ι' hι => ⟨(hs1.2 ι' hι).1, hc2 ι' hι⟩⟩ _ (fun e tm3 hp3 nx3 ι3 a3 w3 hk3 hle3 ha3 hs3 => ?_)
    have hb3 : ι3.blk id = ι.blk id := ((ha1.trans ha3 hle1) id hidlt).1
    have fin : ∀ (st : LS) (jump : Option Code) (b : Bool), stOf st = (if jump.isNone then .ready else .done) → pendOf st = jump → jump.isNone = b → loopSet id st hp3 (fun hp => k (.bool b) hp nx3) = .ok →
        ∃ v w4, (Instr.endRound (ι.blk id) jump).run P w3 = .ok v w4 ∧ ∃ cv, Ending.returned v = .returned cv ∧ G cv w4 := by
      intro st jump b e1 e2 e3 hl
      obtain ⟨f4, nt4, tm4, ps4, x4, y4, st4, ho4, g4⟩ := loopSet_ok hl
      obtain ⟨r', q1, q2, q3, hw4, hc4⟩ := loop_put hs3.1 ho4 (fun ι' hι => (hs3.2 ι' hι).2) st
      rw [hb3] at q1 hc4
      rw [e1, e2] at hc4
      refine ⟨_, _, run_endRound jump q1, .bool b, by rw [e3], ?_⟩
      exact hG (.bool b) _ nx3 ι3 _ _ g4 hw4 (Nat.le_trans hle1 hle3) (ha1.trans ha3 hle1) fun ι' hι => ⟨hc4 ι' hι, by simp [ren]⟩
    cases e with
    | nrm => exact fin .ready none true rfl rfl rfl hk3
    | ext i => exact fin (.done (.ext i)) (some (.exit i)) false rfl rfl rfl hk3
    | ret => exact fin (.done .ret) (some .ret) false rfl rfl rfl hk3
theorem loop_gone {B : Nat → Prop} {w0 w : World} {hp : Tr AO} {nx : Pz} {ι : En} {id : Pz} {f nt : Nat} {tm : Tm} {ps : Array Tmp} {x y : Code} {st0 : LS} (hw : Wf hp nx) (ho : hp.get id = some (.loop f nt tm ps x y st0)) (hc : ∀ ι', Agree nx ι ι' → Core B w0 ι' hp w) :
    ∃ r : Loop, w.heap[ι.blk id]? = some (.loop r) ∧ r.state = stOf st0 ∧ r.pending = pendOf st0 ∧ Wf (hp.set id .gone) nx ∧ ∀ o ι', Agree nx ι ι' → Core B w0 ι' (hp.set id .gone) (w.putObj (ι.blk id) o) := by
  obtain ⟨fnC, tmps, D, h1, h2, h3, h4⟩ := (hc ι (Agree.refl _ _)).obj _ _ ho
  have hlt : ι.blk id < w.heap.size := (Array.getElem?_eq_some_iff.1 h1).1
  refine ⟨_, h1, rfl, rfl, swap_wf hw ho rfl (fun _ _ h => by cases h) rfl (fun _ _ h => by cases h), fun o ι' hι => ?_⟩
  have c1 := hc ι' hι
  have hbi := (hι id (hw.lt _ _ ho)).1
  have hbase := c1.base _ _ ho trivial
  rw [hbi] at hbase
  have hoth : ∀ b, b ≠ ι'.blk id → (w.putObj (ι.blk id) o).heap[b]? = w.heap[b]? := fun b hbne => World.putObj_heap_other (fun e => hbne (by rw [hbi]; exact e))
  refine swap_core ho rfl (fun _ _ h => by cases h) rfl (fun _ _ h => by cases h) c1 (c1.below.trans ⟨rfl, rfl, rfl, by simp, fun b hb' => hoth b (fun e => hbase (by rw [← hbi, ← e]; exact hb'))⟩) (fun k hk => by simp; exact c1.room k hk) hoth ?_
  show ((w.putObj (ι.blk id) o).heap[ι'.blk id]?).isSome = true
  rw [hbi, World.putObj_heap_same hlt]; rfl
theorem pzNum_num (p : Pz) : pzNum p = p.num := by
  induction p with
  | h => rfl
  | o p ih => show 2 * pzNum p = 2 * p.num; rw [ih]
  | i p ih => show 2 * pzNum p + 1 = 2 * p.num + 1; rw [ih]
theorem natPz_of_num (p : Pz) : natPz (p.num - 1) = p := by
  have := Pz.num_pos p
  apply Pz.num_inj
  have h := natPzF_num (p.num - 1 + 1) (p.num - 1 + 1) (by omega) (by omega)
  unfold natPz
  rw [h]; omega
theorem bodied_ok {g : Nat} (h : bodied P g = true) : ∃ fn, P.funcs[g]? = some fn ∧ fn.body.isNone = false ∧ (fn.name == "runtime.NumGoroutine") = false := by
  unfold bodied at h
  cases hf : P.funcs[g]? with
  | none => rw [hf] at h; cases h
  | some fn =>
    rw [hf] at h
    simp only [Bool.and_eq_true, Bool.not_eq_true'] at h
    exact ⟨fn, rfl, h.1, h.2⟩
theorem gives_enter {f : Nat} {fn : Func} {args : Array Value} {w : World} {G : Value → World → Prop} (hf : P.funcs[f]? = some fn) (hb : fn.body.isNone = false) (hn : (fn.name == "runtime.NumGoroutine") = false) (h : Gives P (callFunc f args) w G) :
    (callFunc f args).run P w = .ok (.enter f args) w ∧ Calls P f args w fun e w' => ∃ cv, e = .returned cv ∧ G cv w' := by
  have hrun : (callFunc f args).run P w = .ok (.enter f args) w := by
    simp only [callFunc, Sem.run_bind, run_program, Result.andThen_ok, hf, hn, hb, Bool.false_eq_true, if_false, Sem.run_pure]
  refine ⟨hrun, ?_⟩
  rcases h with ⟨cv, w', h | ⟨h, _⟩, _⟩ | ⟨f', args', w', h, hc⟩ | ⟨l, f', tmps, x, y, w', h, _⟩
  · rw [hrun] at h; cases h
  · rw [hrun] at h; cases h
  · rw [hrun] at h
    cases h
    exact hc
  · rw [hrun] at h; cases h
theorem tm_at_ml (tm : Tm) (l : List Pz) (t : Nat) : (⟨tm.lo, tm.hi, l⟩ : Tm).at t = tm.at t := rfl
/-- The statement. -/
theorem range_ok (hcall : CallOk P call) : RangeOk P call := by
  intro fid nt g ps x y tm hp nx K h hnx hny B w0 w ι a hs Q hn
  unfold rangeFuncB at h
  obtain ⟨fv, h, hfv⟩ := evB_ok h
  cases fv with
  | func fn first captured =>
    cases fn with
    | func gf =>
      cases first with
      | cons v vs => cases h
      | nil =>
        obtain ⟨hbd, g1⟩ := ifK_ok h
        obtain ⟨fn, q1, q2, q3⟩ := bodied_ok hbd
        rw [newObj_eq] at g1
        rw [newObj_eq] at g1
        refine wpIn_rangeFunc fun fnC _ => ?_
        obtain ⟨rec, hrec⟩ : ∃ rec : Loop, rec = { state := .ready, pending := none, fn := fnC, tmps := a.tmps, params := ps, assign := x, body := y, defers := w.heap.size } := ⟨_, rfl⟩
        obtain ⟨w1, hw1⟩ : ∃ w1, w1 = w.alloc (.deferred (some [])) := ⟨_, rfl⟩
        obtain ⟨w2, hw2⟩ : ∃ w2, w2 = w1.alloc (.loop rec) := ⟨_, rfl⟩
        have hsz1 : w1.heap.size = w.heap.size + 1 := by rw [hw1]; simp
        obtain ⟨ι2, hι2⟩ : ∃ ι2, ι2 = (ι.at nx w.heap.size 0 0).at nx.succ (w.heap.size + 1) 0 0 := ⟨_, rfl⟩
        have hnames : ∀ ι', Agree nx.succ.succ ι2 ι' → Agree nx ι ι' ∧ ι'.blk nx = w.heap.size ∧ ι'.blk nx.succ = w.heap.size + 1 := fun ι' hι => by
          rw [hι2] at hι
          obtain ⟨p1, p2, _, _⟩ := agree_at' hι
          obtain ⟨p3, p4, _, _⟩ := agree_at' p1
          exact ⟨p3, p4, p2⟩
        have hcore : ∀ ι', Agree nx.succ.succ ι2 ι' → Core B w0 ι' ((hp.set nx .dmark).set nx.succ (.loop fid nt ⟨tm.lo, tm.hi, []⟩ ps x y .ready)) w2 := fun ι' hι => by
          obtain ⟨n1, n2, n3⟩ := hnames ι' hι
          obtain ⟨t1, c1⟩ := hs.2 ι' n1
          have d1 : Core B w0 ι' (hp.set nx .dmark) w1 := by
            rw [hw1]
            refine core_new hs.1 c1 n2 rfl (fun _ _ h => by cases h) ?_
            show (w.alloc (.deferred (some []))).heap[ι'.blk nx]? = _
            rw [n2]; exact heap_alloc_at _ _
          rw [hw2]
          refine core_new (wf_new hs.1 rfl (fun _ _ h => by cases h)) d1 (by rw [n3, hsz1]) rfl (fun _ _ h => by cases h) ?_
          refine ⟨fnC, a.tmps, w.heap.size, ?_, t1.size, rfl, fun t => t1.val t⟩
          rw [n3, ← hsz1, heap_alloc_at, hrec]
          rfl
        have hwf : Wf ((hp.set nx .dmark).set nx.succ (.loop fid nt ⟨tm.lo, tm.hi, []⟩ ps x y .ready)) nx.succ.succ := wf_new (wf_new hs.1 rfl (fun _ _ h => by cases h)) rfl (fun _ _ h => by cases h)
        have hcapt : ∀ ι', Agree nx ι ι' → renL ι' captured = renL ι captured := fun ι' hι => by
          obtain ⟨t1, _⟩ := hs.2 ι (Agree.refl _ _)
          obtain ⟨t2, _⟩ := hs.2 ι' hι
          have e1 := hfv ι nt a t1
          have e2 := hfv ι' nt a t2
          rw [e1] at e2
          simp only [ren, Value.func.injEq, Array.mk.injEq, true_and] at e2
          exact e2.2.symm.elim (fun p _ => p.symm)
        have hargs : ∀ ι', Agree nx.succ.succ ι2 ι' → (#[Value.func (.yield (w.heap.size + 1)) #[] #[]] ++ (renL ι captured).toArray) = (renL ι' (.func (.yield (pzNum nx.succ)) [] [] :: captured)).toArray := fun ι' hι => by
          obtain ⟨n1, n2, n3⟩ := hnames ι' hι
          simp only [renL, ren, renFn, pzNum_num, natPz_of_num, n3, hcapt ι' n1]
          simp
        have hev : a.eval g = .func (.func gf) #[] (renL ι captured).toArray := by
          obtain ⟨t1, _⟩ := hs.2 ι (Agree.refl _ _)
          rw [hfv ι nt a t1]
          simp [ren, renFn, renL]
        obtain ⟨G, hG⟩ : ∃ G : Value → World → Prop, G = fun _ w' => ∃ v hp' nx' ι3, (hp'.getK nx.succ (.bad 284) fun o => selLoop o fun _ _ _ _ _ _ st => hp'.setK nx.succ .gone fun hp =>
            LS.rec (motive := fun _ => Rs) (K .nrm ⟨tm.lo, tm.hi, nx :: tm.ml⟩ hp nx') (.bad 287) (fun e => Ex.rec (motive := fun _ => Rs) (.bad 287) (fun i => K (.ext i) ⟨tm.lo, tm.hi, nx :: tm.ml⟩ hp nx') (K .ret ⟨tm.lo, tm.hi, nx :: tm.ml⟩ hp nx') e) st) = .ok ∧
              Wf hp' nx' ∧ nx.succ.succ.num ≤ nx'.num ∧ Agree nx.succ.succ ι2 ι3 ∧ (∀ ι', Agree nx' ι3 ι' → Core B w0 ι' hp' w') ∧ v = (v : AV) := ⟨_, rfl⟩
        obtain ⟨hrun, hcalls⟩ := gives_enter q1 q2 q3 (hcall.1 gf _ _ _ _ g1 B w0 w2 ι2 _ hwf (fun ι' hι => ⟨hcore ι' hι, hargs ι' hι⟩) G (fun v hp' nx' ι3 cv w' k1 k2 k3 k4 k5 => by
          rw [hG]
          exact ⟨v, hp', nx', ι3, k1, k2, k3, k4, fun ι' hι => (k5 ι' hι).1, rfl⟩))
        refine ⟨w.heap.size + 1, [{ target := .collected w.heap.size, args := #[] }], w2, { target := .fn (.func gf) (renL ι captured).toArray, args := #[.func (.yield (w.heap.size + 1)) #[] #[]] }, w2, gf, #[Value.func (.yield (w.heap.size + 1)) #[] #[]] ++ (renL ι captured).toArray, w2, ?_, ?_, fun _ _ => trivial, ?_, fw_depth, ?_⟩
        · have := run_enterLoop_outer (P := P) (w := w) fnC a.tmps ps x y
          rw [hw2, hw1, hrec]
          exact this
        · simp only [resolve, rangeCall, hev, Deferred.ofValue, Sem.run_pure]
          simp [Act.eval]
        · simp only [invoke]
          exact hrun
        · refine CallsIn.mono (fw_calls hcalls none _) fun e w3 he => ?_
          obtain ⟨cv, rfl, hg⟩ := he
          rw [hG] at hg
          obtain ⟨v, hp', nx', ι3, k1, k2, k3, k4, k5, _⟩ := hg
          obtain ⟨o, ho, k1⟩ := getK_ok k1
          obtain ⟨f4, nt4, tm4, ps4, x4, y4, st, rfl, k6⟩ := selLoop_ok k1
          rw [Tr.setK_eq] at k6
          obtain ⟨r, r1, r2, r3, hwf3, hc3⟩ := loop_gone k2 ho k5
          obtain ⟨n1, n2, n3⟩ := hnames ι3 k4
          rw [n3] at r1 hc3
          have hle : nx.num ≤ nx'.num := by rw [Pz.num_succ, Pz.num_succ] at k3; omega
          have hsat : ∀ o, Sat B w0 nt ⟨tm.lo, tm.hi, nx :: tm.ml⟩ (hp'.set nx.succ .gone) nx' ι3 { a with defers := [{ target := .collected w.heap.size, args := #[] }] ++ a.defers } (w3.putObj (w.heap.size + 1) o) := fun o => by
            refine ⟨hwf3, fun ι' hι => ⟨?_, hc3 o ι' hι⟩⟩
            have hag : Agree nx.succ.succ ι2 ι' := k4.trans hι k3
            obtain ⟨m1, m2, m3⟩ := hnames ι' hag
            obtain ⟨t1, _⟩ := hs.2 ι' m1
            refine ⟨t1.size, ?_, fun t => t1.val t⟩
            show [{ target := .collected w.heap.size, args := #[] }] ++ a.defers = marks ι' (nx :: tm.ml)
            rw [t1.defers]
            simp only [marks, List.map_cons, m2, markOf]
            rfl
          cases st with
          | busy => cases k6
          | ready =>
            refine ⟨_, _, run_endLoop r1 (by rw [r2]; simp [stOf]), ?_⟩
            rw [r3]
            exact hn .nrm _ _ nx' ι3 _ _ k6 hle n1 (hsat _)
          | done e =>
            cases e with
            | nrm => cases k6
            | ext i =>
              refine ⟨_, _, run_endLoop r1 (by rw [r2]; simp [stOf]), ?_⟩
              rw [r3]
              exact wpIn_exit (hn (.ext i) _ _ nx' ι3 _ _ k6 hle n1 (hsat _))
            | ret =>
              refine ⟨_, _, run_endLoop r1 (by rw [r2]; simp [stOf]), ?_⟩
              rw [r3]
              exact wpIn_ret (hn .ret _ _ nx' ι3 _ _ k6 hle n1 (hsat _))
    | _ => cases h
  | _ => cases h
end
end Go.Rex
namespace Go.Rex
open Go.RowKit
set_option linter.unusedSimpArgs false
set_option linter.unusedVariables false
section
variable {P : Program} {o : Oper} {tm : Tm} {hp : Tr AO} {nx : Pz} {k : AV → Tr AO → Pz → Rs} {call : CallT}
theorem bad_run {n : Nat} {p : Prop} (h : (badB n).run call tm hp nx k = .ok) : p := by cases h
theorem light_ok (hl : lightK P o = true) (h : (opB P o).run call tm hp nx k = .ok) : ValTo P o tm hp nx k := by
  unfold lightK at hl
  unfold opB at h
  cases hop : o.op with
  | move x => rw [hop] at h; exact move_ok (.inl hop) h
  | assign x => rw [hop] at h; exact move_ok (.inr hop) h
  | pick c x y => rw [hop] at h; exact pick_ok hop h
  | build t ps =>
    rw [hop] at h
    simp only at h
    split at h
    · rename_i hz hu
      split at h
      · rename_i hp'; exact buildS_ok hop hz hu hp' h
      · exact bad_run h
    · rename_i hz hu
      split at h
      · rename_i hi; exact buildA_ok hop hz hu hi h
      · exact bad_run h
    · exact bad_run h
  | load t x =>
    rw [hop] at h
    simp only at h
    split at h
    · rename_i hk ht; exact load_agg_ok hop ht h
    · rename_i hk ht; exact load_one_ok hop hk ht h
    · exact bad_run h
  | nilCheck x =>
    rw [hop] at h
    obtain ⟨v, h, hv⟩ := evB_ok (tm := tm) (k := fun v => selPF v (.bad 136) (fun p o => k (.ptr p o) hp nx) fun f a b => match f with
      | .func f => k (.func (.func f) a b) hp nx
      | _ => .bad 136) h
    cases v with
    | ptr p q => exact val_to (fun B w0 ι nt a w ha hcc => by simp only [execOp, hop]; rw [hv ι nt a ha]; simp [ren]) h
    | func fn u1 u2 =>
      cases fn with
      | func f => exact val_to (v := .func (.func f) u1 u2) (fun B w0 ι nt a w ha hcc => by simp only [execOp, hop]; rw [hv ι nt a ha]; simp [ren, renFn]) h
      | _ => cases h
    | _ => cases h
  | binOp op t x y yt =>
    rw [hop] at h
    simp only at h
    split at h
    · rename_i hg; exact binOp_ok hop hg h
    · exact bad_run h
  | unOp op t x => rw [hop] at h; exact unOp_ok hop h
  | makeFunc fn a b =>
    rw [hop] at h
    simp only at h
    split at h
    · rename_i hfn; exact makeFunc_ok hfn hop h
    · exact bad_run h
  | fieldAddr t x f =>
    rw [hop] at h
    simp only at h
    split at h
    · rename_i hf
      split at h
      · rename_i hz; exact fieldAddr_ok hop hf hz h
      · exact bad_run h
    · exact bad_run h
  | field t x f =>
    rw [hop] at h
    simp only at h
    split at h
    · rename_i hf
      split at h
      · exact bad_run h
      · rename_i hk ht
        obtain ⟨v, h, hv⟩ := evB_ok (tm := tm) h
        cases v with
        | agg cs =>
          obtain ⟨h1, h⟩ := dropK_ok _ h
          obtain ⟨h2, h⟩ := takeK_ok _ h
          exact field_ok hop hf hv (part_agg ht) h
        | _ => cases h
      · rename_i hk ht
        obtain ⟨v, h, hv⟩ := evB_ok (tm := tm) h
        cases v with
        | agg cs =>
          obtain ⟨u, hu, h⟩ := nthK_ok _ h
          exact field_ok hop hf hv (part_one hk ht hu) h
        | _ => cases h
    · exact bad_run h
  | indexAddr t x i =>
    rw [hop] at h
    simp only at h
    split at h
    · rename_i hu
      split at h
      · rename_i hi
        exact indexSlice_ok hop hu ⟨_, hi⟩ h
      · exact bad_run h
    · rename_i hu
      split at h
      · rename_i hi; exact indexArr_ok hop hu ⟨_, hi⟩ h
      · exact bad_run h
    · exact bad_run h
  | index t x i =>
    rw [hop] at h
    simp only at h
    split at h
    · rename_i hu
      simp only [selStr_eq] at h
      exact indexStr_ok hop hu h
    · exact bad_run h
  | lookup t m i ok =>
    rw [hop] at h
    simp only [lookupB] at h
    split at h
    · rename_i hu
      split at h
      · rename_i hz; exact lookup_ok hop hu hz h
      · exact bad_run h
    · exact bad_run h
  | makeInterface t x =>
    rw [hop] at h
    simp only at h
    split at h
    · exact bad_run h
    · rename_i d hni hu; exact makeIface_ok hop hu (fun ms e => hni ms e) h
    · exact bad_run h
  | extract x i =>
    rw [hop] at h
    simp only [selTup_eq] at h
    exact extract_ok hop h
  | convert s t x =>
    rw [hop] at h hl
    simp only [convB] at h hl
    split at hl
    · rename_i hs ht; rw [hs, ht] at h; exact convInt_ok hop hs ht h
    · rename_i hs ht; rw [hs, ht] at h; exact convStr_ok hop hs ht h
    · rename_i hs ht
      rw [hs, ht] at h
      simp only at h
      split at h
      · rename_i he; exact convBytes_ok hop hs ht he h
      · exact bad_run h
    · cases hl
  | slice t x lo hi mx =>
    rw [hop] at h hl
    cases mx with
    | some m => cases hl
    | none =>
      simp only [sliceK] at h hl
      split at hl
      · rename_i hu
        rw [hu] at h
        simp only [selStr_eq] at h
        exact sliceStr_ok hop hu h
      · cases hl
  | call c =>
    rw [hop] at h hl
    simp only [callB] at h hl
    split at hl
    · rename_i hc
      rw [hc] at h
      generalize hats : c.argTypes.toList = ats at h
      generalize hx : c.args.toList = xs at h
      match ats, xs, hats, hx, h with
      | t :: ts, [x], hats, hx, h => exact len_ok (ats := #[]) hop hc hats hx h
      | [], _, _, _, h => cases h
      | _ :: _, [], _, _, h => cases h
      | _ :: _, _ :: _ :: _, _, _, h => cases h
    · rename_i hc
      rw [hc] at h
      generalize hats : c.argTypes.toList = ats at h
      generalize hx : c.args.toList = xs at h
      match ats, xs, hats, hx, h with
      | _, [x, y], hats, hx, h => exact min_ok (mx := false) hop hc hx h
      | [], [], _, _, h => cases h
      | _ :: _, [], _, _, h => cases h
      | [], [_], _, _, h => cases h
      | _ :: _, [_], _, _, h => cases h
      | [], _ :: _ :: _ :: _, _, _, h => cases h
      | _ :: _, _ :: _ :: _ :: _, _, _, h => cases h
    · rename_i hc
      rw [hc] at h
      generalize hats : c.argTypes.toList = ats at h
      generalize hx : c.args.toList = xs at h
      match ats, xs, hats, hx, h with
      | _, [x, y], hats, hx, h => exact min_ok (mx := true) hop hc hx h
      | [], [], _, _, h => cases h
      | _ :: _, [], _, _, h => cases h
      | [], [_], _, _, h => cases h
      | _ :: _, [_], _, _, h => cases h
      | [], _ :: _ :: _ :: _, _, _, h => cases h
      | _ :: _, _ :: _ :: _ :: _, _, _, h => cases h
    · cases hl
  | _ => rw [hop] at hl; cases hl
theorem new_ok (hl : newK P o = true) (h : (opB P o).run call tm hp nx k = .ok) : NewTo P o tm hp nx k := by
  unfold newK at hl
  unfold opB at h
  cases hop : o.op with
  | alloc e =>
    rw [hop] at h
    simp only at h
    split at h
    · rename_i hz; exact alloc_ok hop hz h
    · exact bad_run h
  | box e x => rw [hop] at h; exact box_ok hop h
  | buildSlice t len ps =>
    rw [hop] at h
    simp only at h
    split at h
    · rename_i hu
      split at h
      · rename_i hz
        split at h
        · rename_i hg; exact buildSlice_ok hop hu hz hg h
        · exact bad_run h
      · exact bad_run h
    · exact bad_run h
  | makeMap t r =>
    rw [hop] at h
    cases r with
    | some r => exact bad_run h
    | none => exact makeMap_ok hop (fun ι nt a w ha => rfl) h
  | _ => rw [hop] at hl; cases hl
def IsPure (b : OB) : Prop := (∃ f, b = pureB f) ∨ ∃ n, b = badB n
theorem pureK_is (hl : pureK P o = true) : IsPure (opB P o) := by
  unfold pureK at hl
  unfold opB
  cases hop : o.op <;> rw [hop] at hl <;> simp only [convB] at hl ⊢
  all_goals first | (cases hl; done) | skip
  all_goals repeat' (first | exact .inl ⟨_, rfl⟩ | exact .inr ⟨_, rfl⟩ | split)
  all_goals simp_all
theorem pureK_light (hl : pureK P o = true) : lightK P o = true := by
  unfold pureK at hl
  unfold lightK
  cases hop : o.op <;> rw [hop] at hl <;> simp only at hl ⊢
  all_goals first | (cases hl; done) | skip
  all_goals (split at hl <;> simp_all)
theorem pure_ok (hl : pureK P o = true) (h : (opB P o).run call tm hp nx k = .ok) : ∃ v, k v hp nx = .ok ∧ OVal P o tm .e v := by
  have he : (opB P o).run call tm .e nx (fun v _ _ => k v hp nx) = .ok := by
    rcases pureK_is hl with ⟨f, hf⟩ | ⟨n, hf⟩
    · rw [hf] at h ⊢; exact h
    · rw [hf] at h; exact bad_run h
  exact light_ok (pureK_light hl) he
/-- Every operation. -/
theorem opB_ok (hcall : CallOk P call) : OpsOk P call := by
  intro o tm hp nx k h
  cases hl : lightK P o with
  | true => exact (light_ok hl h).to
  | false =>
    cases hn : newK P o with
    | true => exact (new_ok hn h).to
    | false =>
      unfold opB at h
      cases hop : o.op with
      | store t a x =>
        rw [hop] at h
        simp only at h
        split at h
        · rename_i hi; exact store_ok hop h ⟨_, hi⟩
        · exact bad_run h
      | makeSlice t l c =>
        rw [hop] at h
        simp only at h
        split at h
        · rename_i hu
          split at h
          · rename_i hz
            split at h
            · rename_i hg; exact (makeSlice_ok hop hu hz hg h).to
            · exact bad_run h
          · exact bad_run h
        · exact bad_run h
      | mapUpdate t m i x =>
        rw [hop] at h
        simp only [updateB] at h
        split at h
        · rename_i hu; exact update_ok (.inl hop) hu h
        · exact bad_run h
      | insert t m i x =>
        rw [hop] at h
        simp only [updateB] at h
        split at h
        · rename_i hu; exact update_ok (.inr hop) hu h
        · exact bad_run h
      | mapEntry t m i =>
        rw [hop] at h
        simp only [entryB] at h
        split at h
        · rename_i hu
          split at h
          · rename_i hz; exact entry_ok hop hu hz h
          · exact bad_run h
        · exact bad_run h
      | entryStore t m s x => rw [hop] at h; exact entryStore_ok hop h
      | range t x => rw [hop] at h; exact rangeB_ok hop h
      | next it isS =>
        rw [hop] at h
        cases isS with
        | true => exact bad_run h
        | false => exact nextB_ok hop h
      | entry it => rw [hop] at h; exact entryAtB_ok hop h
      | convert s t x =>
        rw [hop] at h
        simp only [convB] at h
        simp only [lightK, hop] at hl
        split at h
        · rename_i hs ht; rw [hs, ht] at hl; cases hl
        · rename_i hs ht; rw [hs, ht] at hl; cases hl
        · rename_i hs ht
          split at h
          · rename_i he; exact convToBytes_ok hop hs ht he h
          · exact bad_run h
        · rename_i hs ht
          split at h
          · rename_i he; exact convMark_ok hop hs ht he h
          · exact bad_run h
        · rename_i hs ht; rw [hs, ht] at hl; cases hl
        · exact bad_run h
      | slice t x lo hi mx =>
        rw [hop] at h
        simp only [sliceK] at h
        split at h
        · rename_i hu
          cases mx with
          | none => simp only [lightK, hop, hu] at hl; cases hl
          | some m => exact bad_run h
        · rename_i el hu
          split at h
          · exact bad_run h
          · exact bad_run h
          · rename_i hi' hmx
            have hmx : mx = none := by cases mx with | none => rfl | some m => cases hmx
            subst hmx
            obtain ⟨v, h, hv⟩ := evB_ok (tm := tm) h
            cases v with
            | slice id off len cap => exact (sliceEx_ok hop hu ⟨_, hi'⟩ hv h).to
            | oslice id off len skip => exact sliceOp_ok hop hu ⟨_, hi'⟩ hv h
            | nils => exact (sliceNil_ok hop hu ⟨_, hi'⟩ hv h).to
            | _ => cases h
        · exact bad_run h
      | call c =>
        rw [hop] at h
        simp only [callB] at h
        simp only [lightK, hop] at hl
        split at h
        · rename_i b hc
          rw [hc] at hl
          generalize hats : c.argTypes.toList = ats at h
          generalize hx : c.args.toList = xs at h
          unfold builtinB at h
          split at h
          · cases hl
          · rename_i ts tx s x
            split at h
            · exact bad_run h
            · rename_i e d hni hts htx
              split at h
              · rename_i z hz
                split at h
                · rename_i hg
                  exact append_sound hop hc hats hx hts htx (fun kd e => hni kd e) hz hg (fun v id off len skip ls h1 h2 h3 h4 h5 => append_tail hop hc hats hx hts htx (fun kd e => hni kd e) hz hg v id off len skip ls h1 h2 h3 h4 h5) h
                · exact bad_run h
              · exact bad_run h
            · exact bad_run h
          · cases hl
          · cases hl
          · rename_i t ts m i
            simp only [deleteB] at h
            split at h
            · rename_i hu; exact delete_ok hop hc hats hx hu h
            · exact bad_run h
          · exact bad_run h
        · rename_i f hc; exact call_to hcall (yield_ok hcall.2) hop hc h
        · exact bad_run h
      | alloc => simp only [newK, hop] at hn; cases hn
      | box => simp only [newK, hop] at hn; cases hn
      | buildSlice => simp only [newK, hop] at hn; cases hn
      | makeMap => simp only [newK, hop] at hn; cases hn
      | _ => first | (simp only [lightK, hop] at hl; cases hl; done) | (rw [hop] at h; exact bad_run h)
end
end Go.Rex
