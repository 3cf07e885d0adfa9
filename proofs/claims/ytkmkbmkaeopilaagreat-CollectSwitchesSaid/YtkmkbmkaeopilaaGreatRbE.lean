/- Drawn regions: steps, and what they hang on. Drawn regions: the walks of a plan. Drawn regions: any order is as the plan. Calls that have been run once are taken from a table: the table's machine and its soundness. Drawn regions are sound. Calls that have been run once are taken from a table: soundness. From a call that has been run to the laws' forms. Conditions: none. -/
import Derived.Test.YtkmkbmkaeopilaaGreatRbD
import Derived.ChangeSame
namespace Go.Rex
open Go.RowKit
set_option linter.unusedSimpArgs false
set_option linter.unusedVariables false
def tv (a : Act) (t : Nat) : Value := a.tmps.getD t undef
theorem tv_put {a : Act} {d : Nat} (hd : d < a.tmps.size) (v : Value) (t : Nat) : tv (a.put (some d) v) t = if t = d then v else tv a t := getD_set _ _ _ _ _ hd
theorem tv_put_none (a : Act) (v : Value) (t : Nat) : tv (a.put none v) t = tv a t := rfl
theorem put_size (a : Act) (d : Option Tmp) (v : Value) : (a.put d v).tmps.size = a.tmps.size := by cases d <;> simp [Act.put]
theorem put_defers (a : Act) (d : Option Tmp) (v : Value) : (a.put d v).defers = a.defers := by cases d <;> rfl
section
variable {P : Program} {ops : Array Oper}
theorem exec_same {o : Oper} (hs : notSel o = true) {a a' : Act} (h : ∀ t ∈ o.looksAt ops, tv a t = tv a' t) : execOp a.eval o = execOp a'.eval o := by
  refine execOp_congr o (fun cs b e => by unfold notSel at hs; rw [e] at hs; cases hs) (fun x hx => ?_)
  cases x with
  | tmp t => exact h t (List.mem_append_left _ (List.mem_filterMap.2 ⟨.tmp t, by simpa using hx, rfl⟩))
  | _ => rfl
theorem yielded_same {a a' : Act} {j : Nat} (h : ∀ t, (ops[j]?).bind (·.dst) = some t → tv a t = tv a' t) : yielded ops a.tmps j = yielded ops a'.tmps j := by
  unfold yielded
  cases ho : (ops[j]?).bind (·.dst) with
  | none => rfl
  | some t =>
    have e := h t ho
    unfold tv at e
    rw [Array.getD_eq_getD_getElem?, Array.getD_eq_getD_getElem?] at e
    simp only [Option.bind_some]
    cases h1 : a.tmps[t]? with
    | none =>
      cases h2 : a'.tmps[t]? with
      | none => rfl
      | some v => rw [h1, h2] at e; simp only [Option.getD_none, Option.getD_some] at e; rw [← e]; rfl
    | some v =>
      cases h2 : a'.tmps[t]? with
      | none => rw [h1, h2] at e; simp only [Option.getD_none, Option.getD_some] at e; rw [e]; rfl
      | some u => rw [h1, h2] at e; simp only [Option.getD_some] at e; rw [e]
theorem wanted_same {o : Oper} {a a' : Act} (h : ∀ t ∈ o.looksAt ops, tv a t = tv a' t) : Region.wanted o (yielded ops a.tmps) = Region.wanted o (yielded ops a'.tmps) := by
  unfold Region.wanted
  cases hg : o.guard with
  | none => rfl
  | some g =>
    obtain ⟨j, want⟩ := g
    simp only
    rw [yielded_same (a := a) (a' := a') fun t ht => h t (List.mem_append_right _ (by rw [hg]; simp [ht]))]
/-- The operation gives the value, or is not wanted. -/
def Yv (P : Program) (ops : Array Oper) (o : Oper) (a : Act) (w : World) (cv : Value) : Prop :=
  (Region.wanted o (yielded ops a.tmps) = true ∧ (execOp a.eval o).run P w = .ok (.value cv) w) ∨ (Region.wanted o (yielded ops a.tmps) = false ∧ cv = undef)
theorem Yv.same {o : Oper} {a a' : Act} {w : World} {cv : Value} (hs : notSel o = true) (h : ∀ t ∈ o.looksAt ops, tv a t = tv a' t) (hy : Yv P ops o a w cv) : Yv P ops o a' w cv := by
  unfold Yv
  rw [← exec_same hs h, ← wanted_same h]
  exact hy
theorem Yv.det {o : Oper} {a : Act} {w : World} {x y : Value} (h : Yv P ops o a w x) (h' : Yv P ops o a w y) : x = y := by
  rcases h with ⟨h1, h2⟩ | ⟨h1, rfl⟩ <;> rcases h' with ⟨h3, h4⟩ | ⟨h3, rfl⟩
  · rw [h2] at h4; simpa using h4
  · rw [h1] at h3; cases h3
  · rw [h1] at h3; cases h3
  · rfl
theorem Yv.wp {r : Option Nat} {o : Oper} {i : Nat} {a : Act} {w : World} {cv : Value} {Q : Exit → Act → World → Prop} {K : Act → World → Prop} (hi : ops[i]? = some o) (hy : Yv P ops o a w cv) (h : K (a.put o.dst cv) w) : wpOpIn (fw r) 0 P ops Q i K a w := by
  unfold wpOpIn
  rw [hi]
  simp only
  rcases hy with ⟨h1, h2⟩ | ⟨h1, rfl⟩
  · rw [if_pos h1]; exact Gives.wp (G := fun cv' w' => cv' = cv ∧ w' = w) (.inl ⟨cv, w, .inl h2, rfl, rfl⟩) fun cv' w' ⟨e1, e2⟩ => by rw [e1, e2]; exact h
  · rw [if_neg (by rw [h1]; decide)]; exact ⟨fun _ _ => trivial, h⟩
def LV (P : Program) (ops : Array Oper) (nt : Nat) (o : Oper) (tm : Tm) (hp : Tr AO) (v : AV) : Prop :=
  ∀ B w0 ι a w, TmpOk ι nt tm a → Core B w0 ι hp w → Yv P ops o a w (ren ι v)
theorem core_e (ι : En) (w : World) : Core (fun _ => False) w ι .e w :=
  have no : ∀ {id : Pz} {o : AO} {p : Prop}, (Tr.e : Tr AO).get id = some o → p := fun h => by rw [Tr.get_e] at h; cases h
  ⟨Kept.refl _ _, fun _ h => h.elim, fun _ _ h => no h, fun _ _ h => no h, fun _ _ _ _ _ h => no h, fun _ _ _ _ _ _ _ _ _ _ _ _ _ _ _ _ h => no h⟩
/-! one step of the abstract machine -/
noncomputable def setD (d : Option Tmp) (tm : Tm) (v : AV) : Tm := match d with | none => tm | some d => tm.put d v
variable {call : CallT} {nt : Nat} {tm : Tm} {hp : Tr AO} {nx : Pz} {K : Tm → Tr AO → Pz → Rs} {o : Oper}
theorem putB_ok {d : Option Tmp} {b : OB} (h : (putB nt d b).run call tm hp nx K = .ok) : (∀ t, d = some t → t < nt) ∧ b.run call tm hp nx (fun v hp nx => K (setD d tm v) hp nx) = .ok := by
  unfold putB at h
  cases d with
  | none => exact ⟨fun t e => (by cases e), h⟩
  | some t =>
    simp only at h
    cases hlt : Nat.blt t nt with
    | false => rw [hlt] at h; cases h
    | true =>
      rw [hlt] at h
      refine ⟨fun u e => by cases e; exact blt_ok hlt, ?_⟩
      have e : (fun v hp nx => (setS t).run tm v fun tm => K tm hp nx) = fun v hp nx => K (setD (some t) tm v) hp nx := by
        funext v hp nx
        rw [setS_eq]; rfl
      rw [← e]
      exact h
theorem step_cases (h : (stepB P nt ops o).run call tm hp nx K = .ok) : (∀ t, o.dst = some t → t < nt) ∧
    (((∀ ι a, TmpOk ι nt tm a → Region.wanted o (yielded ops a.tmps) = true) ∧ (opB P o).run call tm hp nx (fun v hp nx => K (setD o.dst tm v) hp nx) = .ok) ∨
     ((∀ ι a, TmpOk ι nt tm a → Region.wanted o (yielded ops a.tmps) = false) ∧ K (setD o.dst tm undefA) hp nx = .ok)) := by
  unfold stepB at h
  cases hg : o.guard with
  | none =>
    rw [hg] at h
    obtain ⟨h1, h2⟩ := putB_ok h
    exact ⟨h1, .inl ⟨fun ι a _ => by simp [Region.wanted, hg], h2⟩⟩
  | some g =>
    obtain ⟨j, want⟩ := g
    rw [hg] at h
    simp only at h
    cases hd : yielded? ops nt j with
    | none => rw [hd] at h; cases h
    | some d =>
      rw [hd] at h
      have h : (getS d).run tm (fun v => selBz v ((putB nt o.dst (pureB fun _ k => k undefA)).run call tm hp nx K) fun b =>
        ifK (boolEq b want) ((putB nt o.dst (opB P o)).run call tm hp nx K) ((putB nt o.dst (pureB fun _ k => k undefA)).run call tm hp nx K)) = .ok := h
      rw [getS_eq] at h
      have hy : ∀ ι a, TmpOk ι nt tm a → yielded ops a.tmps j = match tm.at d with | .bool b => some b | _ => none := fun ι a ha => yielded_of hd ha
      have no : (∀ ι a, TmpOk ι nt tm a → yielded ops a.tmps j ≠ some want) → (putB nt o.dst (pureB fun _ k => k undefA)).run call tm hp nx K = .ok → (∀ t, o.dst = some t → t < nt) ∧ (((∀ ι a, TmpOk ι nt tm a → Region.wanted o (yielded ops a.tmps) = true) ∧ (opB P o).run call tm hp nx (fun v hp nx => K (setD o.dst tm v) hp nx) = .ok) ∨
          ((∀ ι a, TmpOk ι nt tm a → Region.wanted o (yielded ops a.tmps) = false) ∧ K (setD o.dst tm undefA) hp nx = .ok)) := by
        intro hne hp'
        obtain ⟨h1, h2⟩ := putB_ok hp'
        exact ⟨h1, .inr ⟨fun ι a ha => by simp [Region.wanted, hg]; exact hne ι a ha, h2⟩⟩
      cases hv : tm.at d with
      | bool b =>
        rw [hv] at h
        rcases ifK_two h with ⟨hb, h⟩ | ⟨hb, h⟩
        · have hb : b = want := by rw [boolEq_eq] at hb; simpa using hb
          obtain ⟨h1, h2⟩ := putB_ok h
          exact ⟨h1, .inl ⟨fun ι a ha => by simp [Region.wanted, hg, hy ι a ha, hv, hb], h2⟩⟩
        · have hb : b ≠ want := by rw [boolEq_eq] at hb; simpa using hb
          exact no (fun ι a ha => by rw [hy ι a ha, hv]; simp [hb]) h
      | _ => rw [hv] at h; exact no (fun ι a ha => by rw [hy ι a ha, hv]; simp) h
theorem light_step (hl : lightK P o = true) (h : (stepB P nt ops o).run call tm hp nx K = .ok) : (∀ t, o.dst = some t → t < nt) ∧ ∃ v, K (setD o.dst tm v) hp nx = .ok ∧ LV P ops nt o tm hp v := by
  obtain ⟨h1, ⟨h2, h3⟩ | ⟨h2, h3⟩⟩ := step_cases h
  · obtain ⟨v, hk, hv⟩ := light_ok hl h3
    exact ⟨h1, v, hk, fun B w0 ι a w ha hc => .inl ⟨h2 ι a ha, hv B w0 ι nt a w ha hc⟩⟩
  · exact ⟨h1, undefA, h3, fun B w0 ι a w ha hc => .inr ⟨h2 ι a ha, ren_undef ι⟩⟩
theorem pure_step (hl : pureK P o = true) (h : (stepB P nt ops o).run call tm hp nx K = .ok) : (∀ t, o.dst = some t → t < nt) ∧ ∃ v, K (setD o.dst tm v) hp nx = .ok ∧ LV P ops nt o tm .e v := by
  obtain ⟨h1, ⟨h2, h3⟩ | ⟨h2, h3⟩⟩ := step_cases h
  · obtain ⟨v, hk, hv⟩ := pure_ok hl h3
    exact ⟨h1, v, hk, fun B w0 ι a w ha hc => .inl ⟨h2 ι a ha, hv B w0 ι nt a w ha hc⟩⟩
  · exact ⟨h1, undefA, h3, fun B w0 ι a w ha hc => .inr ⟨h2 ι a ha, ren_undef ι⟩⟩
theorem new_step (hn : newK P o = true) (hg : o.guard = none) (h : (stepB P nt ops o).run call tm hp nx K = .ok) : (∀ t, o.dst = some t → t < nt) ∧ ∃ v x, K (setD o.dst tm v) (hp.set nx x) nx.succ = .ok ∧ NewAt P o tm nx v x := by
  unfold stepB at h
  rw [hg] at h
  obtain ⟨h1, h2⟩ := putB_ok h
  obtain ⟨v, x, hk, hx⟩ := new_ok hn h2
  exact ⟨h1, v, x, hk, hx⟩
theorem heavy_step (hops : OpsOk P call) (h : (stepB P nt ops o).run call tm hp nx K = .ok) {B : Nat → Prop} {w0 w : World} {ι : En} {a : Act} (hs : Sat B w0 nt tm hp nx ι a w) {G : Value → World → Prop}
    (hG : ∀ cv w' v hp' nx' ι2, K (setD o.dst tm v) hp' nx' = .ok → nx.num ≤ nx'.num → Agree nx ι ι2 → Wf hp' nx' → (∀ ι', Agree nx' ι2 ι' → Core B w0 ι' hp' w' ∧ cv = ren ι' v) → G cv w') :
    (∀ t, o.dst = some t → t < nt) ∧ ((Region.wanted o (yielded ops a.tmps) = true ∧ Gives P (execOp a.eval o) w G) ∨ (Region.wanted o (yielded ops a.tmps) = false ∧ G undef w)) := by
  obtain ⟨h1, ⟨h2, h3⟩ | ⟨h2, h3⟩⟩ := step_cases h
  · refine ⟨h1, .inl ⟨h2 ι a (hs.2 ι (Agree.refl _ _)).1, hops o tm hp nx _ h3 B w0 nt a w ι hs G ?_⟩⟩
    intro v hp' nx' ι2 cv w' hk hw hle ha hc
    exact hG cv w' v hp' nx' ι2 hk hle ha hw hc
  · exact ⟨h1, .inr ⟨h2 ι a (hs.2 ι (Agree.refl _ _)).1, hG undef w undefA hp nx ι h3 (Nat.le_refl _) (Agree.refl _ _) hs.1 (fun ι' hι => ⟨(hs.2 ι' hι).2, (ren_undef ι').symm⟩)⟩⟩
/-! what the value hangs on -/
theorem LV.set {v u : AV} {d : Nat} (hs : notSel o = true) (hd : d < nt) (hn : d ∉ o.looksAt ops) (h : LV P ops nt o tm hp v) : LV P ops nt o (tm.put d u) hp v := by
  intro B w0 ι a w ha hc
  have hsz : d < a.tmps.size := by rw [ha.size]; exact hd
  have h0 : TmpOk ι nt tm (a.put (some d) (ren ι (tm.at d))) := by
    refine ⟨by rw [put_size]; exact ha.size, by rw [put_defers, ha.defers, Tm.put_ml], fun t => ?_⟩
    have := tv_put hsz (ren ι (tm.at d)) t
    unfold tv at this
    rw [this]
    by_cases ht : t = d
    · subst ht; rw [if_pos rfl]
    · rw [if_neg ht, ha.val t, Tm.at_put_ne ht]
  refine (h B w0 ι _ w h0 hc).same hs (fun t ht => ?_)
  rw [tv_put hsz, if_neg (by intro e; subst e; exact hn ht)]
theorem LV.setD {v v' : AV} {d : Option Tmp} (hs : notSel o = true) (hd : ∀ t, d = some t → t < nt) (hn : ∀ t, d = some t → t ∉ o.looksAt ops) (h : LV P ops nt o tm hp v) : LV P ops nt o (Rex.setD d tm v') hp v := by
  cases d with
  | none => exact h
  | some t => exact h.set hs (hd t rfl) (hn t rfl)
/-! equal values -/
theorem pzEq_ok : ∀ (p q : Pz), pzEq p q = true → p = q := by
  intro p
  induction p with
  | h => intro q h; cases q <;> first | rfl | cases h
  | o p ih => intro q h; cases q <;> first | (cases h; done) | (rw [ih _ h])
  | i p ih => intro q h; cases q <;> first | (cases h; done) | (rw [ih _ h])
theorem eq1_ok {a b : AV} (h : eq1 a b = true) : a = b := by
  unfold eq1 at h
  split at h
  all_goals first | (cases h; done) | rfl | skip
  · simp only [beq_iff_eq] at h; rw [h]
  · simp only [Bool.and_eq_true, decide_eq_true_eq, beq_iff_eq] at h; rw [h.1, h.2]
  · simp only [Bool.and_eq_true] at h; rw [beq_ok h.1, beq_ok h.2]
  · simp only [Bool.and_eq_true, decide_eq_true_eq] at h; rw [h.1, beq_ok h.2]
  · simp only [Bool.and_eq_true] at h; rw [pzEq_ok _ _ h.1, beq_ok h.2]
  · simp only [Bool.and_eq_true] at h; rw [pzEq_ok _ _ h.1, beq_ok h.2.1, beq_ok h.2.2.1, beq_ok h.2.2.2]
  · simp only [Bool.and_eq_true] at h; rw [pzEq_ok _ _ h.1, beq_ok h.2.1, beq_ok h.2.2.1, beq_ok h.2.2.2]
  · rw [pzEq_ok _ _ h]
theorem eqL_ok {f : AV → AV → Bool} (hf : ∀ a b, f a b = true → a = b) : ∀ (x y : List AV), eqL f x y = true → x = y
  | [], [], _ => rfl
  | [], _ :: _, h => by cases h
  | _ :: _, [], h => by cases h
  | a :: x, b :: y, h => by
    have h : Bool.rec (motive := fun _ => Bool) false (eqL f x y) (f a b) = true := h
    cases hb : f a b with
    | false => rw [hb] at h; cases h
    | true => rw [hb] at h; rw [hf _ _ hb, eqL_ok hf x y h]
theorem eq2_ok {a b : AV} (h : eq2 a b = true) : a = b := by
  unfold eq2 at h
  split at h
  · rw [eqL_ok (fun _ _ => eq1_ok) _ _ h]
  · exact eq1_ok h
theorem eqA_ok {a b : AV} (h : eqA a b = true) : a = b := by
  unfold eqA at h
  split at h
  · rw [eqL_ok (fun _ _ => eq2_ok) _ _ h]
  · exact eq2_ok h
/-- What is known of an early operation: running it gives what its temporary bears. -/
def EFact (P : Program) (ops : Array Oper) (nt : Nat) (tm : Tm) (hp : Tr AO) (o : Oper) : Prop := ∃ v, (∀ d, o.dst = some d → tm.at d = v ∧ d < nt) ∧ LV P ops nt o tm hp v
theorem again_ok (hl : lightK P o = true) (h : (againB P nt ops o).run call tm hp nx K = .ok) : K tm hp nx = .ok ∧ EFact P ops nt tm hp o := by
  unfold againB at h
  cases hd : o.dst with
  | none =>
    rw [hd] at h
    obtain ⟨h1, v, h2, h3⟩ := light_step hl h
    exact ⟨h2, v, fun d e => (by rw [hd] at e; cases e), h3⟩
  | some d =>
    rw [hd] at h
    obtain ⟨h1, v, h2, h3⟩ := light_step hl h
    rw [hd] at h2
    have h2 : (getS d).run (tm.put d v) (fun v => (getS d).run tm fun u => ifK (eqA v u) (K tm hp nx) (.bad 213)) = .ok := h2
    rw [getS_eq, getS_eq, Tm.at_put_same] at h2
    obtain ⟨he, g3⟩ := ifK_ok h2
    have := eqA_ok he
    exact ⟨g3, v, fun d' e => (by rw [hd] at e; cases e; exact ⟨this.symm, h1 d hd⟩), h3⟩
theorem againAll_ok : ∀ (l : List Oper), (∀ o ∈ l, lightK P o = true) → (againAll P nt ops l).run call tm hp nx K = .ok → K tm hp nx = .ok ∧ ∀ o ∈ l, EFact P ops nt tm hp o
  | [], _, h => ⟨h, fun o ho => by simp at ho⟩
  | o :: l, hl, h => by
    obtain ⟨h1, h2⟩ := again_ok (hl o (List.mem_cons_self ..)) (K := fun tm hp nx => (againAll P nt ops l).run call tm hp nx K) h
    obtain ⟨h3, h4⟩ := againAll_ok l (fun o ho => hl o (List.mem_cons_of_mem _ ho)) h1
    refine ⟨h3, fun o' ho => ?_⟩
    rcases List.mem_cons.1 ho with rfl | ho
    · exact h2
    · exact h4 o' ho
end
/-! the order -/
theorem before_fold (R : Nat → Nat → Prop) (l : List Oper) : ∀ (acc : Array Nat), (∀ j i, bit acc j i = true → R j i) →
    (∀ o j, l[j]? = some o → ∀ e ∈ o.after, Region.binds .any e = true → R (acc.size + j) e.on ∧ ∀ i, R e.on i → R (acc.size + j) i) →
    ∀ j i, bit (l.foldl (fun acc o => acc.push (o.after.foldl (fun s e => if Region.binds .any e then s ||| 2 ^ e.on ||| acc.getD e.on 0 else s) 0)) acc) j i = true → R j i := by
  induction l with
  | nil => intro acc h _ j i hb; exact h j i hb
  | cons o l ih =>
    intro acc h hl j i hb
    refine ih _ (fun j i hb => ?_) (fun o' j' ho' e he hbi => ?_) j i hb
    · unfold bit at hb
      rw [Array.getD_eq_getD_getElem?, Array.getElem?_push] at hb
      by_cases hj : j = acc.size
      · rw [if_pos hj, Option.getD_some] at hb
        have hfold : ∀ (m : List Edge) (s : Nat), (∀ i, s.testBit i = true → R acc.size i) → (∀ e ∈ m, e ∈ o.after.toList) → ∀ i, (m.foldl (fun s e => if Region.binds .any e then s ||| 2 ^ e.on ||| acc.getD e.on 0 else s) s).testBit i = true → R acc.size i := by
          intro m
          induction m with
          | nil => intro s hs _ i hi; exact hs i hi
          | cons e m ihm =>
            intro s hs hm i hi
            refine ihm _ (fun i hi => ?_) (fun e he => hm e (List.mem_cons_of_mem _ he)) i hi
            simp only at hi
            by_cases hbe : Region.binds .any e = true
            · rw [if_pos hbe, Nat.testBit_or, Nat.testBit_or, Bool.or_eq_true, Bool.or_eq_true] at hi
              obtain ⟨q1, q2⟩ := hl o 0 rfl e (by simpa using hm e (List.mem_cons_self ..)) hbe
              rw [Nat.add_zero] at q1 q2
              rcases hi with (hi | hi) | hi
              · exact hs i hi
              · rw [Nat.testBit_two_pow] at hi
                have : e.on = i := by simpa using hi
                rw [← this]; exact q1
              · exact q2 i (h _ _ hi)
            · rw [if_neg hbe] at hi; exact hs i hi
        rw [hj]
        rw [← Array.foldl_toList] at hb
        exact hfold o.after.toList 0 (fun i hi => by simp at hi) (fun e he => he) i hb
      · rw [if_neg hj] at hb
        refine h j i ?_
        unfold bit
        rw [Array.getD_eq_getD_getElem?]
        exact hb
    · have := hl o' (j' + 1) (by simpa using ho') e he hbi
      rw [Array.size_push, show acc.size + 1 + j' = acc.size + (j' + 1) by omega]
      exact this
theorem before_R {ops : Array Oper} (R : Nat → Nat → Prop) (h : ∀ o j, ops[j]? = some o → ∀ e ∈ o.after, Region.binds .any e = true → R j e.on ∧ ∀ i, R e.on i → R j i) : ∀ j i, bit (Region.before ops) j i = true → R j i := by
  intro j i hb
  unfold Region.before at hb
  rw [← Array.foldl_toList] at hb
  refine before_fold R ops.toList #[] (fun j i hb => by simp [bit] at hb) (fun o j ho e he hbi => ?_) j i hb
  have := h o j (by simpa using ho) e he hbi
  simpa using this
theorem before_ok {ops : Array Oper} (L : Nat → Prop) (hL : ∀ i o, ops[i]? = some o → L i → ∀ e ∈ o.after, Region.binds .any e = true → L e.on) : ∀ j i, L j → bit (Region.before ops) j i = true → L i := by
  intro j i hj hb
  exact before_R (fun j i => L j → L i) (fun o j ho e he hbi => ⟨fun h => hL j o ho h e he hbi, fun i hi h => hi (hL j o ho h e he hbi)⟩) j i hb hj
theorem before_lt {ops : Array Oper} (hlt : ∀ i o, ops[i]? = some o → ∀ e ∈ o.after, Region.binds .any e = true → e.on < i) : ∀ j i, bit (Region.before ops) j i = true → i < j := by
  intro j i hb
  exact before_R (fun j i => i < j) (fun o j ho e he hbi => ⟨hlt j o ho e he hbi, fun i hi => Nat.lt_trans hi (hlt j o ho e he hbi)⟩) j i hb
end Go.Rex
namespace Go.Rex
open Go.RowKit
set_option linter.unusedSimpArgs false
set_option linter.unusedVariables false
structure Rg (P : Program) (ops : Array Oper) (E F H : List Nat) : Prop where
  cov : ∀ i, i < ops.size → (i ∈ E ∧ i ∉ F ∧ i ∉ H) ∨ (i ∉ E ∧ i ∈ F ∧ i ∉ H) ∨ (i ∉ E ∧ i ∉ F ∧ i ∈ H)
  ltE : ∀ i ∈ E, i < ops.size
  ltF : ∀ i ∈ F, i < ops.size
  ltH : ∀ i ∈ H, i < ops.size
  edge : ∀ i o, ops[i]? = some o → ∀ e ∈ o.after, Region.binds .any e = true → e.on < i
  kE : ∀ i ∈ E, lightK P (opAt ops i) = true
  kF : ∀ i ∈ F, kindF P (opAt ops i) = true
  sel : ∀ i, i < ops.size → notSel (opAt ops i) = true
  ssa : ∀ i, i < ops.size → ∀ j, j ∈ E ∨ j ∈ F → (lk ops i j = true → bit (Region.before ops) i j = true) ∧ (i ≠ j → ∀ d, (opAt ops j).dst = some d → (opAt ops i).dst ≠ some d)
theorem at_of {ops : Array Oper} {i : Nat} (h : i < ops.size) : ops[i]? = some (opAt ops i) := by
  unfold opAt
  rw [Array.getD_eq_getD_getElem?, Array.getElem?_eq_getElem h]; rfl
theorem lk_of {ops : Array Oper} {i j d : Nat} (hd : (opAt ops j).dst = some d) (h : d ∈ (opAt ops i).looksAt ops) : lk ops i j = true := by
  unfold lk
  rw [hd]
  simpa using h
theorem kindF_new {P : Program} {o : Oper} (h : kindF P o = true) (hp : pureK P o = false) : newK P o = true ∧ o.guard = none ∧ ∃ d, o.dst = some d := by
  unfold kindF at h
  rw [hp] at h
  simp only [Bool.false_or, Bool.and_eq_true] at h
  exact ⟨h.1.1, by simpa using h.1.2, Option.isSome_iff_exists.1 h.2⟩
/-- An operation that ran ahead of the abstract machine. -/
def Pend (P : Program) (ops : Array Oper) (B S : Nat → Prop) (β : Nat) (a : Act) (w : World) (o : Oper) : Prop :=
  (pureK P o = true ∧ ∃ cv, (∀ w1, Yv P ops o a w1 cv) ∧ ∀ d, o.dst = some d → tv a d = cv) ∨
  (pureK P o = false ∧ ∃ y d, S β ∧ ¬ B β ∧ w.heap[β]? = some y ∧ o.dst = some d ∧ ∀ w1 : World, w1.heap.size = β → (execOp a.eval o).run P w1 = .ok (.value (tv a d)) (w1.alloc y))
structure Sync (P : Program) (ops : Array Oper) (nt : Nat) (E F H CE CF CH : List Nat) (L : Nat → Prop) (B S : Nat → Prop) (w0 : World) (tm : Tm) (hp : Tr AO) (nx : Pz) (ι : En) (β : Nat → Nat) (c a : Act) (w : World) : Prop where
  down : ∀ i o, ops[i]? = some o → L i → ∀ e ∈ o.after, Region.binds .any e = true → L e.on
  inn : ∀ i, L i → i < ops.size
  hv : ∀ i ∈ H, (L i ↔ i ∈ CH)
  fl : ∀ i ∈ CF, L i
  el : ∀ i ∈ E, L i → i ∈ CE
  kept : Kept B w0 w
  sub : ∀ k, B k → S k
  sat : Sat S w nt tm hp nx ι c w
  pend : ∀ f ∈ F, L f → f ∉ CF → Pend P ops B S (β f) a w (opAt ops f)
  inj : ∀ f ∈ F, ∀ g ∈ F, L f → L g → f ∉ CF → g ∉ CF → pureK P (opAt ops f) = false → pureK P (opAt ops g) = false → β f = β g → f = g
  size : a.tmps.size = nt
  defers : a.defers = c.defers
  link : ∀ t, (∀ i, i ∈ E ∨ i ∈ F → (opAt ops i).dst = some t → (L i ↔ (i ∈ CE ∨ i ∈ CF))) → tv a t = tv c t
section
variable {P : Program} {ops : Array Oper} {nt : Nat} {E F H : List Nat} {call : CallT} {L : Nat → Prop} {B S : Nat → Prop} {w0 w : World} {tm : Tm} {hp : Tr AO} {nx : Pz} {ι : En} {β : Nat → Nat} {c a : Act}
theorem Rg.ef (hr : Rg P ops E F H) {i : Nat} (h : i ∈ E) : i ∉ F ∧ i ∉ H := by
  rcases hr.cov i (hr.ltE i h) with h' | h' | h'
  · exact h'.2
  · exact absurd h h'.1
  · exact absurd h h'.1
theorem Rg.fe (hr : Rg P ops E F H) {i : Nat} (h : i ∈ F) : i ∉ E ∧ i ∉ H := by
  rcases hr.cov i (hr.ltF i h) with h' | h' | h'
  · exact absurd h h'.2.1
  · exact ⟨h'.1, h'.2.2⟩
  · exact absurd h h'.2.1
theorem Rg.he (hr : Rg P ops E F H) {i : Nat} (h : i ∈ H) : i ∉ E ∧ i ∉ F := by
  rcases hr.cov i (hr.ltH i h) with h' | h' | h'
  · exact absurd h h'.2.2
  · exact absurd h h'.2.2
  · exact ⟨h'.1, h'.2.1⟩
theorem Rg.self (hr : Rg P ops E F H) {i d : Nat} (h : i ∈ E ∨ i ∈ F) (hd : (opAt ops i).dst = some d) : d ∉ (opAt ops i).looksAt ops := by
  intro hl
  have hlt : i < ops.size := h.elim (hr.ltE i) (hr.ltF i)
  have := before_lt hr.edge i i ((hr.ssa i hlt i h).1 (lk_of hd hl))
  omega
theorem tmps_put {ι' : En} {v : AV} {cv : Value} {d : Option Tmp} (ht : TmpOk ι' nt tm c) (hd : ∀ t, d = some t → t < nt) (hv : cv = ren ι' v) : TmpOk ι' nt (setD d tm v) (c.put d cv) := by
  cases d with
  | none => exact ht
  | some t => exact tmpOk_put ht (hd t rfl) hv
theorem tv_put_ne {a : Act} {d : Option Tmp} {v : Value} {t : Nat} (h : d ≠ some t) : tv (a.put d v) t = tv a t := by
  cases d with
  | none => rfl
  | some d =>
    have hne : d ≠ t := fun e => h (by rw [e])
    unfold tv Act.put
    simp only [Array.getD_eq_getD_getElem?, Array.getElem?_setIfInBounds_ne hne]
theorem tv_put_eq {a : Act} {d : Nat} {v : Value} (h : d < a.tmps.size) : tv (a.put (some d) v) d = v := by rw [tv_put h, if_pos rfl]
/-! early operations -/
theorem es_walk (hr : Rg P ops E F H) {CF CH : List Nat} {K : Tm → Tr AO → Pz → Rs} : ∀ (es CE G : List Nat) (tm : Tm) (c : Act), seqE ops E F CF es CE = true → Sync P ops nt E F H CE CF CH L B S w0 tm hp nx ι β c a w →
    (regionB P nt ops (es.map (opAt ops))).run call tm hp nx K = .ok → (∀ g ∈ G, g ∈ E ∧ g ∈ CE ∧ EFact P ops nt tm hp (opAt ops g) ∧ ∀ e ∈ E, lk ops g e = true → e ∈ CE) →
    ∃ tm' c', K tm' hp nx = .ok ∧ Sync P ops nt E F H (es.reverse ++ CE) CF CH L B S w0 tm' hp nx ι β c' a w ∧ ∀ g, g ∈ G ∨ g ∈ es → EFact P ops nt tm' hp (opAt ops g)
  | [], CE, G, tm, c, _, hs, h, hG => ⟨tm, c, h, hs, fun g hg => by
      rcases hg with hg | hg
      · exact (hG g hg).2.2.1
      · simp at hg⟩
  | i :: es, CE, G, tm, c, hq, hs, h, hG => by
    simp only [seqE, Bool.and_eq_true, Bool.not_eq_true', List.all_eq_true, List.contains_iff_mem, Bool.or_eq_true] at hq
    obtain ⟨⟨⟨⟨q1, q2⟩, q3⟩, q4⟩, q5⟩ := hq
    have q2 : i ∉ CE := by simpa using q2
    have hlt := hr.ltE i q1
    have h : (stepB P nt ops (opAt ops i)).run call tm hp nx (fun tm hp nx => (regionB P nt ops (es.map (opAt ops))).run call tm hp nx K) = .ok := h
    obtain ⟨hd, v, h, hv⟩ := light_step (hr.kE i q1) h
    have hLi : ¬ L i := fun h' => q2 (hs.el i q1 h')
    have hren : ∀ ι', Agree nx ι ι' → ren ι v = ren ι' v := fun ι' hι => by
      obtain ⟨t1, c1⟩ := hs.sat.2 ι (Agree.refl _ _)
      obtain ⟨t2, c2⟩ := hs.sat.2 ι' hι
      exact (hv _ _ ι c w t1 c1).det (hv _ _ ι' c w t2 c2)
    have hs1 : Sync P ops nt E F H (i :: CE) CF CH L B S w0 (setD (opAt ops i).dst tm v) hp nx ι β (c.put (opAt ops i).dst (ren ι v)) a w := by
      refine ⟨hs.down, hs.inn, hs.hv, hs.fl, fun j hj h' => List.mem_cons_of_mem _ (hs.el j hj h'), hs.kept, hs.sub, ⟨hs.sat.1, fun ι' hι => ⟨tmps_put (hs.sat.2 ι' hι).1 hd (hren ι' hι), (hs.sat.2 ι' hι).2⟩⟩, hs.pend, hs.inj, hs.size, (by rw [put_defers]; exact hs.defers), fun t ht => ?_⟩
      have hne : (opAt ops i).dst ≠ some t := fun e => hLi ((ht i (.inl q1) e).2 (.inl (List.mem_cons_self ..)))
      rw [tv_put_ne hne]
      refine hs.link t fun j hj hjd => (ht j hj hjd).trans ?_
      have hji : j ≠ i := fun e => hne (e ▸ hjd)
      simp [hji]
    have hfact : ∀ g, g ∈ E → g ≠ i → (lk ops g i = true → i ∈ CE) → EFact P ops nt tm hp (opAt ops g) → EFact P ops nt (setD (opAt ops i).dst tm v) hp (opAt ops g) := by
      intro g hg hgi hlk ⟨u, h1, h2⟩
      refine ⟨u, fun d hd' => ?_, LV.setD (hr.sel g (hr.ltE g hg)) hd (fun t ht hl => q2 (hlk (lk_of ht hl))) h2⟩
      obtain ⟨h3, h4⟩ := h1 d hd'
      refine ⟨?_, h4⟩
      cases hdi : (opAt ops i).dst with
      | none => exact h3
      | some t =>
        have hne : d ≠ t := fun e => (hr.ssa g (hr.ltE g hg) i (.inl q1)).2 hgi t hdi (e ▸ hd')
        show (tm.put t v).at d = u
        rw [Tm.at_put_ne hne, h3]
    have hnew : EFact P ops nt (setD (opAt ops i).dst tm v) hp (opAt ops i) := by
      refine ⟨v, fun d hd' => ⟨?_, hd d hd'⟩, LV.setD (hr.sel i hlt) hd (fun t ht => hr.self (.inl q1) ht) hv⟩
      rw [hd']
      exact Tm.at_put_same _ _ _
    obtain ⟨tm', c', h1, h2, h3⟩ := es_walk hr es (i :: CE) (i :: G) _ _ q5 hs1 h (fun g hg => by
      rcases List.mem_cons.1 hg with rfl | hg
      · exact ⟨q1, List.mem_cons_self .., hnew, fun e he hlk => List.mem_cons_of_mem _ ((q4 e he).resolve_left (by simp [hlk]))⟩
      · obtain ⟨g1, g2, g3, g4⟩ := hG g hg
        exact ⟨g1, List.mem_cons_of_mem _ g2, hfact g g1 (fun e => q2 (e ▸ g2)) (fun hl => g4 i q1 hl) g3, fun e he hlk => List.mem_cons_of_mem _ (g4 e he hlk)⟩)
    refine ⟨tm', c', h1, by simpa using h2, fun g hg => h3 g ?_⟩
    rcases hg with hg | hg
    · exact .inl (List.mem_cons_of_mem _ hg)
    · rcases List.mem_cons.1 hg with rfl | hg
      · exact .inl (List.mem_cons_self ..)
      · exact .inr hg
/-! floating operations, tried ahead -/
def FRes (P : Program) (ops : Array Oper) (a : Act) (o : Oper) : Prop :=
  (pureK P o = true ∧ ∃ cv, ∀ w1, Yv P ops o a w1 cv) ∨
  (pureK P o = false ∧ o.guard = none ∧ ∃ d, o.dst = some d ∧ ∀ b, ∃ cv y, ∀ w1 : World, w1.heap.size = b → (execOp a.eval o).run P w1 = .ok (.value cv) (w1.alloc y))
theorem world_of (b : Nat) : ∃ w1 : World, w1.heap.size = b := ⟨{ (default : World) with heap := Array.replicate b (.map #[] 0) }, by simp⟩
theorem sp_walk (hr : Rg P ops E F H) {CE CF CH : List Nat} (hs : Sync P ops nt E F H CE CF CH L B S w0 tm hp nx ι β c a w) {r : Rs} : ∀ (sp CFs : List Nat) (tms : Tm) (hps : Tr AO) (nxs : Pz) (ιs : En) (cs : Act), seqF ops E F CE sp CFs = true → (∀ i ∈ CF, i ∈ CFs) →
    (regionB P nt ops (sp.map (opAt ops))).run call tms hps nxs (fun _ _ _ => r) = .ok → (∀ ι', Agree nxs ιs ι' → TmpOk ι' nt tms cs) →
    (∀ t, (∀ i, i ∈ E ∨ i ∈ F → (opAt ops i).dst = some t → (L i ↔ (i ∈ CE ∨ i ∈ CFs))) → tv a t = tv cs t) →
    r = .ok ∧ ∀ f ∈ sp, (∀ i, bit (Region.before ops) f i = true → L i) → FRes P ops a (opAt ops f) ∧ ∀ d, (opAt ops f).dst = some d → d < nt
  | [], CFs, tms, hps, nxs, ιs, cs, _, _, h, _, _ => ⟨h, fun f hf => by simp at hf⟩
  | f :: sp, CFs, tms, hps, nxs, ιs, cs, hq, hsub, h, hfit, hlink => by
    simp only [seqF, Bool.and_eq_true, Bool.not_eq_true', List.all_eq_true, List.contains_iff_mem, Bool.or_eq_true] at hq
    obtain ⟨⟨⟨⟨q1, q2⟩, q3⟩, q4⟩, q5⟩ := hq
    have q2 : f ∉ CFs := by simpa using q2
    have hlt := hr.ltF f q1
    have hsel := hr.sel f hlt
    have hsame : (∀ i, bit (Region.before ops) f i = true → L i) → ∀ t ∈ (opAt ops f).looksAt ops, tv a t = tv cs t := by
      intro hpre t ht
      refine hlink t fun i hi hid => ?_
      have hl := lk_of hid ht
      refine ⟨fun _ => ?_, fun _ => hpre i ((hr.ssa f hlt i hi).1 hl)⟩
      rcases hi with hi | hi
      · exact .inl ((q4 i hi).resolve_left (by simp [hl]))
      · exact .inr ((q3 i hi).resolve_left (by simp [hl]))
    have hpreL : L f → ∀ i, bit (Region.before ops) f i = true → L i := fun hf i hb => before_ok L hs.down f i hf hb
    have h : (stepB P nt ops (opAt ops f)).run call tms hps nxs (fun tm hp nx => (regionB P nt ops (sp.map (opAt ops))).run call tm hp nx (fun _ _ _ => r)) = .ok := h
    have later : ∀ (cv : Value) (t : Nat), (∀ d, (opAt ops f).dst = some d → d < nt) → (L f → ∀ d, (opAt ops f).dst = some d → tv a d = cv) →
        (∀ i, i ∈ E ∨ i ∈ F → (opAt ops i).dst = some t → (L i ↔ (i ∈ CE ∨ i ∈ f :: CFs))) → tv a t = tv (cs.put (opAt ops f).dst cv) t := by
      intro cv t hd hval ht
      by_cases hdt : (opAt ops f).dst = some t
      · have hLf := (ht f (.inr q1) hdt).2 (.inr (List.mem_cons_self ..))
        rw [hval hLf t hdt, hdt, tv_put_eq]
        rw [(hfit ιs (Agree.refl _ _)).size]
        exact hd t hdt
      · rw [tv_put_ne hdt]
        refine hlink t fun i hi hid => (ht i hi hid).trans ?_
        have : i ≠ f := fun e => hdt (e ▸ hid)
        simp [this]
    cases hk : pureK P (opAt ops f) with
    | true =>
      obtain ⟨hd, v, h, hv⟩ := pure_step hk h
      have hy : ∀ ι', Agree nxs ιs ι' → ∀ w1, Yv P ops (opAt ops f) cs w1 (ren ι' v) := fun ι' hι w1 => hv _ _ ι' cs w1 (hfit ι' hι) (core_e ι' w1)
      have hya : (∀ i, bit (Region.before ops) f i = true → L i) → ∀ w1, Yv P ops (opAt ops f) a w1 (ren ιs v) := fun hpre w1 => (hy ιs (Agree.refl _ _) w1).same hsel (fun t ht => (hsame hpre t ht).symm)
      obtain ⟨r1, r2⟩ := sp_walk hr hs sp (f :: CFs) _ hps nxs ιs (cs.put (opAt ops f).dst (ren ιs v)) q5 (fun i hi => List.mem_cons_of_mem _ (hsub i hi)) h
        (fun ι' hι => tmps_put (hfit ι' hι) hd ((hy ιs (Agree.refl _ _) default).det (hy ι' hι default)))
        (fun t ht => later _ t hd (fun hLf d hdd => by
          rcases hs.pend f q1 hLf (fun hc => q2 (hsub f hc)) with ⟨_, cv, p1, p2⟩ | ⟨p0, _⟩
          · rw [p2 d hdd]; exact (p1 default).det (hya (hpreL hLf) default)
          · rw [hk] at p0; cases p0) ht)
      refine ⟨r1, fun g hg hpre => ?_⟩
      rcases List.mem_cons.1 hg with rfl | hg
      · exact ⟨.inl ⟨hk, _, hya hpre⟩, hd⟩
      · exact r2 g hg hpre
    | false =>
      obtain ⟨hn, hgd, d, hdd⟩ := kindF_new (hr.kF f q1) hk
      obtain ⟨hd, v, x, h, hx⟩ := new_step hn hgd h
      have hrun : ∀ b, ∃ y, ∀ ι', Agree nxs.succ (ιs.at nxs b 0 0) ι' → ∀ w1 : World, w1.heap.size = b → (execOp cs.eval (opAt ops f)).run P w1 = .ok (.value (ren (ιs.at nxs b 0 0) v)) (w1.alloc y) ∧ ren ι' v = ren (ιs.at nxs b 0 0) v := by
        intro b
        have hag : Agree nxs ιs (ιs.at nxs b 0 0) := agree_at ιs nxs b 0 0
        obtain ⟨y, h1, h2⟩ := hx.2.2 (ιs.at nxs b 0 0) nt cs (hfit _ hag) (by simp [En.at])
        refine ⟨y, fun ι' hι w1 hw1 => ⟨h1 w1 (by simp [En.at, hw1]), ?_⟩⟩
        obtain ⟨ha, hb, hsh, _⟩ := agree_at' hι
        obtain ⟨y', h3, h4⟩ := hx.2.2 ι' nt cs (hfit _ ha) hsh
        have e1 := h1 w1 (by simp [En.at, hw1])
        have e2 := h3 w1 (by rw [hb, hw1])
        rw [e1] at e2
        simp only [Result.ok.injEq, Next.value.injEq] at e2
        exact e2.1.symm
      obtain ⟨b, hb⟩ : ∃ b, b = β f := ⟨_, rfl⟩
      obtain ⟨y, hy⟩ := hrun b
      obtain ⟨w1, hw1⟩ := world_of b
      obtain ⟨r1, r2⟩ := sp_walk hr hs sp (f :: CFs) _ _ nxs.succ (ιs.at nxs b 0 0) (cs.put (opAt ops f).dst (ren (ιs.at nxs b 0 0) v)) q5 (fun i hi => List.mem_cons_of_mem _ (hsub i hi)) h
        (fun ι' hι => tmps_put (hfit ι' (agree_at' hι).1) hd (hy ι' hι w1 hw1).2.symm)
        (fun t ht => later _ t hd (fun hLf d' hd' => by
          rcases hs.pend f q1 hLf (fun hc => q2 (hsub f hc)) with ⟨p0, _⟩ | ⟨_, y', d2, p1, p2, p3, p4, p5⟩
          · rw [hk] at p0; cases p0
          · rw [hd'] at p4
            cases p4
            have e1 := p5 w1 (by rw [hw1, hb])
            rw [exec_same hsel (hsame (hpreL hLf)), (hy _ (Agree.refl _ _) w1 hw1).1] at e1
            simp only [Result.ok.injEq, Next.value.injEq] at e1
            exact e1.1.symm) ht)
      refine ⟨r1, fun g hg hpre => ?_⟩
      rcases List.mem_cons.1 hg with rfl | hg
      · refine ⟨.inr ⟨hk, hgd, d, hdd, fun b' => ?_⟩, hd⟩
        obtain ⟨y', hy'⟩ := hrun b'
        exact ⟨_, y', fun w1 hw1 => by rw [exec_same hsel (hsame hpre)]; exact (hy' _ (Agree.refl _ _) w1 hw1).1⟩
      · exact r2 g hg hpre
end
end Go.Rex
namespace Go.Rex
open Go.RowKit
set_option linter.unusedSimpArgs false
set_option linter.unusedVariables false
section
variable {P : Program} {ops : Array Oper} {nt : Nat} {E F H : List Nat} {call : CallT} {L : Nat → Prop} {B S : Nat → Prop} {w0 w : World} {tm : Tm} {hp : Tr AO} {nx : Pz} {ι : En} {β : Nat → Nat} {c a : Act}
/-- A block made ahead becomes an object. -/
theorem core_adopt {o : AO} {y : Obj} {b : Nat} (hw : Wf hp nx) (hc : Core S w0 ι hp w) (hb : ι.blk nx = b) (hS : S b) (ho : famOf o = none) (hx : ∀ e s, o ≠ .fam e s) (hob : ObjOk ι (hp.set nx o) w nx o) :
    Core (fun k => S k ∧ k ≠ b) w0 ι (hp.set nx o) w := by
  have hne : ∀ i p, hp.get i = some p → i ≠ nx := fun i p hi e => by have := hw.lt _ _ hi; rw [e] at this; omega
  have hnb : ∀ i p, hp.get i = some p → own hp p → ι.blk i ≠ b := fun i p hi hp' e => hc.base _ _ hi hp' (e ▸ hS)
  refine ⟨hc.below.mono fun k hk => hk.1, fun k hk => hc.room k hk.1, ?_, ?_, ?_, ?_⟩
  · intro i p hi
    rcases get_set_cases hi with ⟨rfl, rfl⟩ | ⟨hi', hi⟩
    · exact hob
    · exact (hc.obj _ _ hi).keep (own_new hw hx) fun _ => rfl
  · intro i p hi ho'
    rcases get_set_cases hi with ⟨rfl, _⟩ | ⟨hi', hi⟩
    · rw [hb]; exact fun h => h.2 rfl
    · exact fun h => hc.base _ _ hi (own_new hw hx ho') h.1
  · intro i i' p p' hii hi hi' ho1 ho2 e
    rcases get_set_cases hi with ⟨h1, h2⟩ | ⟨h1, g1⟩
    · rcases get_set_cases hi' with ⟨h3, _⟩ | ⟨h3, g3⟩
      · exact absurd (h1.trans h3.symm) hii
      · rw [h1, hb] at e
        exact absurd e.symm (hnb _ _ g3 (own_new hw hx ho2))
    · rcases get_set_cases hi' with ⟨h3, _⟩ | ⟨h3, g3⟩
      · rw [h3, hb] at e
        exact absurd e (hnb _ _ g1 (own_new hw hx ho1))
      · exact hc.sep _ _ _ _ hii g1 g3 (own_new hw hx ho1) (own_new hw hx ho2) e
  · intro i i' f e es n el c f' e' tp' es' n' el' c' hii h h' hl hl'
    rcases get_set_cases h with ⟨_, h⟩ | ⟨_, h⟩
    · rw [h] at ho; cases ho
    · rcases get_set_cases h' with ⟨_, h'⟩ | ⟨_, h'⟩
      · rw [h'] at ho; cases ho
      · exact hc.tip _ _ _ _ _ _ _ _ _ _ _ _ _ _ _ hii h h' (own_new (o := .seg f e true es n el c) hw hx hl) (own_new (o := .seg f' e' tp' es' n' el' c') hw hx hl')
theorem core_rebase {w1 : World} (h : Core S w0 ι hp w) : Core S w ι hp w := ⟨Kept.refl _ _, h.room, h.obj, h.base, h.sep, h.tip⟩
/-! floating operations, taken in -/
theorem fs_walk (hr : Rg P ops E F H) {CE CH : List Nat} {K : Tm → Tr AO → Pz → Rs} : ∀ (fs CF : List Nat) (tm : Tm) (hp : Tr AO) (nx : Pz) (ι : En) (S : Nat → Prop) (c : Act), seqF ops E F CE fs CF = true →
    Sync P ops nt E F H CE CF CH L B S w0 tm hp nx ι β c a w → (∀ f ∈ fs, L f) → (regionB P nt ops (fs.map (opAt ops))).run call tm hp nx K = .ok →
    ∃ tm' hp' nx' ι' S' c', K tm' hp' nx' = .ok ∧ nx.num ≤ nx'.num ∧ Agree nx ι ι' ∧ Sync P ops nt E F H CE (fs.reverse ++ CF) CH L B S' w0 tm' hp' nx' ι' β c' a w
  | [], CF, tm, hp, nx, ι, S, c, _, hs, _, h => ⟨tm, hp, nx, ι, S, c, h, Nat.le_refl _, Agree.refl _ _, hs⟩
  | f :: fs, CF, tm, hp, nx, ι, S, c, hq, hs, hL, h => by
    simp only [seqF, Bool.and_eq_true, Bool.not_eq_true', List.all_eq_true, List.contains_iff_mem, Bool.or_eq_true] at hq
    obtain ⟨⟨⟨⟨q1, q2⟩, q3⟩, q4⟩, q5⟩ := hq
    have q2 : f ∉ CF := by simpa using q2
    have hlt := hr.ltF f q1
    have hsel := hr.sel f hlt
    have hLf := hL f (List.mem_cons_self ..)
    have hpre : ∀ i, bit (Region.before ops) f i = true → L i := fun i hb => before_ok L hs.down f i hLf hb
    have hsame : ∀ t ∈ (opAt ops f).looksAt ops, tv a t = tv c t := by
      intro t ht
      refine hs.link t fun i hi hid => ?_
      have hl := lk_of hid ht
      refine ⟨fun _ => ?_, fun _ => hpre i ((hr.ssa f hlt i hi).1 hl)⟩
      rcases hi with hi | hi
      · exact .inl ((q4 i hi).resolve_left (by simp [hl]))
      · exact .inr ((q3 i hi).resolve_left (by simp [hl]))
    have h : (stepB P nt ops (opAt ops f)).run call tm hp nx (fun tm hp nx => (regionB P nt ops (fs.map (opAt ops))).run call tm hp nx K) = .ok := h
    have later : ∀ (cv : Value) (t : Nat), (∀ d, (opAt ops f).dst = some d → d < nt) → (∀ d, (opAt ops f).dst = some d → tv a d = cv) →
        (∀ i, i ∈ E ∨ i ∈ F → (opAt ops i).dst = some t → (L i ↔ (i ∈ CE ∨ i ∈ f :: CF))) → tv a t = tv (c.put (opAt ops f).dst cv) t := by
      intro cv t hd hval ht
      by_cases hdt : (opAt ops f).dst = some t
      · rw [hval t hdt, hdt, tv_put_eq]
        rw [(hs.sat.2 ι (Agree.refl _ _)).1.size]
        exact hd t hdt
      · rw [tv_put_ne hdt]
        refine hs.link t fun i hi hid => (ht i hi hid).trans ?_
        have : i ≠ f := fun e => hdt (e ▸ hid)
        simp [this]
    have hfl : ∀ i ∈ f :: CF, L i := fun i hi => by
      rcases List.mem_cons.1 hi with rfl | hi
      · exact hLf
      · exact hs.fl i hi
    have hnot : ∀ {g}, g ∉ f :: CF → g ∉ CF ∧ g ≠ f := fun hg => ⟨fun h' => hg (List.mem_cons_of_mem _ h'), fun e => hg (e ▸ List.mem_cons_self ..)⟩
    cases hk : pureK P (opAt ops f) with
    | true =>
      obtain ⟨hd, v, h, hv⟩ := pure_step hk h
      have hy : ∀ ι', Agree nx ι ι' → ∀ w1, Yv P ops (opAt ops f) c w1 (ren ι' v) := fun ι' hι w1 => hv _ _ ι' c w1 (hs.sat.2 ι' hι).1 (core_e ι' w1)
      have hval : ∀ d, (opAt ops f).dst = some d → tv a d = ren ι v := fun d hdd => by
        rcases hs.pend f q1 hLf q2 with ⟨_, cv, p1, p2⟩ | ⟨p0, _⟩
        · rw [p2 d hdd]; exact (p1 default).det ((hy ι (Agree.refl _ _) default).same hsel (fun t ht => (hsame t ht).symm))
        · rw [hk] at p0; cases p0
      obtain ⟨tm', hp', nx', ι', S', c', g1, g2, g3, g4⟩ := fs_walk hr fs (f :: CF) _ hp nx ι S (c.put (opAt ops f).dst (ren ι v)) q5
        ⟨hs.down, hs.inn, hs.hv, hfl, hs.el, hs.kept, hs.sub, ⟨hs.sat.1, fun ι' hι => ⟨tmps_put (hs.sat.2 ι' hι).1 hd ((hy ι (Agree.refl _ _) default).det (hy ι' hι default)), (hs.sat.2 ι' hι).2⟩⟩,
          fun g hg hLg hgc => hs.pend g hg hLg (hnot hgc).1, fun g hg g' hg' l l' n n' => hs.inj g hg g' hg' l l' (hnot n).1 (hnot n').1, hs.size, (by rw [put_defers]; exact hs.defers), fun t ht => later _ t hd hval ht⟩
        (fun g hg => hL g (List.mem_cons_of_mem _ hg)) h
      exact ⟨tm', hp', nx', ι', S', c', g1, g2, g3, by simpa using g4⟩
    | false =>
      obtain ⟨hn, hgd, d, hdd⟩ := kindF_new (hr.kF f q1) hk
      obtain ⟨hd, v, x, h, hx⟩ := new_step hn hgd h
      rcases hs.pend f q1 hLf q2 with ⟨p0, _⟩ | ⟨_, y, d2, p1, p2, p3, p4, p5⟩
      · rw [hk] at p0; cases p0
      have hag : Agree nx ι (ι.at nx (β f) 0 0) := agree_at ι nx (β f) 0 0
      obtain ⟨w1, hw1⟩ := world_of (β f)
      have key : ∀ ι', Agree nx.succ (ι.at nx (β f) 0 0) ι' → tv a d2 = ren ι' v ∧ ∀ hp w', w'.heap[β f]? = some y → ObjOk ι' hp w' nx x := by
        intro ι' hι
        obtain ⟨ha, hb, hsh, _⟩ := agree_at' hι
        obtain ⟨y', h3, h4⟩ := hx.2.2 ι' nt c (hs.sat.2 ι' ha).1 hsh
        have e1 := p5 w1 hw1
        have e2 := h3 w1 (by rw [hb, hw1])
        rw [exec_same hsel hsame, e2] at e1
        simp only [Result.ok.injEq, Next.value.injEq] at e1
        refine ⟨e1.1.symm, fun hp w' hw' => h4 hp w' ?_⟩
        rw [hb, hw']
        have e3 := congrArg (fun (u : World) => u.heap[β f]?) e1.2
        rw [← hw1, heap_alloc_at, heap_alloc_at] at e3
        exact e3.symm
      have hval : ∀ d', (opAt ops f).dst = some d' → tv a d' = ren (ι.at nx (β f) 0 0) v := fun d' hd' => by
        rw [p4] at hd'
        cases hd'
        exact (key _ (Agree.refl _ _)).1
      have hsub' : ∀ k, B k → S k ∧ k ≠ β f := fun k hk => ⟨hs.sub k hk, fun e => p2 (e ▸ hk)⟩
      obtain ⟨tm', hp', nx', ι', S', c', g1, g2, g3, g4⟩ := fs_walk hr fs (f :: CF) _ (hp.set nx x) nx.succ (ι.at nx (β f) 0 0) (fun k => S k ∧ k ≠ β f) (c.put (opAt ops f).dst (ren (ι.at nx (β f) 0 0) v)) q5
        ⟨hs.down, hs.inn, hs.hv, hfl, hs.el, hs.kept, hsub', ⟨wf_new hs.sat.1 hx.1 hx.2.1, fun ι' hι => by
            obtain ⟨ha, hb, hsh, _⟩ := agree_at' hι
            obtain ⟨k1, k2⟩ := key ι' hι
            refine ⟨tmps_put (hs.sat.2 ι' ha).1 hd ?_, core_adopt (y := y) hs.sat.1 (hs.sat.2 ι' ha).2 hb p1 hx.1 hx.2.1 (k2 _ _ p3)⟩
            rw [← k1]
            exact (key _ (Agree.refl _ _)).1.symm⟩,
          fun g hg hLg hgc => by
            obtain ⟨n1, n2⟩ := hnot hgc
            rcases hs.pend g hg hLg n1 with hp' | ⟨r0, y', d', r1, r2, r3, r4, r5⟩
            · exact .inl hp'
            · exact .inr ⟨r0, y', d', ⟨r1, fun e => n2 (hs.inj g hg f q1 hLg hLf n1 q2 r0 hk e)⟩, r2, r3, r4, r5⟩,
          fun g hg g' hg' l l' n n' => hs.inj g hg g' hg' l l' (hnot n).1 (hnot n').1, hs.size, (by rw [put_defers]; exact hs.defers), fun t ht => later _ t hd hval ht⟩
        (fun g hg => hL g (List.mem_cons_of_mem _ hg)) h
      exact ⟨tm', hp', nx', ι', S', c', g1, by rw [Pz.num_succ] at g2; omega, hag.trans (agree_succ g3) (Nat.le_refl _), by simpa using g4⟩
end
end Go.Rex
namespace Go.Rex
open Go.RowKit
set_option linter.unusedSimpArgs false
set_option linter.unusedVariables false
section
variable {P : Program}
/-! equality -/
mutual
theorem eqV_ok : ∀ (a b : AV), eqV a b = true → a = b
  | .bool a, b, h => by
    cases b <;> simp [eqV] at h
    rw [h]
  | .int j a, b, h => by
    cases b <;> simp [eqV] at h
    rw [h.1, h.2]
  | .str j a, b, h => by
    cases b <;> simp only [eqV, Bool.and_eq_true, reduceCtorEq, Bool.false_eq_true] at h
    rw [beq_ok h.1, beq_ok h.2]
  | .float j a, b, h => by
    cases b <;> simp only [eqV, Bool.and_eq_true, decide_eq_true_eq, reduceCtorEq, Bool.false_eq_true] at h
    rw [h.1, beq_ok h.2]
  | .ptr j a, b, h => by
    cases b <;> simp only [eqV, Bool.and_eq_true, reduceCtorEq, Bool.false_eq_true] at h
    rw [pzEq_ok _ _ h.1, beq_ok h.2]
  | .nilp, b, h => by
    cases b <;> simp [eqV] at h
    rfl
  | .slice p o l c, b, h => by
    cases b <;> simp only [eqV, Bool.and_eq_true, reduceCtorEq, Bool.false_eq_true] at h
    rw [pzEq_ok _ _ h.1, beq_ok h.2.1, beq_ok h.2.2.1, beq_ok h.2.2.2]
  | .oslice p o l c, b, h => by
    cases b <;> simp only [eqV, Bool.and_eq_true, reduceCtorEq, Bool.false_eq_true] at h
    rw [pzEq_ok _ _ h.1, beq_ok h.2.1, beq_ok h.2.2.1, beq_ok h.2.2.2]
  | .nils, b, h => by
    cases b <;> simp [eqV] at h
    rfl
  | .map p, b, h => by
    cases b <;> simp only [eqV, Bool.and_eq_true, reduceCtorEq, Bool.false_eq_true] at h
    rw [pzEq_ok _ _ h]
  | .nilmap, b, h => by
    cases b <;> simp [eqV] at h
    rfl
  | .func f x y, b, h => by
    cases b <;> simp only [eqV, Bool.and_eq_true, decide_eq_true_eq, reduceCtorEq, Bool.false_eq_true] at h
    rw [h.1, eqVL_ok _ _ h.2.1, eqVL_ok _ _ h.2.2]
  | .nilfunc, b, h => by
    cases b <;> simp [eqV] at h
    rfl
  | .iface t v, b, h => by
    cases b <;> simp only [eqV, Bool.and_eq_true, reduceCtorEq, Bool.false_eq_true] at h
    rw [beq_ok h.1, eqV_ok _ _ h.2]
  | .nilIface, b, h => by
    cases b <;> simp [eqV] at h
    rfl
  | .agg xs, b, h => by
    cases b <;> simp only [eqV, Bool.and_eq_true, reduceCtorEq, Bool.false_eq_true] at h
    rw [eqVL_ok _ _ h]
  | .tup xs, b, h => by
    cases b <;> simp only [eqV, Bool.and_eq_true, reduceCtorEq, Bool.false_eq_true] at h
    rw [eqVL_ok _ _ h]
theorem eqVL_ok : ∀ (a b : List AV), eqVL a b = true → a = b
  | [], [], _ => rfl
  | x :: xs, y :: ys, h => by
    simp only [eqVL, Bool.and_eq_true] at h
    rw [eqV_ok _ _ h.1, eqVL_ok _ _ h.2]
  | [], _ :: _, h => by simp [eqVL] at h
  | _ :: _, [], h => by simp [eqVL] at h
end
theorem eqT_ok : ∀ (a b : Tr (List AV)), eqT a b = true → a = b
  | .e, b, h => by
    cases b with
    | e => rfl
    | n l v r => simp [eqT] at h
  | .n l none r, b, h => by
    cases b with
    | e => simp [eqT] at h
    | n l' v r' =>
      cases v with
      | some v => simp [eqT] at h
      | none =>
        simp only [eqT, Bool.and_eq_true] at h
        rw [eqT_ok _ _ h.1, eqT_ok _ _ h.2]
  | .n l (some u) r, b, h => by
    cases b with
    | e => simp [eqT] at h
    | n l' v r' =>
      cases v with
      | none => simp [eqT] at h
      | some v =>
        simp only [eqT, Bool.and_eq_true] at h
        rw [eqVL_ok _ _ h.1, eqT_ok _ _ h.2.1, eqT_ok _ _ h.2.2]
theorem eqE_ok : ∀ (a b : List ME), eqE a b = true → a = b
  | [], [], _ => rfl
  | ⟨a, b, c⟩ :: xs, ⟨a', b', c'⟩ :: ys, h => by
    simp only [eqE, Bool.and_eq_true] at h
    rw [eqV_ok _ _ h.1, eqV_ok _ _ h.2.1, beq_ok h.2.2.1, eqE_ok _ _ h.2.2.2]
  | [], _ :: _, h => by simp [eqE] at h
  | _ :: _, [], h => by simp [eqE] at h
theorem boolEq_ok {a b : Bool} (h : boolEq a b = true) : a = b := by cases a <;> cases b <;> first | rfl | cases h
theorem eqO_ok (a b : AO) (h : eqO a b = true) : a = b := by
  cases a <;> cases b <;> simp only [eqO, Bool.and_eq_true, reduceCtorEq, Bool.false_eq_true, decide_eq_true_eq] at h
  · rw [beq_ok h.1, beq_ok h.2.1, beq_ok h.2.2.1, eqT_ok _ _ h.2.2.2]
  · rw [pzEq_ok _ _ h.1, beq_ok h.2.1, boolEq_ok h.2.2.1, beq_ok h.2.2.2.1, beq_ok h.2.2.2.2.1, beq_ok h.2.2.2.2.2.1, eqT_ok _ _ h.2.2.2.2.2.2]
  · rw [beq_ok h.1, boolEq_ok h.2]
  · rw [beq_ok h.1, eqE_ok _ _ h.2]
  · rw [pzEq_ok _ _ h.1, beq_ok h.2.1, h.2.2.1, beq_ok h.2.2.2]
  · rfl
  · rfl
theorem subH_ok : ∀ (a b : Tr AO), subH a b = true → ∀ id o, a.get id = some o → b.get id = some o
  | .e, _, _, id, o, h => by cases id <;> simp [Tr.get] at h
  | .n l none r, .e, h, id, o, hg => by simp [subH] at h
  | .n l (some v) r, .e, h, id, o, hg => by simp [subH] at h
  | .n l (some v) r, .n l' none r', h, id, o, hg => by simp [subH] at h
  | .n l none r, .n l' v' r', h, id, o, hg => by
    simp only [subH, Bool.and_eq_true] at h
    cases id with
    | h => simp [Tr.get] at hg
    | o p => exact subH_ok l l' h.1 p o hg
    | i p => exact subH_ok r r' h.2 p o hg
  | .n l (some v) r, .n l' (some v') r', h, id, o, hg => by
    simp only [subH, Bool.and_eq_true] at h
    cases id with
    | h => simp only [Tr.get] at hg ⊢; rw [← hg, eqO_ok _ _ h.1]
    | o p => exact subH_ok l l' h.2.1 p o hg
    | i p => exact subH_ok r r' h.2.2 p o hg
/-! a part of a heap -/
def Part (a b : Tr AO) : Prop := ∀ id o, a.get id = some o → b.get id = some o
theorem Part.live {a b : Tr AO} (h : Part a b) {f : Pz} {ep : Nat} (hl : live a f ep) : live b f ep := hl.imp fun _ hs => h _ _ hs
theorem Part.own {a b : Tr AO} (h : Part a b) {o : AO} (hl : own a o) : own b o := by
  cases o with
  | seg => exact h.live hl
  | fam => exact hl
  | arr => trivial
  | map => trivial
  | iter => trivial
  | loop => trivial
  | dmark => trivial
  | gone => trivial
theorem core_part {B : Nat → Prop} {w0 w : World} {ι : En} {a b : Tr AO} (h : Part a b) (hc : Core B w0 ι b w) : Core B w0 ι a w :=
  ⟨hc.below, hc.room, fun id o hid => (hc.obj id o (h _ _ hid)).keep h.own (fun _ => rfl), fun id o hid ho => hc.base id o (h _ _ hid) (h.own ho),
    fun id id' o o' hne hid hid' ho ho' => hc.sep id id' o o' hne (h _ _ hid) (h _ _ hid') (h.own ho) (h.own ho'),
    fun id id' f ep es n el c f' ep' tp' es' n' el' c' hne hid hid' hl hl' => hc.tip id id' f ep es n el c f' ep' tp' es' n' el' c' hne (h _ _ hid) (h _ _ hid') (h.live hl) (h.live hl')⟩
theorem wf_part {a b : Tr AO} {nx nx' : Pz} (h : Part a b) (hle : nx.num ≤ nx'.num) (hw : Wf b nx) : Wf a nx' :=
  ⟨fun id o hid => Nat.lt_of_lt_of_le (hw.lt id o (h _ _ hid)) hle, fun id f ep tp es n el c hid => Nat.lt_of_lt_of_le (hw.fam id f ep tp es n el c (h _ _ hid)) hle,
    fun id f ep tp es n el c e s hid hf => hw.ep id f ep tp es n el c e s (h _ _ hid) (h _ _ hf),
    fun f e id id' tp es n el c tp' es' n' el' c' hf hid hid' => hw.solo f e id id' tp es n el c tp' es' n' el' c' (h _ _ hf) (h _ _ hid) (h _ _ hid')⟩
theorem eqOct_ok {α : Type} {f : α → α → Bool} (hf : ∀ x y, f x y = true → x = y) {a b : Oct α} (h : eqOct f a b = true) : a = b := by
  obtain ⟨a0, a1, a2, a3, a4, a5, a6, a7⟩ := a
  obtain ⟨b0, b1, b2, b3, b4, b5, b6, b7⟩ := b
  simp only [eqOct, Bool.and_eq_true] at h
  obtain ⟨h0, h1, h2, h3, h4, h5, h6, h7⟩ := h
  rw [hf _ _ h0, hf _ _ h1, hf _ _ h2, hf _ _ h3, hf _ _ h4, hf _ _ h5, hf _ _ h6, hf _ _ h7]
theorem eqTr_ok {α : Type} {f : α → α → Bool} (hf : ∀ x y, f x y = true → x = y) : ∀ (a b : Tr α), eqTr f a b = true → a = b
  | .e, b, h => by
    cases b with
    | e => rfl
    | n l v r => simp [eqTr] at h
  | .n l none r, b, h => by
    cases b with
    | e => simp [eqTr] at h
    | n l' v r' =>
      cases v with
      | some v => simp [eqTr] at h
      | none =>
        simp only [eqTr, Bool.and_eq_true] at h
        rw [eqTr_ok hf _ _ h.1, eqTr_ok hf _ _ h.2]
  | .n l (some u) r, b, h => by
    cases b with
    | e => simp [eqTr] at h
    | n l' v r' =>
      cases v with
      | none => simp [eqTr] at h
      | some v =>
        simp only [eqTr, Bool.and_eq_true] at h
        rw [hf _ _ h.1, eqTr_ok hf _ _ h.2.1, eqTr_ok hf _ _ h.2.2]
theorem eqPzL_ok : ∀ (a b : List Pz), eqPzL a b = true → a = b
  | [], [], _ => rfl
  | x :: xs, y :: ys, h => by
    simp only [eqPzL, Bool.and_eq_true] at h
    rw [pzEq_ok _ _ h.1, eqPzL_ok _ _ h.2]
  | [], _ :: _, h => by simp [eqPzL] at h
  | _ :: _, [], h => by simp [eqPzL] at h
theorem eqTm_ok {a b : Tm} (h : eqTm a b = true) : a = b := by
  obtain ⟨lo, hi, ml⟩ := a
  obtain ⟨lo', hi', ml'⟩ := b
  simp only [eqTm, Bool.and_eq_true] at h
  rw [eqOct_ok (fun _ _ h => eqOct_ok eqV_ok h) h.1, eqTr_ok eqV_ok _ _ h.2.1, eqPzL_ok _ _ h.2.2]
end
end Go.Rex
namespace Go.Rex
open Go.RowKit
set_option linter.unusedSimpArgs false
set_option linter.unusedVariables false
section
variable {P : Program} {ops : Array Oper} {nt : Nat} {E F H : List Nat} {call : CallT} {L : Nat → Prop} {B S : Nat → Prop} {w0 w : World} {tm : Tm} {hp : Tr AO} {nx : Pz} {ι : En} {β : Nat → Nat} {c a : Act}
theorem seqE_mem {CF : List Nat} : ∀ (es CE : List Nat), seqE ops E F CF es CE = true → ∀ i ∈ es, i ∈ E ∧ ∀ f ∈ F, lk ops i f = true → f ∈ CF
  | [], _, _, i, hi => by simp at hi
  | j :: es, CE, hq, i, hi => by
    simp only [seqE, Bool.and_eq_true, Bool.not_eq_true', List.all_eq_true, List.contains_iff_mem, Bool.or_eq_true] at hq
    obtain ⟨⟨⟨⟨q1, q2⟩, q3⟩, q4⟩, q5⟩ := hq
    rcases List.mem_cons.1 hi with rfl | hi
    · exact ⟨q1, fun f hf hl => (q3 f hf).resolve_left (by simp [hl])⟩
    · exact seqE_mem es _ q5 i hi
theorem Pend.put {o : Oper} {β : Nat} {d : Option Tmp} {cv : Value} (hs : notSel o = true) (h1 : ∀ t, d = some t → t ∉ o.looksAt ops) (h2 : ∀ t, d = some t → o.dst ≠ some t) (h : Pend P ops B S β a w o) : Pend P ops B S β (a.put d cv) w o := by
  have hsame : ∀ t ∈ o.looksAt ops, tv a t = tv (a.put d cv) t := fun t ht => (tv_put_ne fun e => h1 t e ht).symm
  have hval : ∀ t, o.dst = some t → tv (a.put d cv) t = tv a t := fun t ht => tv_put_ne fun e => h2 t e ht
  rcases h with ⟨hk, v, g1, g2⟩ | ⟨hk, y, e, g1, g2, g3, g4, g5⟩
  · exact .inl ⟨hk, v, fun w1 => (g1 w1).same hs hsame, fun t ht => by rw [hval t ht]; exact g2 t ht⟩
  · exact .inr ⟨hk, y, e, g1, g2, g3, g4, fun w1 hw1 => by rw [← exec_same hs hsame, hval e g4]; exact g5 w1 hw1⟩
theorem Pend.world {o : Oper} {β : Nat} {w' : World} {S' : Nat → Prop} (hS : ∀ k, S k → S' k) (hw : S β → w'.heap[β]? = w.heap[β]?) (h : Pend P ops B S β a w o) : Pend P ops B S' β a w' o := by
  rcases h with h | ⟨hk, y, e, g1, g2, g3, g4, g5⟩
  · exact .inl h
  · exact .inr ⟨hk, y, e, hS _ g1, g2, by rw [hw g1]; exact g3, g4, g5⟩
/-- Where the plan stands, between two of its heavy operations. -/
structure Here (P : Program) (ops : Array Oper) (nt : Nat) (E F H : List Nat) (call : CallT) (X : List Nat) (K : Tm → Tr AO → Pz → Rs) (nx0 : Pz) (ι0 : En) (ph : Ph) (rest : List Ph) (CE CF CH : List Nat) (L : Nat → Prop) (B S : Nat → Prop) (w0 : World) (tm : Tm) (hp : Tr AO) (nx : Pz) (ι : En) (β : Nat → Nat) (c a : Act) (w : World) : Prop where
  sync : Sync P ops nt E F H CE CF CH L B S w0 tm hp nx ι β c a w
  le : nx0.num ≤ nx.num
  agr : Agree nx0 ι0 ι
  ce : ∀ i ∈ CE, i ∈ E
  ch : ∀ i ∈ CH, i ∈ H
  fact : ∀ i, i ∈ ph.es ∨ i ∈ ph.rs → i ∈ CE ∧ EFact P ops nt tm hp (opAt ops i) ∧ ∀ f ∈ F, lk ops i f = true → f ∈ CF
  covE : ∀ i ∈ E, i ∈ ph.es ∨ i ∈ ph.rs ∨ (∃ h ∈ H, h ∉ CH ∧ bit (Region.before ops) i h = true) ∨ ∃ h ∈ CH, bit (Region.before ops) h i = true
  covF : ∀ f ∈ F, f ∈ CF ∨ f ∈ ph.sp ∨ ∃ h ∈ H, h ∉ CH ∧ bit (Region.before ops) f h = true
  sp : seqF ops E F CE ph.sp CF = true
  fs : seqF ops E F CE ph.fs CF = true
  run : (regionB P nt ops (ph.sp.map (opAt ops))).run call tm hp nx (fun _ _ _ =>
    (regionB P nt ops (ph.fs.map (opAt ops))).run call tm hp nx fun tm hp nx =>
    Option.rec (motive := fun _ => Rs) (K tm hp nx) (fun h => (stepB P nt ops (opAt ops h)).run call tm hp nx fun tm hp nx => (drawB P nt ops rest).run call tm hp nx K) ph.h) = .ok
  tail : match ph.h with
    | some h => h ∈ H ∧ h ∉ CH ∧ (∀ h' ∈ H, h' ∈ CH ∨ h' = h ∨ bit (Region.before ops) h' h = true ∨ h' ∈ X) ∧ (∀ f ∈ F, lk ops h f = true → f ∈ ph.fs.reverse ++ CF) ∧
        (∀ f ∈ F, f ∈ ph.fs.reverse ++ CF ∨ lk ops f h = false ∨ bit (Region.before ops) f h = true) ∧ (∀ f ∈ ph.fs, bit (Region.before ops) h f = true) ∧ phsOk ops (Region.before ops) E F H rest CE (ph.fs.reverse ++ CF) (h :: CH) = true
    | none => (∀ i ∈ E, i ∈ CE) ∧ (∀ i ∈ F, i ∈ ph.fs.reverse ++ CF) ∧ ∀ i ∈ H, i ∈ CH
theorem enter_ph (hr : Rg P ops E F H) {X : List Nat} {K : Tm → Tr AO → Pz → Rs} {nx0 : Pz} {ι0 : En} {ph : Ph} {rest : List Ph} {CE CF CH : List Nat} (h2n : ph.h2 = none) (hq : phsOk ops (Region.before ops) E F H (ph :: rest) CE CF CH = true) (hs : Sync P ops nt E F H CE CF CH L B S w0 tm hp nx ι β c a w)
    (hle : nx0.num ≤ nx.num) (ha : Agree nx0 ι0 ι) (hce : ∀ i ∈ CE, i ∈ E) (hch : ∀ i ∈ CH, i ∈ H) (h : (drawB P nt ops (ph :: rest)).run call tm hp nx K = .ok) : ∃ tm' c', Here P ops nt E F H call X K nx0 ι0 ph rest (ph.es.reverse ++ CE) CF CH L B S w0 tm' hp nx ι β c' a w := by
  simp only [phsOk, Bool.and_eq_true] at hq
  obtain ⟨⟨⟨⟨⟨⟨q1, q2⟩, q3⟩, q4⟩, q5⟩, q6⟩, q7⟩ := hq
  have h : (regionB P nt ops (ph.es.map (opAt ops))).run call tm hp nx (fun tm hp nx =>
    (againAll P nt ops (ph.rs.map (opAt ops))).run call tm hp nx fun tm hp nx =>
    (regionB P nt ops (ph.sp.map (opAt ops))).run call tm hp nx fun _ _ _ =>
    (regionB P nt ops (ph.fs.map (opAt ops))).run call tm hp nx fun tm hp nx =>
    Option.rec (motive := fun _ => Rs) (K tm hp nx) (fun h => (stepB P nt ops (opAt ops h)).run call tm hp nx fun tm hp nx => (drawB P nt ops rest).run call tm hp nx K) ph.h) = .ok := by
    have h : (phB P nt ops ph (drawB P nt ops rest)).run call tm hp nx K = .ok := h
    unfold phB at h
    rw [h2n] at h
    exact h
  obtain ⟨tm', c', h, hs', hf⟩ := es_walk hr ph.es CE [] tm c q1 hs h (fun g hg => by simp at hg)
  simp only [List.all_eq_true, Bool.and_eq_true, List.contains_iff_mem, Bool.or_eq_true, Bool.not_eq_true', List.any_eq_true] at q2 q3 q4
  have hes := seqE_mem ph.es CE q1
  obtain ⟨h, hrs⟩ := againAll_ok _ (fun o ho => by
    obtain ⟨i, hi, rfl⟩ := List.mem_map.1 ho
    exact hr.kE i (hce i (q2 i hi).1)) h
  refine ⟨tm', c', hs', hle, ha, fun i hi => ?_, hch, fun i hi => ?_, fun i hi => ?_, fun f hf => ?_, q5, q6, h, ?_⟩
  · rcases List.mem_append.1 hi with hi | hi
    · exact (hes i (List.mem_reverse.1 hi)).1
    · exact hce i hi
  · rcases hi with hi | hi
    · exact ⟨List.mem_append_left _ (List.mem_reverse.2 hi), hf i (.inr hi), (hes i hi).2⟩
    · exact ⟨List.mem_append_right _ (q2 i hi).1, hrs _ (List.mem_map.2 ⟨i, hi, rfl⟩), fun f hff hl => ((q2 i hi).2 f hff).resolve_left (by simp [hl])⟩
  · rcases q3 i hi with ((h1 | h1) | ⟨h1, h2, h3, h4⟩) | ⟨h1, h2, h3⟩
    · exact .inl h1
    · exact .inr (.inl h1)
    · exact .inr (.inr (.inl ⟨h1, h2, by simpa using h3, h4⟩))
    · exact .inr (.inr (.inr ⟨h1, h2, h3⟩))
  · rcases q4 f hf with (h1 | h1) | ⟨h1, h2, h3, h4⟩
    · exact .inl h1
    · exact .inr (.inl h1)
    · exact .inr (.inr ⟨h1, h2, by simpa using h3, h4⟩)
  · cases hh : ph.h with
    | none =>
      rw [hh, h2n] at q7
      simp only [List.all_eq_true, Bool.and_eq_true, List.contains_iff_mem] at q7
      exact ⟨q7.1.1, q7.1.2, q7.2⟩
    | some h' =>
      rw [hh, h2n] at q7
      simp only [List.all_eq_true, Bool.and_eq_true, List.contains_iff_mem, Bool.or_eq_true, Bool.not_eq_true', beq_iff_eq] at q7
      obtain ⟨⟨⟨⟨⟨⟨r1, r2⟩, r3⟩, r4⟩, r5⟩, r6⟩, r7⟩ := q7
      exact ⟨r1, by simpa using r2, fun x hx => (or_assoc.1 (r3 x hx)).imp_right fun h => h.imp_right .inl, fun f hf hl => (r4 f hf).resolve_left (by simp [hl]), fun f hf => or_assoc.1 (r5 f hf), r6, r7⟩
/-- Where a drawn region stands: one plan; or two, of two writes that may stand in either order. -/
def J (P : Program) (ops : Array Oper) (nt : Nat) (E F H : List Nat) (call : CallT) (B : Nat → Prop) (w0 : World) (nx0 : Pz) (ι0 : En) (Z : Act → World → Prop) (L : Nat → Prop) (a : Act) (w : World) : Prop :=
  (∃ K, AfterS B w0 nt ι0 nx0 K Z ∧ ∃ ph rest CE CF CH S tm hp nx ι β c, Here P ops nt E F H call [] K nx0 ι0 ph rest CE CF CH L B S w0 tm hp nx ι β c a w) ∨
  (∃ hA hB KA KB, hA ≠ hB ∧ AfterS B w0 nt ι0 nx0 KA Z ∧ AfterS B w0 nt ι0 nx0 KB Z ∧
    (∃ ph rest CE CF CH S tm hp nx ι β c, ph.h = some hA ∧ (∀ f ∈ F, f ∈ CF) ∧ Here P ops nt E F H call [hB] KA nx0 ι0 ph rest CE CF CH L B S w0 tm hp nx ι β c a w) ∧
    (∃ ph rest CE CF CH S tm hp nx ι β c, ph.h = some hB ∧ (∀ f ∈ F, f ∈ CF) ∧ Here P ops nt E F H call [hA] KB nx0 ι0 ph rest CE CF CH L B S w0 tm hp nx ι β c a w))
theorem step_store {o : Oper} (ho : storeO o = true) {k : Tm → Tr AO → Pz → Rs} (h : (stepB P nt ops o).run call tm hp nx k = .ok) : ∃ hp', k tm hp' nx = .ok := by
  unfold storeO at ho
  simp only [Bool.and_eq_true, Option.isNone_iff_eq_none] at ho
  obtain ⟨h1, h2, h3⟩ := ho
  unfold stepB at h
  rw [h3] at h
  simp only at h
  unfold putB at h
  rw [h2] at h
  simp only at h
  cases hop : o.op with
  | store t x y =>
    unfold opB at h
    rw [hop] at h
    simp only at h
    cases hi : P.info? t with
    | none => rw [hi] at h; cases h
    | some i =>
      rw [hi] at h
      simp only at h
      obtain ⟨p, h, _⟩ := evB_ok h
      obtain ⟨v, h, _⟩ := evB_ok h
      obtain ⟨id, off, rfl, g⟩ := asPtr_ok h
      obtain ⟨_, g⟩ := ifK_ok g
      obtain ⟨hp', g, _⟩ := writeCells_ok g
      exact ⟨hp', g⟩
  | _ => rw [hop] at h1; cases h1
theorem last_store {h : Nat} {rs : List Nat} (ho : storeO (opAt ops h) = true) (hk : ∀ i ∈ rs, lightK P (opAt ops i) = true) {K : Tm → Tr AO → Pz → Rs} (hr : (lastB P nt ops h rs).run call tm hp nx K = .ok) : ∃ hp', K tm hp' nx = .ok := by
  have hr : (againAll P nt ops (rs.map (opAt ops))).run call tm hp nx (fun tm hp nx => (stepB P nt ops (opAt ops h)).run call tm hp nx fun tm hp nx => K tm hp nx) = .ok := hr
  obtain ⟨hr, _⟩ := againAll_ok _ (fun o ho => by
    obtain ⟨i, hi, rfl⟩ := List.mem_map.1 ho
    exact hk i hi) hr
  exact step_store ho hr
theorem tail_phs {CE CF CH : List Nat} {h : Nat} {rs : List Nat} (ht : tailOk ops (Region.before ops) E F H h rs CE CF CH = true) : phsOk ops (Region.before ops) E F H (lastPh h rs) CE CF CH = true ∧ (∀ i ∈ rs, i ∈ CE) ∧ (∀ f ∈ F, f ∈ CF) := by
  unfold tailOk at ht
  simp only [Bool.and_eq_true] at ht
  obtain ⟨⟨⟨⟨⟨⟨q1, q2⟩, q3⟩, q4⟩, q5⟩, q6⟩, q7⟩ := ht
  refine ⟨?_, fun i hi => ?_, fun f hf => ?_⟩
  · simp only [lastPh, phsOk, seqE, seqF, Bool.and_eq_true, Bool.true_and, List.all_nil, List.reverse_nil, List.nil_append, Bool.and_true]
    simp only [List.all_eq_true, Bool.and_eq_true, List.contains_iff_mem, Bool.or_eq_true, Bool.not_eq_true', beq_iff_eq, List.any_eq_true, List.contains_nil, Bool.false_or] at q1 q2 q3 q4 q5 q6 q7 ⊢
    refine ⟨⟨⟨q1, fun i hi => ?_⟩, fun f hf => .inl (.inl (q3 f hf))⟩, ⟨⟨⟨q5, fun i hi => ?_⟩, fun f hf => .inr (q3 f hf)⟩, fun f hf => .inl (.inl (q3 f hf))⟩, ⟨fun i hi => .inr (q7 i hi), fun f hf => .inl (.inl (q3 f hf))⟩, ⟨q2, q3⟩, q4⟩
    · rcases q6 i hi with (h' | h') | h'
      · exact .inl (.inl h')
      · exact .inl (.inr ⟨h, q5.1, q5.2, h'⟩)
      · exact .inr h'
    · rcases List.mem_cons.1 (q4 i hi) with h' | h'
      · exact .inl (.inr h')
      · exact .inl (.inl h')
  · have := (List.all_eq_true.1 q1) i hi
    rw [Bool.and_eq_true, List.contains_iff_mem] at this
    exact this.1
  · exact List.contains_iff_mem.1 ((List.all_eq_true.1 q3) f hf)
theorem enter_any (hr : Rg P ops E F H) {K : Tm → Tr AO → Pz → Rs} {nx0 : Pz} {ι0 : En} {Z : Act → World → Prop} (hn : AfterS B w0 nt ι0 nx0 K Z) {ph : Ph} {rest : List Ph} {CE CF CH : List Nat} (hq : phsOk ops (Region.before ops) E F H (ph :: rest) CE CF CH = true) (hs : Sync P ops nt E F H CE CF CH L B S w0 tm hp nx ι β c a w)
    (hle : nx0.num ≤ nx.num) (ha : Agree nx0 ι0 ι) (hce : ∀ i ∈ CE, i ∈ E) (hch : ∀ i ∈ CH, i ∈ H) (h : (drawB P nt ops (ph :: rest)).run call tm hp nx K = .ok) : J P ops nt E F H call B w0 nx0 ι0 Z L a w := by
  cases h2 : ph.h2 with
  | none =>
    obtain ⟨tm', c', hh⟩ := enter_ph hr (X := []) h2 hq hs hle ha hce hch h
    exact .inl ⟨K, hn, _, _, _, _, _, _, _, _, _, _, _, _, hh⟩
  | some q =>
    obtain ⟨hB, rsA, rsB⟩ := q
    simp only [phsOk, Bool.and_eq_true] at hq
    obtain ⟨⟨⟨⟨⟨⟨q1, q2⟩, q3⟩, q4⟩, q5⟩, q6⟩, q7⟩ := hq
    have h : (phB P nt ops ph (drawB P nt ops rest)).run call tm hp nx K = .ok := h
    unfold phB at h
    rw [h2] at h
    simp only at h
    cases h1 : ph.h with
    | none => rw [h1] at h; cases h
    | some hA =>
      rw [h1] at h
      rw [h1, h2] at q7
      simp only [Bool.and_eq_true] at q7
      obtain ⟨⟨⟨⟨⟨⟨⟨⟨⟨⟨⟨s1, s2⟩, s3⟩, ⟨r1, r2⟩⟩, ⟨r3, r4⟩⟩, r5⟩, r6⟩, r7⟩, r8⟩, r9⟩, r10⟩, r11⟩ := q7
      have h : (regionB P nt ops (ph.es.map (opAt ops))).run call tm hp nx (fun tm hp nx =>
        (againAll P nt ops (ph.rs.map (opAt ops))).run call tm hp nx fun tm hp nx => forkB P nt ops hA hB rsA rsB call tm hp nx K) = .ok := h
      obtain ⟨tm', c', h, hs', hf⟩ := es_walk hr ph.es CE [] tm c q1 hs h (fun g hg => by simp at hg)
      simp only [List.all_eq_true, Bool.and_eq_true, List.contains_iff_mem, Bool.or_eq_true, Bool.not_eq_true', List.any_eq_true] at q2 q3 q4
      have hes := seqE_mem ph.es CE q1
      obtain ⟨h, hrs⟩ := againAll_ok _ (fun o ho => by
        obtain ⟨i, hi, rfl⟩ := List.mem_map.1 ho
        exact hr.kE i (hce i (q2 i hi).1)) h
      have r1 := List.contains_iff_mem.1 r1
      have r3 := List.contains_iff_mem.1 r3
      have r2 : hA ∉ CH := fun hm => by rw [List.contains_iff_mem.2 hm] at r2; cases r2
      have r4 : hB ∉ CH := fun hm => by rw [List.contains_iff_mem.2 hm] at r4; cases r4
      have r5 : hA ≠ hB := fun e => by rw [e] at r5; simp at r5
      have r7 : ∀ f ∈ F, f ∈ CF := fun f hf => List.contains_iff_mem.1 ((List.all_eq_true.1 r7) f hf)
      have r6 : ∀ h' ∈ H, h' ∈ CH ∨ h' = hA ∨ h' = hB := fun h' hh' => by
        have := (List.all_eq_true.1 r6) h' hh'
        simp only [Bool.or_eq_true, beq_iff_eq, List.contains_iff_mem] at this
        exact or_assoc.1 this
      obtain ⟨a1, a2, _⟩ := tail_phs r10
      obtain ⟨b1, b2, _⟩ := tail_phs r11
      have hce' : ∀ i ∈ ph.es.reverse ++ CE, i ∈ E := fun i hi => by
        rcases List.mem_append.1 hi with hi | hi
        · exact (hes i (List.mem_reverse.1 hi)).1
        · exact hce i hi
      have hfact : ∀ i, i ∈ ph.es ∨ i ∈ ph.rs → i ∈ ph.es.reverse ++ CE ∧ EFact P ops nt tm' hp (opAt ops i) ∧ ∀ f ∈ F, lk ops i f = true → f ∈ CF := fun i hi => by
        rcases hi with hi | hi
        · exact ⟨List.mem_append_left _ (List.mem_reverse.2 hi), hf i (.inr hi), (hes i hi).2⟩
        · exact ⟨List.mem_append_right _ (q2 i hi).1, hrs _ (List.mem_map.2 ⟨i, hi, rfl⟩), fun f hff hl => ((q2 i hi).2 f hff).resolve_left (by simp [hl])⟩
      have hcovE : ∀ i ∈ E, i ∈ ph.es ∨ i ∈ ph.rs ∨ (∃ h ∈ H, h ∉ CH ∧ bit (Region.before ops) i h = true) ∨ ∃ h ∈ CH, bit (Region.before ops) h i = true := fun i hi => by
        rcases q3 i hi with ((h1 | h1) | ⟨h1, h2, h3, h4⟩) | ⟨h1, h2, h3⟩
        · exact .inl h1
        · exact .inr (.inl h1)
        · exact .inr (.inr (.inl ⟨h1, h2, by simpa using h3, h4⟩))
        · exact .inr (.inr (.inr ⟨h1, h2, h3⟩))
      have kA : ∀ i ∈ rsA, lightK P (opAt ops i) = true := fun i hi => hr.kE i (hce' i (a2 i hi))
      have kB : ∀ i ∈ rsB, lightK P (opAt ops i) = true := fun i hi => hr.kE i (hce' i (b2 i hi))
      -- the first order's run, and what it ends in
      have hA0 : (stepB P nt ops (opAt ops hA)).run call tm' hp nx (fun tm1 hp1 nx1 => (lastB P nt ops hB rsA).run call tm1 hp1 nx1 (forkKA P nt ops hA hB rsB call tm' hp nx K)) = .ok := h
      obtain ⟨hp1, g1⟩ := step_store r8 hA0
      obtain ⟨hpA, g2⟩ := last_store r9 kA g1
      have hB0 : (stepB P nt ops (opAt ops hB)).run call tm' hp nx (fun tm1 hp1 nx1 => (lastB P nt ops hA rsB).run call tm1 hp1 nx1 (forkKB K tm' hpA nx)) = .ok := g2
      have afA : AfterS B w0 nt ι0 nx0 (forkKA P nt ops hA hB rsB call tm' hp nx K) Z := by
        intro tmx hpx nxx ι2 a' w' hk hle' ha' hs2
        have hk : (stepB P nt ops (opAt ops hB)).run call tm' hp nx (fun tm1 hp1 nx1 => (lastB P nt ops hA rsB).run call tm1 hp1 nx1 (forkKB K tmx hpx nxx)) = .ok := hk
        obtain ⟨hp1, hk⟩ := step_store r9 hk
        obtain ⟨hpB, hk⟩ := last_store r8 kB hk
        obtain ⟨_, hk⟩ := ifK_ok hk
        obtain ⟨_, hk⟩ := ifK_ok hk
        obtain ⟨_, hk⟩ := ifK_ok hk
        exact hn tmx hpx nxx ι2 a' w' hk hle' ha' hs2
      have afB : AfterS B w0 nt ι0 nx0 (forkKB K tm' hpA nx) Z := by
        intro tmx hpx nxx ι2 a' w' hk hle' ha' hs2
        obtain ⟨e1, k1⟩ := ifK_ok hk
        obtain ⟨e2, k2⟩ := ifK_ok k1
        obtain ⟨e3, k3⟩ := ifK_ok k2
        have e1 := eqTm_ok e1
        have e2 := pzEq_ok _ _ e2
        have e3 : Part hpA hpx := subH_ok _ _ e3
        subst e1
        subst e2
        exact hn _ _ _ ι2 a' w' k3 hle' ha' ⟨wf_part e3 (Nat.le_refl _) hs2.1, fun ι' hι => ⟨(hs2.2 ι' hι).1, core_part e3 (hs2.2 ι' hι).2⟩⟩
      refine .inr ⟨hA, hB, _, _, r5, afA, afB, ⟨⟨ph.es, ph.rs, [], [], some hA, none⟩, lastPh hB rsA, ph.es.reverse ++ CE, CF, CH, S, tm', hp, nx, ι, β, c', rfl, r7, ?_⟩, ⟨⟨ph.es, ph.rs, [], [], some hB, none⟩, lastPh hA rsB, ph.es.reverse ++ CE, CF, CH, S, tm', hp, nx, ι, β, c', rfl, r7, ?_⟩⟩
      · exact ⟨hs', hle, ha, hce', hch, hfact, hcovE, fun f hf => .inl (r7 f hf), rfl, rfl, hA0, r1, r2, fun h' hh' => (r6 h' hh').imp_right fun h => h.imp_right fun e => .inr (by simp [e]), fun f hf _ => r7 f hf, fun f hf => .inl (r7 f hf), fun f hf => by simp at hf, a1⟩
      · exact ⟨hs', hle, ha, hce', hch, hfact, hcovE, fun f hf => .inl (r7 f hf), rfl, rfl, hB0, r3, r4, fun h' hh' => (r6 h' hh').imp_right fun h => by
          rcases h with e | e
          · exact .inr (.inr (by simp [e]))
          · exact .inl e, fun f hf _ => r7 f hf, fun f hf => .inl (r7 f hf), fun f hf => by simp at hf, b1⟩
/-- The step of an operation that is ready. -/
theorem sync_step (hr : Rg P ops E F H) {CE CF CH : List Nat} {i : Nat} {cv : Value} (hs : Sync P ops nt E F H CE CF CH L B S w0 tm hp nx ι β c a w) (hi : i < ops.size) (hL : ¬ L i) (hpre : ∀ e ∈ (opAt ops i).after, Region.binds .any e = true → L e.on)
    (hiH : i ∉ H) (hce : ∀ j ∈ CE, j ∈ E) (hiE : i ∈ E → i ∈ CE) {w' : World} {S' : Nat → Prop} {β' : Nat → Nat} (hkept : Kept B w0 w') (hsub : ∀ k, B k → S' k) (hsat : Sat S' w' nt tm hp nx ι c w')
    (hpend : ∀ f ∈ F, L f → f ∉ CF → Pend P ops B S (β f) (a.put (opAt ops i).dst cv) w (opAt ops f) → Pend P ops B S' (β' f) (a.put (opAt ops i).dst cv) w' (opAt ops f)) (hnew : i ∈ F → Pend P ops B S' (β' i) (a.put (opAt ops i).dst cv) w' (opAt ops i))
    (hinj : ∀ f ∈ F, ∀ g ∈ F, (f = i ∨ L f) → (g = i ∨ L g) → f ∉ CF → g ∉ CF → pureK P (opAt ops f) = false → pureK P (opAt ops g) = false → β' f = β' g → f = g)
    (hlink : ∀ t, (opAt ops i).dst = some t → i ∈ E → cv = tv c t ∧ t < nt) : Sync P ops nt E F H CE CF CH (fun j => j = i ∨ L j) B S' w0 tm hp nx ι β' c (a.put (opAt ops i).dst cv) w' := by
  have hicf : i ∉ CF := fun h => hL (hs.fl i h)
  refine ⟨fun j o ho hj e he hb => ?_, fun j hj => ?_, fun j hj => ?_, fun j hj => .inr (hs.fl j hj), fun j hj hLj => ?_, hkept, hsub, hsat, fun f hf hLf hfc => ?_, hinj, by rw [put_size]; exact hs.size, by rw [put_defers]; exact hs.defers, fun t ht => ?_⟩
  · rcases hj with rfl | hj
    · rw [at_of hi] at ho
      cases ho
      exact .inr (hpre e he hb)
    · exact .inr (hs.down j o ho hj e he hb)
  · rcases hj with rfl | hj
    · exact hi
    · exact hs.inn j hj
  · rw [← hs.hv j hj]
    have : j ≠ i := fun e => hiH (e ▸ hj)
    simp [this]
  · rcases hLj with rfl | hLj
    · exact hiE hj
    · exact hs.el j hj hLj
  · rcases hLf with rfl | hLf
    · exact hnew hf
    · have hfi : f ≠ i := fun e => hL (e ▸ hLf)
      refine hpend f hf hLf hfc ((hs.pend f hf hLf hfc).put (hr.sel f (hr.ltF f hf)) (fun t ht hl => ?_) (fun t ht e => ?_))
      · have hlk := lk_of ht hl
        have hcase : i ∈ E ∨ i ∈ F := by
          rcases hr.cov i hi with h | h | h
          · exact .inl h.1
          · exact .inr h.2.1
          · exact absurd h.2.2 hiH
        exact hL (before_ok L hs.down f i hLf ((hr.ssa f (hr.ltF f hf) i hcase).1 hlk))
      · exact (hr.ssa i hi f (.inr hf)).2 (fun e => hfi e.symm) t e ht
  · by_cases hd : (opAt ops i).dst = some t
    · rcases hr.cov i hi with h | h | h
      · obtain ⟨h1, h2⟩ := hlink t hd h.1
        rw [hd, tv_put_eq (by rw [hs.size]; exact h2), h1]
      · exfalso
        rcases (ht i (.inr h.2.1) hd).1 (.inl rfl) with h' | h'
        · exact h.1 (hce i h')
        · exact hicf h'
      · exact absurd h.2.2 hiH
    · rw [tv_put_ne hd]
      refine hs.link t fun j hj hjd => ?_
      have := ht j hj hjd
      have hji : j ≠ i := fun e => hd (e ▸ hjd)
      simpa [hji] using this
theorem set_L {listed : Array Bool} {i j : Nat} (h : i < listed.size) : ((listed.setIfInBounds i true).getD j false = true) = (j = i ∨ listed.getD j false = true) := by
  apply propext
  simp only [Array.getD_eq_getD_getElem?, Array.getElem?_setIfInBounds]
  by_cases hj : i = j
  · subst hj; simp [h]
  · rw [if_neg hj]
    have hj' : ¬ j = i := fun e => hj e.symm
    simp [hj']
theorem heavy_next {r : Option Nat} (hr : Rg P ops E F H) {X : List Nat} {K : Tm → Tr AO → Pz → Rs} {nx0 : Pz} {ι0 : En} {ph : Ph} {rest : List Ph} {CE CF CH : List Nat} {i : Nat} (hh : Here P ops nt E F H call X K nx0 ι0 ph rest CE CF CH L B S w0 tm hp nx ι β c a w) (hops : OpsOk P call)
    (hi : i < ops.size) (hL : ¬ L i) (hpre : ∀ e ∈ (opAt ops i).after, Region.binds .any e = true → L e.on) (hiH : i ∈ H) (hiX : i ∉ X) {Z : Act → World → Prop} {Q : Exit → Act → World → Prop} {Zn : Act → World → Prop} (hn : AfterS B w0 nt ι0 nx0 K Zn)
    (hZ : ∀ a' w', J P ops nt E F H call B w0 nx0 ι0 Zn (fun j => j = i ∨ L j) a' w' → Z a' w') : wpOpIn (fw r) 0 P ops Q i Z a w := by
  have hs := hh.sync
  have hpreL : ∀ j, bit (Region.before ops) i j = true → L j := fun j hb => by
    have := before_ok (fun k => k = i ∨ L k) (fun k o ho hk e he hbi => by
      rcases hk with rfl | hk
      · rw [at_of hi] at ho; cases ho; exact .inr (hpre e he hbi)
      · exact .inr (hs.down k o ho hk e he hbi)) i j (.inl rfl) hb
    rcases this with rfl | h
    · have := before_lt hr.edge _ _ hb; omega
    · exact h
  obtain ⟨hrun, _⟩ := sp_walk hr hs ph.sp CF tm hp nx ι c hh.sp (fun _ h => h) hh.run (fun ι' hι => (hs.sat.2 ι' hι).1) hs.link
  have htail := hh.tail
  cases hph : ph.h with
  | none =>
    rw [hph] at htail
    exact absurd ((hs.hv i hiH).2 (htail.2.2 i hiH)) hL
  | some h =>
    rw [hph] at htail
    simp only [hph] at hrun
    obtain ⟨t1, t2, t3, t4, t5, t6, t7⟩ := htail
    have hih : i = h := by
      rcases t3 i hiH with h' | h' | h'
      · exact absurd ((hs.hv i hiH).2 h') hL
      · exact h'
      · exact (h'.elim (fun h' => absurd ((hs.hv h t1).1 (hpreL h h')) t2) (fun h' => absurd h' hiX))
    subst hih
    obtain ⟨tm1, hp1, nx1, ι1, S1, c1, g1, g2, g3, hs1⟩ := fs_walk hr ph.fs CF tm hp nx ι S c hh.fs hs (fun f hf => hpreL f (t6 f hf)) hrun
    have hsame : ∀ t ∈ (opAt ops i).looksAt ops, tv a t = tv c1 t := by
      intro t ht
      refine hs1.link t fun j hj hjd => ?_
      have hl := lk_of hjd ht
      have hLj := hpreL j ((hr.ssa i hi j hj).1 hl)
      refine ⟨fun _ => ?_, fun _ => hLj⟩
      rcases hj with hj | hj
      · exact .inl (hs.el j hj hLj)
      · exact .inr (t4 j hj hl)
    have hsel := hr.sel i hi
    have fin : ∀ cv w', (∃ v hp' nx' ι2, (drawB P nt ops rest).run call (setD (opAt ops i).dst tm1 v) hp' nx' K = .ok ∧ nx1.num ≤ nx'.num ∧ Agree nx1 ι1 ι2 ∧ Wf hp' nx' ∧ ∀ ι', Agree nx' ι2 ι' → Core S1 w ι' hp' w' ∧ cv = ren ι' v) → (∀ t, (opAt ops i).dst = some t → t < nt) → Z (a.put (opAt ops i).dst cv) w' := by
      rintro cv w' ⟨v, hp', nx', ι2, k1, k2, k3, k4, k5⟩ hd
      refine hZ _ _ ?_
      have hkept1 : Kept S1 w w' := (k5 ι2 (Agree.refl _ _)).1.below
      have hs2 : Sync P ops nt E F H CE (ph.fs.reverse ++ CF) (i :: CH) (fun j => j = i ∨ L j) B S1 w0 (setD (opAt ops i).dst tm1 v) hp' nx' ι2 β (c1.put (opAt ops i).dst cv) (a.put (opAt ops i).dst cv) w' := by
        refine ⟨fun j o ho hj e he hb => ?_, fun j hj => ?_, fun j hj => ?_, fun j hj => .inr (hs1.fl j hj), fun j hj hLj => ?_, hs1.kept.trans (hkept1.mono hs1.sub), hs1.sub, ⟨k4, fun ι' hι => ⟨tmps_put (hs1.sat.2 ι' (k3.trans hι k2)).1 hd (k5 ι' hι).2, core_rebase (w1 := w') (k5 ι' hι).1⟩⟩,
          fun f hf hLf hfc => ?_, fun f hf g hg lf lg => ?_, by rw [put_size]; exact hs.size, by rw [put_defers, put_defers]; exact hs1.defers, fun t ht => ?_⟩
        · rcases hj with rfl | hj
          · rw [at_of hi] at ho; cases ho; exact .inr (hpre e he hb)
          · exact .inr (hs.down j o ho hj e he hb)
        · rcases hj with rfl | hj
          · exact hi
          · exact hs.inn j hj
        · simp only [List.mem_cons]
          rw [hs.hv j hj]
        · rcases hLj with rfl | hLj
          · exact absurd hj (hr.he hiH).1
          · exact hs.el j hj hLj
        · have hfi : f ≠ i := fun e => (hr.he hiH).2 (e ▸ hf)
          have hLf : L f := hLf.resolve_left hfi
          refine ((hs1.pend f hf hLf hfc).put (hr.sel f (hr.ltF f hf)) (fun t ht hl => ?_) (fun t ht e => (hr.ssa i hi f (.inr hf)).2 (fun e => hfi e.symm) t e ht)).world (fun _ h => h) (fun h => hkept1.block _ h)
          have hlk := lk_of ht hl
          rcases t5 f hf with h' | h' | h'
          · exact hfc h'
          · rw [hlk] at h'; cases h'
          · exact hL (before_ok L hs.down f i hLf h')
        · have hfi : f ≠ i := fun e => (hr.he hiH).2 (e ▸ hf)
          have hgi : g ≠ i := fun e => (hr.he hiH).2 (e ▸ hg)
          exact hs1.inj f hf g hg (lf.resolve_left hfi) (lg.resolve_left hgi)
        · by_cases hdt : (opAt ops i).dst = some t
          · rw [hdt, tv_put_eq (by rw [hs.size]; exact hd t hdt), tv_put_eq (by rw [(hs1.sat.2 ι1 (Agree.refl _ _)).1.size]; exact hd t hdt)]
          · rw [tv_put_ne hdt, tv_put_ne hdt]
            refine hs1.link t fun j hj hjd => ?_
            have := ht j hj hjd
            have hji : j ≠ i := fun e => hdt (e ▸ hjd)
            simpa [hji] using this
      cases rest with
      | nil => cases t7
      | cons ph' rest' =>
        exact enter_any hr (nx0 := nx0) (ι0 := ι0) hn t7 hs2 (by have := hh.le; omega) (hh.agr.trans (g3.trans k3 g2) hh.le) hh.ce (fun j hj => by
          rcases List.mem_cons.1 hj with rfl | hj
          · exact hiH
          · exact hh.ch j hj) k1
    obtain ⟨hd, hgo⟩ := heavy_step hops g1 hs1.sat (G := fun cv w' => ∃ v hp' nx' ι2, (drawB P nt ops rest).run call (setD (opAt ops i).dst tm1 v) hp' nx' K = .ok ∧ nx1.num ≤ nx'.num ∧ Agree nx1 ι1 ι2 ∧ Wf hp' nx' ∧ ∀ ι', Agree nx' ι2 ι' → Core S1 w ι' hp' w' ∧ cv = ren ι' v)
      (fun cv w' v hp' nx' ι2 r1 r2 r3 r4 r5 => ⟨v, hp', nx', ι2, r1, r2, r3, r4, r5⟩)
    unfold wpOpIn
    rw [at_of hi]
    simp only
    rw [wanted_same hsame]
    rcases hgo with ⟨hw, hg⟩ | ⟨hw, hg⟩
    · rw [if_pos hw]
      rw [← exec_same hsel hsame] at hg
      exact hg.wp fun cv w' h => fin cv w' h hd
    · rw [if_neg (by rw [hw]; decide)]
      exact ⟨fun _ _ => trivial, fin undef w hg hd⟩
theorem end_ok (hr : Rg P ops E F H) {X : List Nat} {K : Tm → Tr AO → Pz → Rs} {nx0 : Pz} {ι0 : En} {ph : Ph} {rest : List Ph} {CE CF CH : List Nat} (hh : Here P ops nt E F H call X K nx0 ι0 ph rest CE CF CH L B S w0 tm hp nx ι β c a w) (hall : ∀ i, i < ops.size → L i) {Z : Act → World → Prop} (hn : AfterS B w0 nt ι0 nx0 K Z) : Z a w := by
  have hs := hh.sync
  obtain ⟨hrun, _⟩ := sp_walk hr hs ph.sp CF tm hp nx ι c hh.sp (fun _ h => h) hh.run (fun ι' hι => (hs.sat.2 ι' hι).1) hs.link
  have htail := hh.tail
  cases hph : ph.h with
  | some h =>
    rw [hph] at htail
    exact absurd ((hs.hv h htail.1).1 (hall h (hr.ltH h htail.1))) htail.2.1
  | none =>
    rw [hph] at htail
    simp only [hph] at hrun
    obtain ⟨t1, t2, t3⟩ := htail
    obtain ⟨tm1, hp1, nx1, ι1, S1, c1, g1, g2, g3, hs1⟩ := fs_walk hr ph.fs CF tm hp nx ι S c hh.fs hs (fun f hf => hall f (hr.ltF f (by
      have := hh.fs
      have key : ∀ (fs CF : List Nat), seqF ops E F CE fs CF = true → ∀ f ∈ fs, f ∈ F := by
        intro fs
        induction fs with
        | nil => intro CF _ f hf; simp at hf
        | cons g fs ih =>
          intro CF hq f hf
          simp only [seqF, Bool.and_eq_true, List.contains_iff_mem] at hq
          rcases List.mem_cons.1 hf with rfl | hf
          · exact hq.1.1.1.1
          · exact ih _ hq.2 f hf
      exact key _ _ this f hf))) hrun
    have hac : a = c1 := by
      obtain ⟨ta, da⟩ := a
      obtain ⟨tc, dc⟩ := c1
      have e1 : ta.size = nt := hs.size
      have e2 := (hs1.sat.2 ι1 (Agree.refl _ _)).1
      have e3 : tc.size = nt := e2.size
      have e4 : da = dc := hs1.defers
      have : ta = tc := by
        apply Array.ext
        · rw [e1, e3]
        · intro t h1 h2
          have := hs1.link t fun i hi hid => by
            rcases hi with hi | hi
            · exact ⟨fun _ => .inl (t1 i hi), fun _ => hall i (hr.ltE i hi)⟩
            · exact ⟨fun _ => .inr (t2 i hi), fun _ => hall i (hr.ltF i hi)⟩
          simp only [tv, Array.getD_eq_getD_getElem?, Array.getElem?_eq_getElem h1, Array.getElem?_eq_getElem h2, Option.getD_some] at this
          exact this
      rw [this, e4]
    refine hn tm1 hp1 nx1 ι1 a w g1 (by have := hh.le; omega) (hh.agr.trans g3 hh.le) ⟨hs1.sat.1, fun ι' hι => ⟨hac ▸ (hs1.sat.2 ι' hι).1, ?_⟩⟩
    have hc := (hs1.sat.2 ι' hι).2
    exact ⟨hs1.kept, fun k hk => hc.room k (hs1.sub k hk), hc.obj, fun id o h1 h2 h3 => hc.base id o h1 h2 (hs1.sub _ h3), hc.sep, hc.tip⟩
theorem core_more (h : Core S w ι hp w) (y : Obj) : Core (fun k => S k ∨ k = w.heap.size) (w.alloc y) ι hp (w.alloc y) := by
  have hlt := core_lt h
  refine ⟨Kept.refl _ _, fun k hk => ?_, fun i o hi => ?_, fun i o hi ho hk => ?_, h.sep, h.tip⟩
  · have hsz : (w.alloc y).heap.size = w.heap.size + 1 := by simp
    rcases hk with hk | rfl
    · have := h.room k hk; omega
    · omega
  · exact (h.obj i o hi).keep (fun x => x) fun ho => Below.heap_alloc _ _ _ (hlt i o hi ho)
  · rcases hk with hk | hk
    · exact h.base i o hi ho hk
    · have := hlt i o hi ho; omega
theorem pre_L (hr : Rg P ops E F H) {CE CF CH : List Nat} {i : Nat} (hs : Sync P ops nt E F H CE CF CH L B S w0 tm hp nx ι β c a w) (hlt : i < ops.size) (hpre : ∀ e ∈ (opAt ops i).after, Region.binds .any e = true → L e.on) : ∀ j, bit (Region.before ops) i j = true → L j := fun j hb => by
  have := before_ok (fun k => k = i ∨ L k) (fun k o' ho' hk e he hbi => by
    rcases hk with hk | hk
    · subst hk
      have e0 := at_of hlt
      rw [ho'] at e0
      have e1 := Option.some.inj e0
      subst e1
      exact .inr (hpre e he hbi)
    · exact .inr (hs.down k o' ho' hk e he hbi)) i j (.inl rfl) hb
  rcases this with rfl | h
  · have := before_lt hr.edge _ _ hb; omega
  · exact h
theorem e_step (hr : Rg P ops E F H) {X : List Nat} {K : Tm → Tr AO → Pz → Rs} {nx0 : Pz} {ι0 : En} {ph : Ph} {rest : List Ph} {CE CF CH : List Nat} {i : Nat} (hh : Here P ops nt E F H call X K nx0 ι0 ph rest CE CF CH L B S w0 tm hp nx ι β c a w)
    (hlt : i < ops.size) (hLi : ¬ L i) (hpre : ∀ e ∈ (opAt ops i).after, Region.binds .any e = true → L e.on) (hE : i ∈ E) (hnF : i ∉ F) (hnH : i ∉ H) :
    ∃ cv, Yv P ops (opAt ops i) a w cv ∧ Here P ops nt E F H call X K nx0 ι0 ph rest CE CF CH (fun j => j = i ∨ L j) B S w0 tm hp nx ι β c (a.put (opAt ops i).dst cv) w := by
  have hs := hh.sync
  have hpreL := pre_L hr hs hlt hpre
  have hin : i ∈ ph.es ∨ i ∈ ph.rs := by
    rcases hh.covE i hE with h | h | ⟨h, h2, h3, h4⟩ | ⟨h, h2, h3⟩
    · exact .inl h
    · exact .inr h
    · exact absurd ((hs.hv h h2).1 (hpreL h h4)) h3
    · exact absurd (before_ok _ hs.down h i ((hs.hv h (hh.ch h h2)).2 h2) h3) hLi
  obtain ⟨hce, ⟨v, hv1, hv2⟩, hff⟩ := hh.fact i hin
  obtain ⟨tc, cc⟩ := hs.sat.2 ι (Agree.refl _ _)
  have hsame : ∀ t ∈ (opAt ops i).looksAt ops, tv c t = tv a t := by
    intro t ht
    refine (hs.link t fun j hj hjd => ?_).symm
    have hl := lk_of hjd ht
    have hLj := hpreL j ((hr.ssa i hlt j hj).1 hl)
    refine ⟨fun _ => ?_, fun _ => hLj⟩
    rcases hj with hj | hj
    · exact .inl (hs.el j hj hLj)
    · exact .inr (hff j hj hl)
  have hy := (hv2 _ _ ι c w tc cc).same (hr.sel i hlt) hsame
  refine ⟨_, hy, ?_⟩
  refine ⟨sync_step hr hs hlt hLi hpre hnH hh.ce (fun _ => hce) hs.kept hs.sub hs.sat (fun f _ _ _ h => h) (fun h => absurd h hnF) (fun f hf g hg lf lg => hs.inj f hf g hg (lf.resolve_left fun e => hnF (e ▸ hf)) (lg.resolve_left fun e => hnF (e ▸ hg))) (fun t ht _ => ?_),
    hh.le, hh.agr, hh.ce, hh.ch, hh.fact, hh.covE, hh.covF, hh.sp, hh.fs, hh.run, hh.tail⟩
  obtain ⟨h2, h3⟩ := hv1 t ht
  refine ⟨?_, h3⟩
  have := tc.val t
  rw [h2] at this
  exact this.symm
theorem one_step {r : Option Nat} (hr : Rg P ops E F H) (hops : OpsOk P call) {K : Tm → Tr AO → Pz → Rs} {nx0 : Pz} {ι0 : En} {Q : Exit → Act → World → Prop} {Z Zn : Act → World → Prop} (hn : AfterS B w0 nt ι0 nx0 K Zn) {ph : Ph} {rest : List Ph} {CE CF CH : List Nat} {i : Nat}
    (hh : Here P ops nt E F H call [] K nx0 ι0 ph rest CE CF CH L B S w0 tm hp nx ι β c a w) (hlt : i < ops.size) (hLi : ¬ L i) (hpre : ∀ e ∈ (opAt ops i).after, Region.binds .any e = true → L e.on) (ho : ops[i]? = some (opAt ops i))
    (next : ∀ a' w', J P ops nt E F H call B w0 nx0 ι0 Zn (fun j => j = i ∨ L j) a' w' → Z a' w') : wpOpIn (fw r) 0 P ops Q i Z a w := by
    have hs := hh.sync
    have hpreL := pre_L hr hs hlt hpre
    rcases hr.cov i hlt with ⟨hE, hnF, hnH⟩ | ⟨hnE, hF, hnH⟩ | ⟨hnE, hnF, hH⟩
    · -- early
      obtain ⟨cv, hy, h1⟩ := e_step hr hh hlt hLi hpre hE hnF hnH
      exact hy.wp ho (next _ _ (.inl ⟨K, hn, ph, rest, CE, CF, CH, S, tm, hp, nx, ι, β, c, h1⟩))
    · -- floating
      have hin : i ∈ ph.sp := by
        rcases hh.covF i hF with h | h | ⟨h, h2, h3, h4⟩
        · exact absurd (hs.fl i h) hLi
        · exact h
        · exact absurd ((hs.hv h h2).1 (hpreL h h4)) h3
      obtain ⟨_, hres⟩ := sp_walk hr hs ph.sp CF tm hp nx ι c hh.sp (fun _ h => h) hh.run (fun ι' hι => (hs.sat.2 ι' hι).1) hs.link
      obtain ⟨hres, hd⟩ := hres i hin hpreL
      have hself : ∀ cv, ∀ t ∈ (opAt ops i).looksAt ops, tv a t = tv (a.put (opAt ops i).dst cv) t := fun cv t ht => (tv_put_ne fun e => hr.self (.inr hF) e ht).symm
      have hval : ∀ cv d, (opAt ops i).dst = some d → tv (a.put (opAt ops i).dst cv) d = cv := fun cv d hdd => by
        rw [hdd]; exact tv_put_eq (by rw [hs.size]; exact hd d hdd)
      rcases hres with ⟨hk, cv, hy⟩ | ⟨hk, hg, d, hdd, hy⟩
      · refine (hy w).wp ho (next _ _ (.inl ⟨K, hn, ph, rest, CE, CF, CH, S, tm, hp, nx, ι, β, c, ?_⟩))
        refine ⟨sync_step hr hs hlt hLi hpre hnH hh.ce (fun h => absurd h hnE) hs.kept hs.sub hs.sat (fun f _ _ _ h => h) (fun _ => .inl ⟨hk, cv, fun w1 => (hy w1).same (hr.sel i hlt) (hself cv), fun d hdd => hval cv d hdd⟩) (fun f hf g hg lf lg nf ng kf kg => ?_) (fun t ht h => absurd h hnE),
          hh.le, hh.agr, hh.ce, hh.ch, hh.fact, hh.covE, hh.covF, hh.sp, hh.fs, hh.run, hh.tail⟩
        exact hs.inj f hf g hg (lf.resolve_left fun e => by rw [e, hk] at kf; cases kf) (lg.resolve_left fun e => by rw [e, hk] at kg; cases kg) nf ng kf kg
      · obtain ⟨cv, y, hrun⟩ := hy w.heap.size
        have hroom : ∀ k, S k → k < w.heap.size := (hs.sat.2 ι (Agree.refl _ _)).2.room
        unfold wpOpIn
        rw [ho]
        simp only
        rw [if_pos (by simp [Region.wanted, hg])]
        refine Gives.wp (G := fun cv' w' => cv' = cv ∧ w' = w.alloc y) (.inl ⟨cv, _, .inl (hrun w rfl), rfl, rfl⟩) fun cv' w' ⟨e1, e2⟩ => ?_
        rw [e1, e2]
        refine next _ _ (.inl ⟨K, hn, ph, rest, CE, CF, CH, (fun k => S k ∨ k = w.heap.size), tm, hp, nx, ι, (fun j => if j = i then w.heap.size else β j), c, ?_⟩)
        refine ⟨sync_step hr hs hlt hLi hpre hnH hh.ce (fun h => absurd h hnE) (hs.kept.alloc (fun k hk => hroom k (hs.sub k hk)) y) (fun k hk => .inl (hs.sub k hk)) ⟨hs.sat.1, fun ι' hι => ⟨(hs.sat.2 ι' hι).1, core_more (hs.sat.2 ι' hι).2 y⟩⟩ (fun f hf hLf hfc hp' => ?_) (fun _ => ?_) (fun f hf g hg lf lg nf ng kf kg => ?_) (fun t ht h => absurd h hnE),
          hh.le, hh.agr, hh.ce, hh.ch, hh.fact, hh.covE, hh.covF, hh.sp, hh.fs, hh.run, hh.tail⟩
        · have hfi : f ≠ i := fun e => hLi (e ▸ hLf)
          simp only [if_neg hfi]
          exact hp'.world (fun k hk => .inl hk) (fun h => Below.heap_alloc _ _ _ (hroom _ h))
        · simp only [if_true]
          refine .inr ⟨hk, y, d, .inr rfl, fun h => ?_, heap_alloc_at _ _, hdd, fun w1 hw1 => ?_⟩
          · have := hroom _ (hs.sub _ h); omega
          · rw [← exec_same (hr.sel i hlt) (hself cv), hval cv d hdd]
            exact hrun w1 hw1
        · have pb : ∀ f ∈ F, L f → f ∉ CF → pureK P (opAt ops f) = false → β f < w.heap.size := by
            intro f hf lf nf kf
            rcases hs.pend f hf lf nf with ⟨p0, _⟩ | ⟨_, _, _, p1, _⟩
            · rw [kf] at p0; cases p0
            · exact hroom _ p1
          by_cases hfi : f = i
          · by_cases hgi : g = i
            · exact fun _ => hfi.trans hgi.symm
            · simp only [if_pos hfi, if_neg hgi]
              intro e
              have := pb g hg (lg.resolve_left hgi) ng kg
              omega
          · by_cases hgi : g = i
            · simp only [if_neg hfi, if_pos hgi]
              intro e
              have := pb f hf (lf.resolve_left hfi) nf kf
              omega
            · simp only [if_neg hfi, if_neg hgi]
              exact hs.inj f hf g hg (lf.resolve_left hfi) (lg.resolve_left hgi) nf ng kf kg
    · -- heavy
      exact heavy_next hr hh hops hlt hLi hpre hH (by simp) hn next
theorem any_ok {r : Option Nat} (hr : Rg P ops E F H) (hops : OpsOk P call) {nx0 : Pz} {ι0 : En} {Q : Exit → Act → World → Prop} : ∀ (fuel : Nat) (listed : Array Bool) (a : Act) (w : World), listed.size = ops.size → listed.toList.count false ≤ fuel →
    J P ops nt E F H call B w0 nx0 ι0 (Q .normal) (fun i => listed.getD i false = true) a w → wpAnyIn (fw r) 0 P .any ops Q fuel listed a w := by
  have endq : ∀ (listed : Array Bool) (a : Act) (w : World), listed.size = ops.size → J P ops nt E F H call B w0 nx0 ι0 (Q .normal) (fun i => listed.getD i false = true) a w → Region.ready .any ops listed = [] → Q .normal a w := by
    intro listed a w hsz hj hrd
    have hedge := hr.edge
    have all : ∀ i, i < ops.size → listed.getD i false = true := by
     intro i hi
     induction i using Nat.strongRecOn with
     | ind i ih =>
       rcases Bool.eq_false_or_eq_true (listed.getD i false) with h | h
       · exact h
       · exfalso
         have hmem : i ∈ Region.ready .any ops listed := by
           rw [mem_ready]
           refine ⟨?_, opAt ops i, at_of hi, fun e he hb => ih e.on (hr.edge i _ (at_of hi) e he hb) (by have := hr.edge i _ (at_of hi) e he hb; omega)⟩
           rw [Array.getD_eq_getD_getElem?, Array.getElem?_eq_getElem (by omega)] at h ⊢
           exact h
         rw [hrd] at hmem
         simp at hmem
    rcases hj with ⟨K, hn, ph, rest, CE, CF, CH, S, tm, hp, nx, ι, β, c, hh⟩ | ⟨hA, hB, KA, KB, hne, afA, afB, ⟨ph, rest, CE, CF, CH, S, tm, hp, nx, ι, β, c, _, _, hh⟩, _⟩
    · exact end_ok hr hh all hn
    · exact end_ok hr hh all afA
  intro fuel
  induction fuel with
  | zero =>
    intro listed a w hsz hc hh
    have hrd : Region.ready .any ops listed = [] := by
      apply List.eq_nil_iff_forall_not_mem.2
      intro j hj
      rw [mem_ready] at hj
      obtain ⟨h1, _⟩ := hj
      have hlt : j < listed.size := by
        rcases Nat.lt_or_ge j listed.size with h | h
        · exact h
        · rw [Array.getD_eq_getD_getElem?, Array.getElem?_eq_none h] at h1; cases h1
      have : false ∈ listed.toList := by
        rw [Array.getD_eq_getD_getElem?, Array.getElem?_eq_getElem hlt] at h1
        simp only [Option.getD_some] at h1
        rw [← h1]
        exact Array.getElem_mem_toList hlt
      have := List.count_pos_iff.2 this
      omega
    exact ⟨hrd, endq listed a w hsz hh hrd⟩
  | succ fuel ih =>
    intro listed a w hsz hc hh
    refine ⟨endq listed a w hsz hh, fun i hi => ?_⟩
    rw [mem_ready] at hi
    obtain ⟨h1, o, ho, hpre⟩ := hi
    have hlt : i < ops.size := (Array.getElem?_eq_some_iff.1 ho).1
    have hio : o = opAt ops i := by have := at_of hlt; rw [ho] at this; exact Option.some.inj this
    subst hio
    have hlt' : i < listed.size := by omega
    have hLi : ¬ listed.getD i false = true := by
      rw [Array.getD_eq_getD_getElem?, Array.getElem?_eq_getElem hlt'] at h1 ⊢
      simp only [Option.getD_some] at h1 ⊢
      rw [h1]; decide
    have hcount : (listed.setIfInBounds i true).toList.count false ≤ fuel := by
      have hf : listed.toList[i]'(by simpa using hlt') = false := by
        rw [Array.getD_eq_getD_getElem?, Array.getElem?_eq_getElem hlt'] at h1
        simpa using h1
      have h2 : (listed.toList.set i true).count false = listed.toList.count false - 1 := by
        rw [List.count_set (by simpa using hlt')]
        simp [hf]
      have h3 : 0 < listed.toList.count false := List.count_pos_iff.2 (by rw [← hf]; exact List.getElem_mem _)
      rw [Array.toList_setIfInBounds, h2]
      omega
    have hsz' : (listed.setIfInBounds i true).size = ops.size := by simpa using hsz
    have next : ∀ a' w', J P ops nt E F H call B w0 nx0 ι0 (Q .normal) (fun j => j = i ∨ listed.getD j false = true) a' w' → wpAnyIn (fw r) 0 P .any ops Q fuel (listed.setIfInBounds i true) a' w' := by
      intro a' w' h
      refine ih _ a' w' hsz' hcount ?_
      have e : (fun j => (listed.setIfInBounds i true).getD j false = true) = fun j => j = i ∨ listed.getD j false = true := funext fun j => set_L hlt'
      rw [e]
      exact h
    rcases hh with ⟨K, hn, ph, rest, CE, CF, CH, S, tm, hp, nx, ι, β, c, hh⟩ | ⟨hA, hB, KA, KB, hne, afA, afB, ⟨phA, restA, CEA, CFA, CHA, SA, tmA, hpA, nxA, ιA, βA, cA, eA, fA, hhA⟩, ⟨phB, restB, CEB, CFB, CHB, SB, tmB, hpB, nxB, ιB, βB, cB, eB, fB, hhB⟩⟩
    · exact one_step hr hops hn hh hlt hLi hpre ho next
    · rcases hr.cov i hlt with ⟨hE, hnF, hnH⟩ | ⟨hnE, hF, hnH⟩ | ⟨hnE, hnF, hH⟩
      · obtain ⟨cv, hy, h1⟩ := e_step hr hhA hlt hLi hpre hE hnF hnH
        obtain ⟨cv', hy', h2⟩ := e_step hr hhB hlt hLi hpre hE hnF hnH
        have e := hy.det hy'
        subst e
        exact hy.wp ho (next _ _ (.inr ⟨hA, hB, KA, KB, hne, afA, afB, ⟨_, _, _, _, _, _, _, _, _, _, _, _, eA, fA, h1⟩, ⟨_, _, _, _, _, _, _, _, _, _, _, _, eB, fB, h2⟩⟩))
      · exact absurd (hhA.sync.fl i (fA i hF)) hLi
      · by_cases hx : i = hB
        · refine heavy_next hr hhB hops hlt hLi hpre hH (by rw [hx]; simpa using fun e => hne e.symm) afB next
        · exact heavy_next hr hhA hops hlt hLi hpre hH (by simpa using hx) afA next
/-- A drawn region with a plan that is one. -/
theorem draw_ok (hm : P.follows .mixedOrders = true) (hops : OpsOk P call) (nt : Nat) : DrawOk P call nt := by
  intro id ops plan tm hp nx K hg h r B w0 w ι a hs Q hn
  unfold planGood at hg
  cases plan with
  | nil => cases h
  | cons ph rest =>
    have hg : planOk P ops (ph :: rest) = true := by simpa using hg
    unfold planOk at hg
    simp only [Bool.and_eq_true, List.all_eq_true, List.mem_range, Bool.or_eq_true, Bool.not_eq_true', decide_eq_true_eq, List.contains_iff_mem] at hg
    obtain ⟨⟨⟨⟨⟨⟨⟨⟨⟨h1, h2⟩, h3⟩, h4⟩, h5⟩, h6⟩, h7⟩, h8⟩, h9⟩, h10⟩ := hg
    have hr : Rg P ops ((ph :: rest).flatMap (·.es)) ((ph :: rest).flatMap (·.fs)) ((ph :: rest).flatMap hsOf) := by
      refine ⟨fun i hi => ?_, h2, h3, h4, fun i o ho e he hb => ?_, h6, h7, h8, fun i hi j hj => ?_⟩
      · have := h1 i hi
        simp only [← Bool.not_eq_true, List.contains_iff_mem] at this
        rcases this with (⟨⟨p1, p2⟩, p3⟩ | ⟨⟨p1, p2⟩, p3⟩) | ⟨⟨p1, p2⟩, p3⟩
        · exact .inl ⟨p1, p2, p3⟩
        · exact .inr (.inl ⟨p1, p2, p3⟩)
        · exact .inr (.inr ⟨p1, p2, p3⟩)
      · have hi : i < ops.size := (Array.getElem?_eq_some_iff.1 ho).1
        have hio := at_of hi
        rw [ho] at hio
        have := Option.some.inj hio
        subst this
        exact (h5 i hi e (by simpa using he)).resolve_left (by rw [hb]; decide)
      · have := h9 i hi j (List.mem_append.2 hj)
        refine ⟨fun hl => this.1.resolve_left (by rw [hl]; decide), fun hne d hd hd' => ?_⟩
        rcases this.2 with (h' | h') | h'
        · exact hne (by simpa using h')
        · rw [hd] at h'; cases h'
        · rw [hd, hd'] at h'; simp at h'
    refine wpIn_region_any hm ?_
    have hs0 : Sync P ops nt ((ph :: rest).flatMap (·.es)) ((ph :: rest).flatMap (·.fs)) ((ph :: rest).flatMap hsOf) [] [] [] (fun i => (Array.replicate ops.size false).getD i false = true) B B w0 tm hp nx ι (fun _ => 0) a a w.drew := by
      have no : ∀ i, ¬ (Array.replicate ops.size false).getD i false = true := by
        intro i hi
        rw [Array.getD_eq_getD_getElem?, Array.getElem?_replicate] at hi
        split at hi <;> cases hi
      obtain ⟨t0, c0⟩ := hs.2 ι (Agree.refl _ _)
      exact ⟨fun i o _ hi => absurd hi (no i), fun i hi => absurd hi (no i), fun i _ => ⟨fun hi => absurd hi (no i), fun hi => by simp at hi⟩, fun i hi => by simp at hi, fun i _ hi => absurd hi (no i), c0.below.drew, fun k hk => hk,
        ⟨hs.1, fun ι' hι => ⟨(hs.2 ι' hι).1, core_rebase (w1 := w.drew) (core_drew (hs.2 ι' hι).2)⟩⟩, fun f _ hf => absurd hf (no f), fun f _ g _ hf => absurd hf (no f), t0.size, rfl, fun t _ => rfl⟩
    exact any_ok hr hops ops.size _ a w.drew (by simp) (by simp) (enter_any hr (nx0 := nx) (ι0 := ι) hn h10 hs0 (Nat.le_refl _) (Agree.refl _ _) (fun i hi => by simp at hi) (fun i hi => by simp at hi) h)
end
end Go.Rex
namespace Go.Rex
open Go.RowKit
set_option linter.unusedSimpArgs false
set_option linter.unusedVariables false
section
variable {P : Program}
theorem Agree.le {nx nx' : Pz} {ι ι' : En} (h : Agree nx' ι ι') (hle : nx.num ≤ nx'.num) : Agree nx ι ι' := fun id hid => h id (Nat.lt_of_lt_of_le hid hle)
/-- A call, run once, over the part of the heap that it needs. -/
def Ran (P : Program) (f : Nat) (args : List AV) (pre : Tr AO) (nx : Pz) (v : AV) (post : Tr AO) (nx' : Pz) : Prop :=
  ∀ B w0 w ι (cargs : Array Value), Wf pre nx → (∀ ι', Agree nx ι ι' → Core B w0 ι' pre w ∧ cargs = (renL ι' args).toArray) →
    Gives P (callFunc f cargs) w fun cv w' => ∃ ι2, Wf post nx' ∧ nx.num ≤ nx'.num ∧ Agree nx ι ι2 ∧ ∀ ι', Agree nx' ι2 ι' → Core B w0 ι' post w' ∧ cv = ren ι' v
theorem pzNum_eq (p : Pz) : pzNum p = p.num := by
  induction p with
  | h => rfl
  | o p ih => show 2 * pzNum p = 2 * p.num; rw [ih]
  | i p ih => show 2 * pzNum p + 1 = 2 * p.num + 1; rw [ih]
/-- The end of such a run: is it what it should be? -/
noncomputable def seeK (v : AV) (post : Tr AO) (nx' : Pz) (v' : AV) (hp' : Tr AO) (nx2 : Pz) : Rs :=
  ifK (eqV v v') (ifK (Nat.ble (pzNum nx2) (pzNum nx')) (ifK (subH post hp') .ok (.bad 242)) (.bad 241)) (.bad 240)
theorem ran_of {call : CallT} (hcall : CallOk P call) {f : Nat} {args : List AV} {pre post : Tr AO} {nx nx' : Pz} {v : AV} (h : call.run f args pre nx (seeK v post nx') = .ok) : Ran P f args pre nx v post nx' := by
  intro B w0 w ι cargs hw hc
  refine hcall.1 f args pre nx _ h B w0 w ι cargs hw hc _ (fun v' hp' nx2 ι2 cv w' hk hw' hle ha hcc => ?_)
  obtain ⟨h1, hk⟩ := ifK_ok hk
  obtain ⟨h2, hk⟩ := ifK_ok hk
  obtain ⟨h3, hk⟩ := ifK_ok hk
  have h1 := eqV_ok _ _ h1
  have h2 := ble_ok h2
  rw [pzNum_eq, pzNum_eq] at h2
  have h3 : Part post hp' := subH_ok _ _ h3
  subst h1
  exact ⟨ι2, wf_part h3 h2 hw', Nat.le_trans hle h2, ha, fun ι' hι => ⟨core_part h3 (hcc ι' (hι.le h2)).1, (hcc ι' (hι.le h2)).2⟩⟩
/-! what is kept beside -/
def lone? : AO → Bool
  | .arr _ _ _ _ => true
  | .map _ _ => true
  | _ => false
noncomputable def noneK (t : Tr AO) (id : Pz) (r : Rs) : Rs := match t.get id with | none => r | some _ => .bad 243
noncomputable def keepK (pre hp : Tr AO) (ids : List Pz) : Tr AO → (Tr AO → Rs) → Rs :=
  List.rec (motive := fun _ => Tr AO → (Tr AO → Rs) → Rs) (fun post k => k post)
    (fun id _ ih post k => hp.getK id (.bad 244) fun o => ifK (lone? o) (noneK pre id (noneK post id (post.setK id o fun post => ih post k))) (.bad 245)) ids
structure Memo where
  args : List AV
  pre : Tr AO
  nx : Pz
  v : AV
  post : Tr AO
  nx' : Pz
  keep : List Pz
def plainV : AV → Bool
  | .bool _ => true
  | .int _ _ => true
  | .str _ _ => true
  | _ => false
theorem plainV_ok {v : AV} (h : plainV v = true) (ι ι' : En) : ren ι v = ren ι' v := by
  cases v <;> simp [plainV] at h <;> simp [ren]
def isE : Tr AO → Bool
  | .e => true
  | _ => false
theorem isE_ok {t : Tr AO} (h : isE t = true) : t = .e := by cases t <;> simp [isE] at h; rfl
theorem core_nil {B : Nat → Prop} {w0 w : World} {ι : En} (h : Core B w0 ι .e w) (ι' : En) : Core B w0 ι' .e w := by
  refine ⟨h.below, h.room, ?_, ?_, ?_, ?_⟩
  · intro id o hid; rw [Tr.get_e] at hid; cases hid
  · intro id o hid; rw [Tr.get_e] at hid; cases hid
  · intro id id' o o' _ hid; rw [Tr.get_e] at hid; cases hid
  · intro id id' f ep es n el c f' ep' tp' es' n' el' c' _ hid; rw [Tr.get_e] at hid; cases hid
/- a plain result, and nothing new that is kept: the names go on from where they were -/
noncomputable def memoK (m : Memo) (args : List AV) (hp : Tr AO) (nx : Pz) (k : AV → Tr AO → Pz → Rs) (z : Rs) : Rs :=
  ifK (eqVL m.args args) (ifK (Nat.ble (pzNum nx) (pzNum m.nx)) (ifK (subH m.pre hp) (keepK m.pre hp m.keep m.post fun hp' => ifK (isE m.post && plainV m.v) (k m.v hp' nx) (k m.v hp' m.nx')) z) z) z
noncomputable def memosK (ms : List Memo) (args : List AV) (hp : Tr AO) (nx : Pz) (k : AV → Tr AO → Pz → Rs) (z : Rs) : Rs :=
  List.rec (motive := fun _ => Rs) z (fun m _ ih => memoK m args hp nx k ih) ms
theorem noneK_ok {t : Tr AO} {id : Pz} {r : Rs} (h : noneK t id r = .ok) : t.get id = none ∧ r = .ok := by
  unfold noneK at h
  cases hg : t.get id with
  | none => rw [hg] at h; exact ⟨rfl, h⟩
  | some o => rw [hg] at h; cases h
theorem keepK_ok {pre hp : Tr AO} : ∀ (ids : List Pz) (post : Tr AO) (k : Tr AO → Rs), keepK pre hp ids post k = .ok →
    ∃ hp', k hp' = .ok ∧ (∀ id, id ∈ ids → ∃ o, hp.get id = some o ∧ lone? o = true ∧ pre.get id = none ∧ post.get id = none ∧ hp'.get id = some o) ∧ ∀ id, id ∉ ids → hp'.get id = post.get id
  | [], post, k, h => ⟨post, h, fun id hid => by simp at hid, fun _ _ => rfl⟩
  | id :: ids, post, k, h => by
    have h : (hp.getK id (.bad 244) fun o => ifK (lone? o) (noneK pre id (noneK post id (post.setK id o fun post => keepK pre hp ids post k))) (.bad 245)) = .ok := h
    obtain ⟨o, ho, h⟩ := getK_ok h
    obtain ⟨h1, h⟩ := ifK_ok h
    obtain ⟨h2, h⟩ := noneK_ok h
    obtain ⟨h3, h⟩ := noneK_ok h
    rw [Tr.setK_eq] at h
    obtain ⟨hp', hk, g1, g2⟩ := keepK_ok ids _ k h
    have hid : id ∉ ids := fun hm => by
      obtain ⟨_, _, _, _, g, _⟩ := g1 id hm
      rw [Tr.get_set_same] at g; cases g
    refine ⟨hp', hk, fun j hj => ?_, fun j hj => ?_⟩
    · rcases List.mem_cons.1 hj with rfl | hj
      · exact ⟨o, ho, h1, h2, h3, by rw [g2 _ hid, Tr.get_set_same]⟩
      · obtain ⟨o', a1, a2, a3, a4, a5⟩ := g1 j hj
        have hne : j ≠ id := fun e => hid (e ▸ hj)
        rw [Tr.get_set_ne hne] at a4
        exact ⟨o', a1, a2, a3, a4, a5⟩
    · simp only [List.mem_cons, not_or] at hj
      rw [g2 j hj.2, Tr.get_set_ne hj.1]
theorem lone_own {o : AO} (h : lone? o = true) (hp : Tr AO) : own hp o ∧ famOf o = none ∧ (∀ e s, o ≠ .fam e s) := by
  cases o <;> simp [lone?] at h <;> exact ⟨trivial, rfl, fun _ _ => by simp⟩
theorem lone_blk {o : AO} (h : lone? o = true) {ι : En} {hp : Tr AO} {w : World} {id : Pz} (ho : ObjOk ι hp w id o) : ι.blk id < w.heap.size := by
  cases o <;> simp [lone?] at h
  · obtain ⟨C, fz, h1, _⟩ := ho
    exact (Array.getElem?_eq_some_iff.1 h1).1
  · obtain ⟨E, h1, _⟩ := ho
    exact (Array.getElem?_eq_some_iff.1 h1).1
theorem kept_core {B : Nat → Prop} {w0 w w' : World} {ι ι' : En} {nx nx1 : Pz} {hp pre post hp' : Tr AO} {ids : List Pz} (hw : Wf hp nx) (hle : nx.num ≤ nx1.num)
    (g1 : ∀ id, id ∈ ids → ∃ o, hp.get id = some o ∧ lone? o = true ∧ pre.get id = none ∧ post.get id = none ∧ hp'.get id = some o) (g2 : ∀ id, id ∉ ids → hp'.get id = post.get id)
    (hag : Agree nx ι ι') (hc : Core B w0 ι' hp w) (hn : Core (fun k => B k ∨ ∃ id, id ∈ ids ∧ ι.blk id = k) w ι' post w') : Core B w0 ι' hp' w' := by
  have hblk : ∀ id, id ∈ ids → ι'.blk id = ι.blk id := fun id hid => by
    obtain ⟨o, a1, _⟩ := g1 id hid
    exact (hag id (hw.lt id o a1)).1
  have hliv : ∀ f ep, live hp' f ep → live post f ep := by
    rintro f ep ⟨s, hf⟩
    by_cases hm : f ∈ ids
    · obtain ⟨o, a1, a2, a3, a4, a5⟩ := g1 f hm
      rw [a5] at hf
      cases hf
      simp [lone?] at a2
    · rw [g2 f hm] at hf
      exact ⟨s, hf⟩
  have hown : ∀ o, own hp' o → own post o := by
    intro o ho
    cases o with
    | seg => exact hliv _ _ ho
    | fam => exact ho
    | arr => trivial
    | map => trivial
    | iter => trivial
    | loop => trivial
    | dmark => trivial
    | gone => trivial
  refine ⟨hc.below.trans (hn.below.mono fun k hk => .inl hk), fun k hk => hn.room k (.inl hk), fun id o hid => ?_, fun id o hid ho => ?_, fun id id' o o' hne hid hid' ho ho' hb => ?_, fun id id' f ep es n el c f' ep' tp' es' n' el' c' hne hid hid' hl hl' => ?_⟩
  · by_cases hm : id ∈ ids
    · obtain ⟨o', a1, a2, a3, a4, a5⟩ := g1 id hm
      rw [a5] at hid
      cases hid
      refine (hc.obj id o a1).keep (fun _ => (lone_own a2 hp).1) (fun _ => ?_)
      exact hn.below.block _ (.inr ⟨id, hm, (hblk id hm).symm⟩)
    · rw [g2 id hm] at hid
      exact (hn.obj id o hid).keep (hown o) (fun _ => rfl)
  · by_cases hm : id ∈ ids
    · obtain ⟨o', a1, a2, a3, a4, a5⟩ := g1 id hm
      rw [a5] at hid
      cases hid
      exact hc.base id o a1 (lone_own a2 hp).1
    · rw [g2 id hm] at hid
      exact fun hb => hn.base id o hid (hown o ho) (.inl hb)
  · by_cases hm : id ∈ ids
    · obtain ⟨x, a1, a2, a3, a4, a5⟩ := g1 id hm
      rw [a5] at hid
      cases hid
      by_cases hm' : id' ∈ ids
      · obtain ⟨x', b1, b2, b3, b4, b5⟩ := g1 id' hm'
        rw [b5] at hid'
        cases hid'
        exact hc.sep id id' o o' hne a1 b1 (lone_own a2 hp).1 (lone_own b2 hp).1 hb
      · rw [g2 id' hm'] at hid'
        exact absurd (Or.inr ⟨id, hm, by rw [← hblk id hm, hb]⟩) (hn.base id' o' hid' (hown o' ho'))
    · rw [g2 id hm] at hid
      by_cases hm' : id' ∈ ids
      · exact absurd (Or.inr ⟨id', hm', by rw [← hblk id' hm', hb]⟩) (hn.base id o hid (hown o ho))
      · rw [g2 id' hm'] at hid'
        exact hn.sep id id' o o' hne hid hid' (hown o ho) (hown o' ho') hb
  · have hm : id ∉ ids := fun hm => by
      obtain ⟨x, a1, a2, a3, a4, a5⟩ := g1 id hm
      rw [a5] at hid
      cases hid
      simp [lone?] at a2
    have hm' : id' ∉ ids := fun hm => by
      obtain ⟨x, a1, a2, a3, a4, a5⟩ := g1 id' hm
      rw [a5] at hid'
      cases hid'
      simp [lone?] at a2
    rw [g2 id hm] at hid
    rw [g2 id' hm'] at hid'
    exact hn.tip id id' f ep es n el c f' ep' tp' es' n' el' c' hne hid hid' (hliv _ _ hl) (hliv _ _ hl')
theorem kept_wf {nx nx1 : Pz} {hp pre post hp' : Tr AO} {ids : List Pz} (hw : Wf hp nx) (hle : nx.num ≤ nx1.num) (hp1 : Wf post nx1)
    (g1 : ∀ id, id ∈ ids → ∃ o, hp.get id = some o ∧ lone? o = true ∧ pre.get id = none ∧ post.get id = none ∧ hp'.get id = some o) (g2 : ∀ id, id ∉ ids → hp'.get id = post.get id) : Wf hp' nx1 := by
  have hfam : ∀ f e s, hp'.get f = some (.fam e s) → post.get f = some (.fam e s) := by
    intro f e s hf
    by_cases hm : f ∈ ids
    · obtain ⟨o, a1, a2, a3, a4, a5⟩ := g1 f hm
      rw [a5] at hf
      cases hf
      simp [lone?] at a2
    · rwa [g2 f hm] at hf
  have hseg : ∀ id f ep tp es n el c, hp'.get id = some (.seg f ep tp es n el c) → post.get id = some (.seg f ep tp es n el c) := by
    intro id f ep tp es n el c hf
    by_cases hm : id ∈ ids
    · obtain ⟨o, a1, a2, a3, a4, a5⟩ := g1 id hm
      rw [a5] at hf
      cases hf
      simp [lone?] at a2
    · rwa [g2 id hm] at hf
  refine ⟨fun id o hid => ?_, fun id f ep tp es n el c hid => hp1.fam _ _ _ _ _ _ _ _ (hseg _ _ _ _ _ _ _ _ hid), fun id f ep tp es n el c e s hid hf => hp1.ep _ _ _ _ _ _ _ _ _ _ (hseg _ _ _ _ _ _ _ _ hid) (hfam _ _ _ hf),
    fun f e id id' tp es n el c tp' es' n' el' c' hf hid hid' => hp1.solo _ _ _ _ _ _ _ _ _ _ _ _ _ _ (hfam _ _ _ hf) (hseg _ _ _ _ _ _ _ _ hid) (hseg _ _ _ _ _ _ _ _ hid')⟩
  by_cases hm : id ∈ ids
  · obtain ⟨x, a1, _⟩ := g1 id hm
    exact Nat.lt_of_lt_of_le (hw.lt id x a1) hle
  · rw [g2 id hm] at hid
    exact hp1.lt id o hid
def Memo.Ok (P : Program) (f : Nat) (m : Memo) : Prop := Ran P f m.args m.pre m.nx m.v m.post m.nx'
theorem ifK_or {b : Bool} {x z : Rs} (h : ifK b x z = .ok) : (b = true ∧ x = .ok) ∨ z = .ok := by
  cases b with
  | true => exact .inl ⟨rfl, h⟩
  | false => exact .inr h
theorem memo_ok {f : Nat} {m : Memo} (hm : m.Ok P f) {args : List AV} {hp : Tr AO} {nx : Pz} {k : AV → Tr AO → Pz → Rs} {z : Rs} (h : memoK m args hp nx k z = .ok) : CallAt P f args hp nx k ∨ z = .ok := by
  unfold memoK at h
  rcases ifK_or h with ⟨h1, h⟩ | h
  · rcases ifK_or h with ⟨h2, h⟩ | h
    · rcases ifK_or h with ⟨h3, h⟩ | h
      · left
        have h1 := eqVL_ok _ _ h1
        have h2 := ble_ok h2
        rw [pzNum_eq, pzNum_eq] at h2
        have h3 : Part m.pre hp := subH_ok _ _ h3
        obtain ⟨hp', hk, g1, g2⟩ := keepK_ok _ _ _ h
        intro B w0 w ι cargs hw hc G hG
        subst h1
        have hrun := hm (fun k => B k ∨ ∃ id, id ∈ m.keep ∧ ι.blk id = k) w w ι cargs (wf_part h3 h2 hw) (fun ι' hι => by
          have hι := hι.le h2
          obtain ⟨c1, e1⟩ := hc ι' hι
          have cp := core_part h3 c1
          refine ⟨⟨Kept.refl _ _, fun k hk => ?_, cp.obj, fun id o hid ho => ?_, cp.sep, cp.tip⟩, e1⟩
          · rcases hk with hk | ⟨id, hid, rfl⟩
            · exact c1.room k hk
            · obtain ⟨o, a1, a2, _⟩ := g1 id hid
              have := lone_blk a2 (c1.obj id o a1)
              rwa [(hι id (hw.lt id o a1)).1] at this
          · rintro (hb | ⟨id', hid', hb⟩)
            · exact cp.base id o hid ho hb
            · obtain ⟨o', a1, a2, a3, _⟩ := g1 id' hid'
              have hne : id ≠ id' := fun e => by rw [e, a3] at hid; cases hid
              obtain ⟨fm, _, q⟩ := c1.sep id id' o o' hne (h3 _ _ hid) a1 (h3.own ho) (lone_own a2 hp).1 (by rw [(hι id' (hw.lt id' o' a1)).1, hb])
              rw [(lone_own a2 hp).2.1] at q
              cases q)
        refine Gives.mono hrun fun cv w' => ?_
        rintro ⟨ι2, hwp, hle, ha, hcc⟩
        rcases ifK_two hk with ⟨hb, hk⟩ | ⟨hb, hk⟩
        · rw [Bool.and_eq_true] at hb
          have he := isE_ok hb.1
          obtain ⟨q1, q2⟩ := hcc ι2 (Agree.refl _ _)
          rw [he] at q1
          rw [he] at g1 g2
          refine hG m.v hp' nx ι cv w' hk (kept_wf hw (Nat.le_refl _) ⟨?_, ?_, ?_, ?_⟩ g1 g2) (Nat.le_refl _) (Agree.refl _ _) fun ι' hι => ⟨kept_core hw (Nat.le_refl _) g1 g2 hι (hc ι' hι).1 (core_nil q1 ι'), by rw [q2]; exact plainV_ok hb.2 _ _⟩
          · intro id o hid; rw [Tr.get_e] at hid; cases hid
          · intro id f ep tp es n el c hid; rw [Tr.get_e] at hid; cases hid
          · intro id f ep tp es n el c e s hid; rw [Tr.get_e] at hid; cases hid
          · intro f e id id' tp es n el c tp' es' n' el' c' hid; rw [Tr.get_e] at hid; cases hid
        · have hle' := Nat.le_trans h2 hle
          refine hG m.v hp' m.nx' ι2 cv w' hk (kept_wf hw hle' hwp g1 g2) hle' (ha.le h2) fun ι' hι => ⟨?_, (hcc ι' hι).2⟩
          have hag : Agree nx ι ι' := (ha.le h2).trans hι hle'
          exact kept_core hw hle' g1 g2 hag (hc ι' hag).1 (hcc ι' hι).1
      · exact .inr h
    · exact .inr h
  · exact .inr h
theorem memos_ok {f : Nat} : ∀ (ms : List Memo), (∀ m ∈ ms, m.Ok P f) → ∀ {args : List AV} {hp : Tr AO} {nx : Pz} {k : AV → Tr AO → Pz → Rs} {z : Rs}, memosK ms args hp nx k z = .ok → CallAt P f args hp nx k ∨ z = .ok
  | [], _, args, hp, nx, k, z, h => .inr h
  | m :: ms, hm, args, hp, nx, k, z, h => by
    rcases memo_ok (hm m (by simp)) (z := memosK ms args hp nx k z) h with h | h
    · exact .inl h
    · exact memos_ok ms (fun m' h' => hm m' (by simp [h'])) h
/-! the machine that looks into the table -/
noncomputable def callM (P : Program) (Pl : Nat → Nat → List Ph) (ms : Nat → List Memo) (fu d : Nat) : CallT :=
  Nat.rec (motive := fun _ => CallT) ⟨fun _ _ _ _ _ => .bad 196, fun _ _ _ _ _ _ _ => .bad 196⟩ (fun _ ih => ⟨fun f args hp nx k => memosK (ms f) args hp nx k ((fnB P Pl f).run fu ih args hp nx k), codeN P Pl fu ih⟩) d
theorem callM_ok (hm : P.follows .mixedOrders = true) (Pl : Nat → Nat → List Ph) (hpl : ∀ f fn c, P.funcs[f]? = some fn → fn.body = some c → plansOk P (Pl f) c = true) (ms : Nat → List Memo) (hms : ∀ f m, m ∈ ms f → m.Ok P f) (fu : Nat) : ∀ d, CallOk P (callM P Pl ms fu d)
  | 0 => by
    refine ⟨fun f args hp nx k h => ?_, fun f nt c tm hp nx K h => ?_⟩
    · cases h
    · cases h
  | d + 1 => by
    have ih := callM_ok hm Pl hpl ms hms fu d
    have hops := opB_ok ih
    refine ⟨fun f args hp nx k h => ?_, fun f nt c tm hp nx K h hno l B w0 w ι a hs Q hn => ?_⟩
    · rcases memos_ok (ms f) (fun m hm => hms f m hm) (z := (fnB P Pl f).run fu (callM P Pl ms fu d) args hp nx k) h with h | h
      · exact h
      · exact fnB_ok (range_ok ih) fu Pl hpl hops (fun nt => draw_ok hm hops nt) h
    · have h : ifK (plansOk P (Pl f) c) ((codeB P f nt (Pl f) c).run fu (callM P Pl ms fu d) tm hp nx K) (.bad 293) = .ok := h
      obtain ⟨hp', h⟩ := ifK_ok h
      exact code_to (r := some l) hops (draw_ok hm hops nt) (range_ok ih) c hp' (.inr hno) fu tm hp nx K h hs hn
end
end Go.Rex
namespace Go.Rex
open Go.RowKit
set_option linter.unusedSimpArgs false
set_option linter.unusedVariables false
section
variable {P : Program}
/-- Whatever lay, lies as it lay. -/
def Stood (W W' : World) : Prop := Kept (fun k => k < W.heap.size) W W'
theorem Stood.keptBut {W W' : World} (h : Stood W W') (may : MemPlace → Prop) : W.keptBut W' may := by
  refine ⟨h.os, h.output, fun i hi => ?_⟩
  rw [h.block i hi]
  cases hb : W.heap[i]? with
  | none => rfl
  | some o =>
    cases o with
    | cells c t fr => exact ⟨rfl, rfl, rfl, fun _ _ => rfl⟩
    | map es c => exact .inr ⟨rfl, rfl⟩
    | _ => rfl
theorem Stood.frozen {W W' : World} (h : Stood W W') {a : Addr} (ha : a.block < W.heap.size) : W'.frozen? a = W.frozen? a := by
  unfold World.frozen?
  rw [h.block a.block ha]
theorem core_start (W : World) (ι : En) : Core (fun k => k < W.heap.size) W ι .e W :=
  have no : ∀ {id : Pz} {o : AO} {p : Prop}, (Tr.e : Tr AO).get id = some o → p := fun h => by rw [Tr.get_e] at h; cases h
  ⟨Kept.refl _ _, fun _ h => h, fun _ _ h => no h, fun _ _ h => no h, fun _ _ _ _ _ h => no h, fun _ _ _ _ _ _ _ _ _ _ _ _ _ _ _ _ h => no h⟩
theorem wf_start (nx : Pz) : Wf .e nx :=
  have no : ∀ {id : Pz} {o : AO} {p : Prop}, (Tr.e : Tr AO).get id = some o → p := fun h => by rw [Tr.get_e] at h; cases h
  ⟨fun _ _ h => no h, fun _ _ _ _ _ _ _ _ h => no h, fun _ _ _ _ _ _ _ _ _ _ h _ => no h, fun _ _ _ _ _ _ _ _ _ _ _ _ _ _ h _ => no h⟩
theorem gives_calls {f : Nat} {fn : Func} {args : Array Value} {w : World} {G : Value → World → Prop} (hf : P.funcs[f]? = some fn) (hb : fn.body.isNone = false) (hn : (fn.name == "runtime.NumGoroutine") = false) (h : Gives P (callFunc f args) w G) :
    Calls P f args w fun e w' => ∃ cv, e = .returned cv ∧ G cv w' := by
  have hrun : (callFunc f args).run P w = .ok (.enter f args) w := by
    simp only [callFunc, Sem.run_bind, run_program, Result.andThen_ok, hf, hn, hb, Bool.false_eq_true, if_false, Sem.run_pure]
  rcases h with ⟨cv, w', h | ⟨h, _⟩, _⟩ | ⟨f', args', w', h, hc⟩ | ⟨l, f', tmps, x, y, w', h, _⟩
  · rw [hrun] at h; cases h
  · rw [hrun] at h; cases h
  · rw [hrun] at h
    cases h
    exact hc
  · rw [hrun] at h; cases h
/-- A call of plain arguments that answers a plain value. -/
theorem ran_plain {f : Nat} {args : List AV} {nx nx' : Pz} {v : AV} (h : Ran P f args .e nx v .e nx') {fn : Func} (hf : P.funcs[f]? = some fn) (hb : fn.body.isNone = false) (hn : (fn.name == "runtime.NumGoroutine") = false)
    {cargs : Array Value} {cv : Value} (hargs : ∀ ι, cargs = (renL ι args).toArray) (hv : ∀ ι, ren ι v = cv) (w : World) : Calls P f cargs w fun e w' => e = .returned cv ∧ Stood w w' := by
  refine Calls.mono (gives_calls hf hb hn (h (fun k => k < w.heap.size) w w ⟨fun _ => 0, fun _ => 0, fun _ => 0⟩ cargs (wf_start _) fun ι' _ => ⟨core_start _ _, hargs ι'⟩)) fun e w' ⟨v', he, ι2, _, _, _, hc⟩ => ?_
  obtain ⟨c, e2⟩ := hc ι2 (Agree.refl _ _)
  exact ⟨by rw [he, e2, hv], c.below⟩
end
open Go.RowKit Go.ChangeShapes Go.WideShapes in
/-- 'post_of_same', where the law has made blocks of its own, of whatever form. -/
theorem post_of_stood {H : Type} {enc : TypeId × Value → H} {P : Program} {f : Func} {s : ChangeSpec} {apart fresh handsOn again : Bool} {W W' : World} {args : Array Value} {v : Value} {ds gs : List (DataW H)} {before pa pv : List MemPlace}
    (hW : DataW.Whole enc P f.params.toList s.vars apart W args.toList ds gs before)
    (hres : ∀ (b : Nat) (sp : Nat → Bool) (hd : Bool), DataW.TrodAll enc P W' b sp hd f.resultTypes.toList (v.resultList f.resultTypes.size) (s.fn H (ds ++ gs)).results [])
    (hargs : ∀ sp : Nat → Bool, (∀ p ∈ before, sp p.block = true) → DataW.TrodAll enc P W' 0 sp true f.params.toList args.toList (s.fn H (ds ++ gs)).args pa)
    (hvars : ∀ sp : Nat → Bool, (∀ p ∈ before, sp p.block = true) → DataW.TrodVars enc P W' sp s.vars (s.fn H (ds ++ gs)).vars pv)
    (hps : before = pa ++ pv) (hk : Stood W W')
    (hok : ∀ (j : Nat) (t : TypeId) (r : Value), f.resultTypes[j]? = some t → (v.resultList f.resultTypes.size)[j]? = some r → Value.okWide P W' .any 0 t r) :
    s.post enc P f apart fresh handsOn again W args v W' := by
  have hlt : ∀ p ∈ before, p.block < W.heap.size := fun p hp => hW.lt p hp
  have hold : ∀ p ∈ before, (fun b => decide (b < W.heap.size)) p.block = true := fun p hp => by simpa using hW.lt p hp
  refine ⟨ds, gs, before, [], pa, pv, hW, hres _ _ _, hargs _ hold, hvars _ hold, World.keptBut_mono (fun p hp => ⟨hp, ?_⟩) (hk.keptBut (· ∈ before)), fun _ => ?_⟩
  · rw [hps, List.mem_append] at hp
    exact Or.inr hp
  · obtain ⟨_, _, _, _, _, hz, hn⟩ := hW
    refine ⟨hok, _, _, ([] ++ pa) ++ pv, ⟨[] ++ pa, pv, trodAll_append (hargs _ (fun _ _ => rfl)) (hres _ _ _), hvars _ (fun _ _ => rfl), rfl, ?_, ?_⟩, ?_⟩
    · intro b off hp
      have hm : MemPlace.cell b off ∈ before := by rw [hps]; simpa using hp
      rw [hk.frozen (hlt _ hm)]
      exact hz b off hm
    · intro ha
      have := hn ha
      rw [hps] at this
      simpa using this
    · intro p hp _
      rw [hps]
      simpa using hp
end Go.Rex
