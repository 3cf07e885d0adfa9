/- Proved: the law CollectEnds of layer 24, over any definitions, any document and whatever is asked, whose reading is of bulk at most 1048576, always returns true, and what came in reads as it did. Conditions: none but the statement's own bound. -/
import Derived.Test.YtmabojcaklojhaaGreatRows
import Derived.Test.YtmabojcaklojhaaGreatFacts4
import Derived.Test.YtmabojcaklojhaaGreatXt
import Derived.WalkKit
import Derived.ProofKit
import Derived.OpenShut
import Derived.JoinedCond
import Derived.ReadAgain
import Derived.ChangeOld
import Derived.Below
namespace Go.Proofs.YtmabojcaklojhaaGreat.collectEnds
open Go.ChangeShapes Go.WideShapes Go.ChangeAt Go.RowKit
set_option linter.unusedVariables false

theorem own : ownKnob Tryz.prog.godebug = none := by kernel_rfl
theorem kids : Kids Tryz.prog (·< Tryz.prog.types.size) := kids_rows facts.laidOut facts.maps
theorem full : ∀t e, t < Tryz.prog.types.size → Tryz.prog.underlying t = some (.slice e) → 0 < Tryz.prog.cellsOf e := slices_full_of Tryz.prog (by kernel_rfl)
theorem small : ∀t∈ [22, 25, 61], t < Tryz.prog.types.size := by rw[facts.types_size];decide
/-- The forms of what comes in. -/
def okC (c : Nat) : Bool := Nat.ble 1 c && Nat.ble c 17
noncomputable def formB (c : Nat) : Bool := !okC c|| ((!Rd.Φ7.gv c && !Rd.Φ7.fr c) && (match Rd.jT Tryz.prog 6 (Rd.Φ7.ty c)with
  |some fk => Rd.kP Rd.Φ7 okC (Rd.Φ7.ks c) fk && (Nat.beq fk.length (aI.ae Tryz.prog (Rd.Φ7.ty c)) && Nat.blt 0 fk.length)
  |none => false))
theorem forms_all : (List.range 18).all formB = true := by kernel_rfl
theorem forms (c : Nat)(h : okC c = true) : (Rd.Φ7.gv c = false ∧ Rd.Φ7.fr c = false) ∧ ∃d fk, Rd.jT Tryz.prog d (Rd.Φ7.ty c) = some fk ∧ Rd.kP Rd.Φ7 okC (Rd.Φ7.ks c) fk = true ∧ fk.length = aI.ae Tryz.prog (Rd.Φ7.ty c) ∧ 0 < fk.length := by
  have hc : c < 18 := by
    unfold okC at h;rw[Bool.and_eq_true]at h;have := Nat.le_of_ble_eq_true h.2;omega
  have hb := List.all_eq_true.1 forms_all c (List.mem_range.2 hc);unfold formB at hb;rw[h]at hb;simp only[Bool.not_true, Bool.false_or, Bool.and_eq_true, Bool.not_eq_true']at hb;obtain ⟨h1, h2⟩ := hb;refine ⟨h1, 6, ?_⟩;split at h2
  ·rename_i fk hf;simp only[Bool.and_eq_true]at h2;exact ⟨fk, hf, h2.1, Nat.eq_of_beq_eq_true h2.2.1, Nat.le_of_ble_eq_true h2.2.2⟩
  ·cases h2
theorem flat22 : (match Rd.jT Tryz.prog 6 22 with|some fk => Rd.kP Rd.Φ7 okC [.sl 8] fk|none => false) = true := by kernel_rfl
theorem flat25 : (match Rd.jT Tryz.prog 6 25 with|some fk => Rd.kP Rd.Φ7 okC [.sl 6] fk|none => false) = true := by kernel_rfl
theorem flat61 : (match Rd.jT Tryz.prog 6 61 with|some fk => Rd.kP Rd.Φ7 okC [.int .i64, .sl 15, .str, .sl 16] fk|none => false) = true := by kernel_rfl
theorem flat_of {t : TypeId}{ks : List Rt.K2}(h : (match Rd.jT Tryz.prog 6 t with|some fk => Rd.kP Rd.Φ7 okC ks fk|none => false) = true) : ∃fk, Rd.jT Tryz.prog 6 t = some fk ∧ Rd.kP Rd.Φ7 okC ks fk = true := by
  split at h
  ·rename_i fk hf;exact ⟨fk, hf, h⟩
  ·cases h
theorem four {α : Type}{l : List α}(h : l.length = 4) : ∃a b c d, l = [a, b, c, d] := by
  cases l with
  |nil => cases h
  |cons a l => cases l with
   |nil => cases h
   |cons b l => cases l with
    |nil => cases h
    |cons c l => cases l with
     |nil => cases h
     |cons d l => cases l with
      |nil => exact ⟨a, b, c, d, rfl⟩
      |cons e l => simp at h

set_option maxRecDepth 100000 in
theorem contract (H : Type)(enc : TypeId×Value → H)(W : World)(base : Nat)(args : Array Value)(ds gs : List (DataW H))(before : List MemPlace)
    (hval : ∀(j : Nat) t v, Tryz.f4.params[j]? = some t → args[j]? = some v → Value.okWide Tryz.prog W .any base t v)
    (hW : DataW.Whole enc Tryz.prog Tryz.f4.params.toList Rows.collectEndsSpec.vars false W args.toList ds gs before) (hk : Rows.uptoSmall H (ds ++ gs) = true) :
    Calls Tryz.prog 4 args W fun e W' => ∃v, e = .returned v ∧ Rows.collectEndsSpec.post enc Tryz.prog Tryz.f4 false true false false W args v W' := by
  have hW' := hW;have hlt := hW.lt;obtain ⟨p, q, hA0, hV, rfl, hfz, hnd⟩ := hW;have hA : DataW.TrodAll enc Tryz.prog W 0 (fun _ => true) true Tryz.f4.params.toList args.toList ds p := hA0;have hA2 := hA;rw[Tryz.params4]at hA hval;obtain ⟨v0, vs0, d0, ds0, p0, q0, hargs, rfl, rfl, h0, r0⟩ := trodAll_cons hA;obtain ⟨v1, vs1, d1, ds1, p1, q1, rfl, rfl, rfl, h1, r1⟩ := trodAll_cons r0;obtain ⟨v2, vs2, d2, ds2, p2, q2, rfl, rfl, rfl, h2, r2⟩ := trodAll_cons r1;obtain ⟨rfl, rfl, rfl⟩ := trodAll_nil r2;obtain rfl : args = #[v0, v1, v2] := by cases args;simp_all
  obtain ⟨rfl, rfl⟩ := trodVars_none hV;have hb : Rows.uptoBulkAll ([d0, d1, d2] : List (DataW H)) ≤ 1048576 := of_decide_eq_true hk;simp only[Rows.uptoBulkAll]at hb;obtain ⟨o, l, c, rfl⟩ := Rd.Fp Tryz.underlying22 (hval 0 22 v0 rfl rfl);obtain ⟨cs, rfl, hcs⟩ := Rd.tA Tryz.underlying25 (hval 1 25 v1 rfl rfl);obtain ⟨ct, rfl, hct⟩ := Rd.tA Tryz.underlying61 (hval 2 61 v2 rfl rfl);obtain ⟨n0, t0⟩ := h0;obtain ⟨n1, t1⟩ := h1;obtain ⟨n2, t2⟩ := h2;obtain ⟨fk0, f0, g0⟩ := flat_of (t := 22) (ks := [.sl 8]) flat22;obtain ⟨fk1, f1, g1⟩ := flat_of (t := 25) (ks := [.sl 6]) flat25;obtain ⟨fk2, f2, g2⟩ := flat_of (t := 61) (ks := [.int .i64, .sl 15, .str, .sl 16]) flat61;obtain ⟨e0, fs0, x0, y0⟩ := Rd.xd forms n0 _ _ _ _ t0 (by omega) _ _ _ f0 g0;obtain ⟨e1, fs1, x1, y1⟩ := Rd.xd forms n1 _ _ _ _ t1 (by omega) _ _ _ f1 g1;obtain ⟨e2, fs2, x2, y2⟩ := Rd.xd forms n2 _ _ _ _ t2 (by omega) _ _ _ f2 g2;have l1 : cs.toList.length = 1 := by rw[← Rd.tB g1]at e1;exact e1
  obtain ⟨x, hx⟩ := List.length_eq_one_iff.1 l1;obtain rfl : cs = #[x] := by cases cs;simp_all
  have l2 : ct.toList.length = 4 := by rw[← Rd.tB g2]at e2;exact e2
  obtain ⟨u0, u1, u2, u3, hu⟩ := four l2;obtain rfl : ct = #[u0, u1, u2, u3] := by cases ct;simp_all
  obtain ⟨ns0, z1, z2, z3⟩ := Rd.vB (v := Rd.fC (.slice o l c)) x0;obtain ⟨ns1, z4, z5, z6⟩ := Rd.vB (v := Rd.fC x) x1;obtain ⟨a, w1, sl, sn, w3, ns3, ns5, hc, hsl, r3, hl3, r5, hl5⟩ := Rd.Kj (cs := [Rd.fC u0, Rd.fC u1, Rd.fC u2, Rd.fC u3]) x2;simp only[List.cons.injEq, and_true]at hc;obtain ⟨ha, hw1, hs, hw3⟩ := hc;subst hw1 hw3;have z3 : Rt.iO Rd.Φ7 fs0 = ns0.sum + ns0.length := z3;have hw : ns0.sum + ns0.length ≤ Rt.WU := by show _ ≤ 2097152;omega
  clear hA0;simp only[List.append_nil]at hW' hlt hA2;refine (Rd.TT Tryz.func4 (by kernel_rfl) (by kernel_rfl) W z1 z2 hw z4 z5 ha r3 hl3 hs hsl r5 hl5).mono fun e W' ⟨he, hg⟩ => ?_;subst he
  refine ⟨_, rfl, aI.vf (pv := []) hW' (fun _ _ _ => (trodAll_cons_mk (shut_bool Tryz.underlying4 _) trodAll_mk0)) (fun sp hsp => ?_) (fun _ _ => rfl) (List.append_nil _).symm
    hg (ok_one (by kernel_rfl) rfl (okWide_bool_mk Tryz.underlying4 _))⟩
  exact DataW.TrodAll.respare kids full (by rw[Tryz.params4];exact small) (Rd.pJ (fun p hp => Rd.Kk hg (hlt p hp)) hA2) hsp

set_option maxRecDepth 100000 in
theorem lifted (os : Os)(started : os.Started)(H : Type)(enc : TypeId×Value → H)(F : Stop.Interp) :
    ReturnsInHanded {} Tryz.checked os 4 .any ((Rows.OpenSpec.upto Rows.collectEndsSpec).pre6 enc Tryz.prog Tryz.f4 Rows.collectEndsUptoRow.domain false) (((Rows.OpenSpec.upto Rows.collectEndsSpec).at F).post enc Tryz.prog Tryz.f4 false true false false) := by
  refine returnsInHanded_of_cond (C := Tryz.checked) (s := Rows.OpenSpec.upto Rows.collectEndsSpec) (k := Rows.uptoSmall) rfl own started (by kernel_rfl) Tryz.func4
    (OpenSpec.witness (enc := enc) (C := Tryz.checked) (s := Rows.OpenSpec.upto Rows.collectEndsSpec) (k := Rows.uptoSmall) rfl false ⟨#[], #[.slice none 0 0, .agg #[.slice none 0 0], .agg #[.int .i64 0, .slice none 0 0, .string ⟨#[]⟩, .slice none 0 0]], []⟩ 8 (by kernel_rfl) (by kernel_rfl) (by kernel_rfl)
      (x := ([.nil, .agg [.nil], .agg [.lit (.int .i64 0), .nil, .lit (.string []), .nil]], [], [])) (by kernel_rfl) rfl (by kernel_rfl)) ?_
  intro W base args ds gs before hval hW _ hk _;exact contract H enc W base args ds gs before hval hW hk

theorem over : Rows.collectEndsUptoRow.holds Tryz.pinned (Rows.OpenSpec.upto Rows.collectEndsSpec) :=
  OpenClaim.holds_of_cond 4 Tryz.f4 rfl rfl rfl rfl rfl rfl rfl ⟨rfl, rfl, rfl, rfl, rfl⟩ rfl rfl rfl rfl rfl (by kernel_rfl) Tryz.func4 facts.closed4
    (of_decide_eq_true (by kernel_rfl)) (by unfold Func.isWrapper;first|(rw[if_pos (by decide +kernel)];kernel_rfl)|(rw[if_neg (by decide +kernel)];exact ⟨rfl, rfl⟩))
    (fun os started H enc _ F => lifted os started H enc F)

/-- The statement. -/
theorem proved : Rows.CollectEndsUptoSaid := over
#print axioms proved
end Go.Proofs.YtmabojcaklojhaaGreat.collectEnds
