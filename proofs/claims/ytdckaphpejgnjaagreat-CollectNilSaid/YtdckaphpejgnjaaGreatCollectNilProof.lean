/- Proved: the law CollectNil of layer 24, over any string, any list of integers and any integer, always returns true. Conditions: none. -/
import Derived.Test.YtdckaphpejgnjaaGreatRows
import Derived.Test.YtdckaphpejgnjaaGreatFacts5
import Derived.Test.YtdckaphpejgnjaaGreatRexCP8
import Derived.WalkKit
import Derived.ProofKit
import Derived.OpenShut
import Derived.ShutString
import Derived.ChangeOld
import Derived.Below
import Derived.Carry
namespace Go.Rex.RexC
/-- The awake, from whatever name on. -/
theorem awake_any (nx : Pz) : Ran Go.Proofs.Tryz.prog 30 [] .e nx (.bool true) .e nx := by
  intro B w0 w ι cargs hw hc
  have h : Ran Go.Proofs.Tryz.prog 30 [] .e (z 0) (.bool true) .e m8.nx' := m8_ok
  obtain ⟨c1, e1⟩ := hc ι (Agree.refl _ _)
  refine Gives.mono (h B w0 w ι cargs (wf_start _) fun ι' _ => ⟨core_nil c1 ι', by rw [e1]; simp [renL]⟩) fun cv w' ⟨ι2, _, _, _, h⟩ => ?_
  obtain ⟨c2, e2⟩ := h ι2 (Agree.refl _ _)
  exact ⟨ι, wf_start _, Nat.le_refl _, Agree.refl _ _, fun ι' _ => ⟨core_nil c2 ι', by rw [e2]; simp [ren]⟩⟩
noncomputable def mA : Memo := ⟨[], .e, z 7, .bool true, .e, z 7, []⟩
theorem mA_ok : mA.Ok Go.Proofs.Tryz.prog 30 := awake_any (z 7)
noncomputable def msL (f : Nat) : List Memo := findN [] f [(30, [{ mA with keep := [] }])]
theorem law_nil (l n : Nat) (i : Int) : Ran Go.Proofs.Tryz.prog 5 [.str l n, .nils, .int .i64 i] .e (z 0) (.bool true) .e (z 80) :=
  ran_ofB (callM_ok follows_mixed Pl plans_ok msL (table_ok (rows_cons (memos_cons mA_ok memos_nil) rows_nil)) 1000000 300) (by kernel_rfl)
theorem law_row (l n len cap : Nat) (i : Int) : Ran Go.Proofs.Tryz.prog 5 [.str l n, .slice .h 0 len cap, .int .i64 i] .e (z 1) (.bool true) .e (z 80) :=
  ran_ofB (callM_ok follows_mixed Pl plans_ok msL (table_ok (rows_cons (memos_cons mA_ok memos_nil) rows_nil)) 1000000 300) (by kernel_rfl)
end Go.Rex.RexC
namespace Go.Proofs.YtdckaphpejgnjaaGreat.collectNil
open Go.ChangeShapes Go.WideShapes Go.ChangeAt Go.RowKit
open Go.ChangeMaps (open_string shut_string)
set_option linter.unusedVariables false

theorem own : ownKnob Tryz.prog.godebug = none := by kernel_rfl

theorem walk (a0 : ByteArray) (a1 : Option Addr) (len cap : Nat) (a2 : Int) (w : World) (h0 : a1 = none → len = 0 ∧ cap = 0) (h1 : ∀ x, a1 = some x → x.spot = none) :
    Calls Tryz.prog 5 #[.string a0, .slice a1 len cap, .int .i64 a2] w fun e w' => e = .returned (.bool true) ∧ Rex.Stood w w' := by
  cases a1 with
  | none =>
    obtain ⟨rfl, rfl⟩ := h0 rfl
    refine Rex.ran_plain (Rex.RexC.law_nil a0.data.toList.length (Rex.absStr a0.data.toList) a2) Tryz.func5 (by kernel_rfl) (by kernel_rfl) (fun ι => ?_) (fun ι => by simp [Rex.ren]) w
    simp only [Rex.renL, Rex.ren, Rex.bytesOf_absStr]
  | some x =>
    obtain ⟨b, o, s⟩ := x
    obtain rfl : s = none := h1 _ rfl
    have hr := Rex.RexC.law_row a0.data.toList.length (Rex.absStr a0.data.toList) len cap a2
    refine Calls.mono (Rex.gives_calls Tryz.func5 (by kernel_rfl) (by kernel_rfl) (hr (fun k => k < w.heap.size) w w ⟨fun _ => b, fun _ => o, fun _ => 0⟩ #[.string a0, .slice (some ⟨b, o, none⟩) len cap, .int .i64 a2] (Rex.wf_start _) fun ι' hι => ⟨Rex.core_start _ _, ?_⟩)) fun e w' ⟨v', he, ι2, _, _, _, hc⟩ => ?_
    · have hb := hι .h (by show 1 < (Rex.z 1).num; rw [show Rex.z 1 = .o .h by rfl]; decide)
      simp only [Rex.renL, Rex.ren, Rex.bytesOf_absStr, hb.1, hb.2.1, Nat.add_zero]
    · obtain ⟨c, e2⟩ := hc ι2 (Rex.Agree.refl _ _)
      exact ⟨by rw [he, e2]; simp [Rex.ren], c.below⟩

set_option maxRecDepth 100000 in
theorem lifted (os : Os) (started : os.Started) (H : Type) (enc : TypeId × Value → H) :
    ReturnsInHanded {} Tryz.checked os 5 .any (Rows.collectNilSpec.pre6 enc Tryz.prog Tryz.f5 Rows.collectNilRow.domain false) (Rows.collectNilSpec.post enc Tryz.prog Tryz.f5 false true false false) := by
  refine returnsInHanded_of_change (C := Tryz.checked) own started (by kernel_rfl) Tryz.func5
    (ChangeSpec.witness6 (enc := enc) (C := Tryz.checked) false ⟨#[], #[.string ⟨#[]⟩, .slice none 0 0, .int .i64 0], []⟩ 8 (by kernel_rfl) (by kernel_rfl) (by kernel_rfl) (by kernel_rfl)) ?_
  intro W base args ds gs before hval0 hW hcnd _
  have hval : ∀ (j : Nat) t v, Tryz.f5.params[j]? = some t → args[j]? = some v → Value.okWide Tryz.prog W .any base t v := hval0
  have hW' := hW
  obtain ⟨p, q, hA0, hV, rfl, hfz, hnd⟩ := hW
  have hA : DataW.TrodAll enc Tryz.prog W 0 (fun _ => true) true Tryz.f5.params.toList args.toList ds p := hA0
  rw [Tryz.params5] at hA hval
  obtain ⟨v0, vs0, d0, ds0, p0, q0, hargs, rfl, rfl, h0, r0⟩ := trodAll_cons hA
  obtain ⟨v1, vs1, d1, ds1, p1, q1, rfl, rfl, rfl, h1, r1⟩ := trodAll_cons r0
  obtain ⟨v2, vs2, d2, ds2, p2, q2, rfl, rfl, rfl, h2, r2⟩ := trodAll_cons r1
  obtain ⟨rfl, rfl, rfl⟩ := trodAll_nil r2
  obtain rfl : args = #[v0, v1, v2] := by cases args; simp_all
  obtain ⟨rfl, rfl⟩ := trodVars_none hV
  obtain ⟨a0, rfl, rfl, rfl, w0⟩ := open_string Tryz.underlying9 (hval 0 9 v0 rfl rfl) h0
  have hv1 := hval 1 29 v1 rfl rfl
  obtain ⟨a1, len1, cap1, rfl⟩ := okWide_slice Tryz.underlying29 hv1
  have k1 := h1
  have lt1 : ∀ x ∈ p1, x.block < W.heap.size := by obtain ⟨m, hm⟩ := k1; exact DataW.trod_lt m _ _ _ hm
  obtain ⟨a2, rfl, rfl, rfl, w2⟩ := open_int Tryz.underlying3 (hval 2 3 v2 rfl rfl) h2
  have hnil : a1 = none → len1 = 0 ∧ cap1 = 0 := by
    rintro rfl
    simp only [Value.okWide, Tryz.underlying29, Cell.okWide] at hv1
    cases len1 <;> cases cap1 <;> simp_all [Cell.ok, Tryz.underlying29]
  have hspot : ∀ x, a1 = some x → x.spot = none := by
    rintro x rfl
    simp only [Value.okWide, Tryz.underlying29, Cell.okWide] at hv1
    simp only [Cell.ok, Tryz.underlying29] at hv1
    exact hv1.2.2.2.1
  clear hA0 hval0
  refine (walk a0 a1 len1 cap1 a2 W hnil hspot).mono fun e W' ⟨he, hg⟩ => ?_
  subst he
  have bel : Below W.heap.size W W' := ⟨hg.os, hg.tape, hg.output, hg.size, hg.block⟩
  exact ⟨_, rfl, _, _, _, [], _, [], hW', trodAll_mk1 (shut_bool Tryz.underlying4 _), (trodAll_cons_mk (shut_string Tryz.underlying9 w0) (trodAll_cons_mk (Below.trod facts.laidOut (by kernel_rfl) (of_decide_eq_true (by kernel_rfl)) k1 bel lt1) (trodAll_cons_mk (shut_int Tryz.underlying3 w2) trodAll_mk0))), rfl, bel.frame _, fun h => by cases h⟩

theorem over : Rows.collectNilRow.holds Tryz.pinned (OpenSpec.ofChange Rows.collectNilSpec) :=
  OpenClaim.holds_of_wide 5 Tryz.f5 rfl rfl rfl rfl rfl rfl rfl ⟨rfl, rfl, rfl, rfl, rfl⟩ rfl rfl rfl rfl rfl (by kernel_rfl) Tryz.func5 facts.closed5
    (of_decide_eq_true (by kernel_rfl)) (by unfold Func.isWrapper; first | (rw [if_pos (by decide +kernel)]; kernel_rfl) | (rw [if_neg (by decide +kernel)]; exact ⟨rfl, rfl⟩))
    (fun os started H enc _ => lifted os started H enc)

/-- The statement. -/
theorem proved : Rows.CollectNilSaid := over
#print axioms proved
end Go.Proofs.YtdckaphpejgnjaaGreat.collectNil
