/- Proved: the law ScopeNil of layer 16, over any integer and any string, always returns true. Conditions: none. -/
import Derived.Test.YtdckaphpejgnjaaGreatRows
import Derived.Test.YtdckaphpejgnjaaGreatFacts3
import Derived.Test.YtdckaphpejgnjaaGreatRexSP10
import Derived.WalkKit
import Derived.ProofKit
import Derived.OpenShut
import Derived.ShutString
import Derived.ChangeOld
import Derived.Below
namespace Go.Rex.RexS
noncomputable def msL (f : Nat) : List Memo := findN [] f [(13, [{ m10 with keep := [] }])]
/-- The law, run once over whatever integer and string. -/
theorem law_ran (i : Int) (l n : Nat) : Ran Go.Proofs.Tryz.prog 3 [.int .i64 i, .str l n] .e (z 0) (.bool true) .e (z 40) :=
  ran_ofB (callM_ok follows_mixed Pl plans_ok msL (table_ok (rows_cons (memos_cons m10_ok memos_nil) rows_nil)) 1000000 300) (by kernel_rfl)
end Go.Rex.RexS
namespace Go.Proofs.YtdckaphpejgnjaaGreat.scopeNil
open Go.ChangeShapes Go.WideShapes Go.ChangeAt Go.RowKit
open Go.ChangeMaps (open_string shut_string)
set_option linter.unusedVariables false

theorem own : ownKnob Tryz.prog.godebug = none := by kernel_rfl

theorem walk (a0 : Int) (a1 : ByteArray) (w : World) :
    Calls Tryz.prog 3 #[.int .i64 a0, .string a1] w fun e w' => e = .returned (.bool true) ∧ Rex.Stood w w' := by
  refine Rex.ran_plain (Rex.RexS.law_ran a0 a1.data.toList.length (Rex.absStr a1.data.toList)) Tryz.func3 (by kernel_rfl) (by kernel_rfl) (fun ι => ?_) (fun ι => by simp [Rex.ren]) w
  simp only [Rex.renL, Rex.ren, Rex.bytesOf_absStr]

set_option maxRecDepth 100000 in
theorem lifted (os : Os) (started : os.Started) (H : Type) (enc : TypeId × Value → H) :
    ReturnsInHanded {} Tryz.checked os 3 .any (Rows.scopeNilSpec.pre6 enc Tryz.prog Tryz.f3 Rows.scopeNilRow.domain false) (Rows.scopeNilSpec.post enc Tryz.prog Tryz.f3 false true false false) := by
  refine returnsInHanded_of_change (C := Tryz.checked) own started (by kernel_rfl) Tryz.func3
    (ChangeSpec.witness6 (enc := enc) (C := Tryz.checked) false ⟨#[], #[.int .i64 0, .string ⟨#[]⟩], []⟩ 8 (by kernel_rfl) (by kernel_rfl) (by kernel_rfl) (by kernel_rfl)) ?_
  intro W base args ds gs before hval0 hW hcnd _
  have hval : ∀ (j : Nat) t v, Tryz.f3.params[j]? = some t → args[j]? = some v → Value.okWide Tryz.prog W .any base t v := hval0
  have hW' := hW
  obtain ⟨p, q, hA0, hV, rfl, hfz, hnd⟩ := hW
  have hA : DataW.TrodAll enc Tryz.prog W 0 (fun _ => true) true Tryz.f3.params.toList args.toList ds p := hA0
  rw [Tryz.params3] at hA hval
  obtain ⟨v0, vs0, d0, ds0, p0, q0, hargs, rfl, rfl, h0, r0⟩ := trodAll_cons hA
  obtain ⟨v1, vs1, d1, ds1, p1, q1, rfl, rfl, rfl, h1, r1⟩ := trodAll_cons r0
  obtain ⟨rfl, rfl, rfl⟩ := trodAll_nil r1
  obtain rfl : args = #[v0, v1] := by cases args; simp_all
  obtain ⟨rfl, rfl⟩ := trodVars_none hV
  obtain ⟨a0, rfl, rfl, rfl, w0⟩ := open_int Tryz.underlying3 (hval 0 3 v0 rfl rfl) h0
  obtain ⟨a1, rfl, rfl, rfl, w1⟩ := open_string Tryz.underlying9 (hval 1 9 v1 rfl rfl) h1
  clear hA0 hval0
  simp only [List.append_nil] at hW'
  refine (walk a0 a1 W).mono fun e W' ⟨he, hg⟩ => ?_
  subst he
  exact ⟨_, rfl, Rex.post_of_stood (pa := []) (pv := []) hW' (fun _ _ _ => (trodAll_cons_mk (shut_bool Tryz.underlying4 _) trodAll_mk0)) (fun sp _ => (trodAll_cons_mk (shut_int Tryz.underlying3 w0) (trodAll_cons_mk (shut_string Tryz.underlying9 w1) trodAll_mk0))) (fun _ _ => rfl) rfl
    hg (ok_one (by kernel_rfl) rfl (okWide_bool_mk Tryz.underlying4 _))⟩

theorem over : Rows.scopeNilRow.holds Tryz.pinned (OpenSpec.ofChange Rows.scopeNilSpec) :=
  OpenClaim.holds_of_wide 3 Tryz.f3 rfl rfl rfl rfl rfl rfl rfl ⟨rfl, rfl, rfl, rfl, rfl⟩ rfl rfl rfl rfl rfl (by kernel_rfl) Tryz.func3 facts.closed3
    (of_decide_eq_true (by kernel_rfl)) (by unfold Func.isWrapper; first | (rw [if_pos (by decide +kernel)]; kernel_rfl) | (rw [if_neg (by decide +kernel)]; exact ⟨rfl, rfl⟩))
    (fun os started H enc _ => lifted os started H enc)

/-- The statement. -/
theorem proved : Rows.ScopeNilSaid := over
#print axioms proved
end Go.Proofs.YtdckaphpejgnjaaGreat.scopeNil
