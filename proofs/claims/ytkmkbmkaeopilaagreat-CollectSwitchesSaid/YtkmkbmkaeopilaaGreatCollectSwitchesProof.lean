/- Proved: the law CollectSwitches of layer 24, over any integer and any two truth values, always returns true. Conditions: none. -/
import Derived.Test.YtkmkbmkaeopilaaGreatRows
import Derived.Test.YtkmkbmkaeopilaaGreatFacts3
import Derived.Test.YtkmkbmkaeopilaaGreatRexWA
import Derived.Test.YtkmkbmkaeopilaaGreatRexWG0
import Derived.Test.YtkmkbmkaeopilaaGreatRexWG1
import Derived.Test.YtkmkbmkaeopilaaGreatRexWG2
import Derived.Test.YtkmkbmkaeopilaaGreatRexWG3
import Derived.Test.YtkmkbmkaeopilaaGreatRexWG4
import Derived.Test.YtkmkbmkaeopilaaGreatRexWG5
import Derived.Test.YtkmkbmkaeopilaaGreatRexWG6
import Derived.Test.YtkmkbmkaeopilaaGreatRexWG7
import Derived.Test.YtkmkbmkaeopilaaGreatRexWG8
import Derived.Test.YtkmkbmkaeopilaaGreatRexWG9
import Derived.Test.YtkmkbmkaeopilaaGreatRexWG10
import Derived.Test.YtkmkbmkaeopilaaGreatRexWG11
import Derived.Test.YtkmkbmkaeopilaaGreatRexWG12
import Derived.Test.YtkmkbmkaeopilaaGreatRexWG13
import Derived.Test.YtkmkbmkaeopilaaGreatRexWG14
import Derived.Test.YtkmkbmkaeopilaaGreatRexWG15
import Derived.Test.YtkmkbmkaeopilaaGreatRexWG16
import Derived.Test.YtkmkbmkaeopilaaGreatRexWG17
import Derived.Test.YtkmkbmkaeopilaaGreatRexWG18
import Derived.Test.YtkmkbmkaeopilaaGreatRexWG19
import Derived.Test.YtkmkbmkaeopilaaGreatRexWG20
import Derived.Test.YtkmkbmkaeopilaaGreatRexWG21
import Derived.Test.YtkmkbmkaeopilaaGreatRexWG22
import Derived.Test.YtkmkbmkaeopilaaGreatRexWG23
import Derived.WalkKit
import Derived.ProofKit
import Derived.OpenShut
import Derived.Below
namespace Go.Rex.Sw
/-- The awake, from whatever name on. -/
theorem awake_any (nx : Pz) : Ran Go.Proofs.Tryz.prog 4 [] .e nx (.bool true) .e nx :=
  ran_any (fun _ _ => by simp [ren]) (show Ran Go.Proofs.Tryz.prog 4 [] .e (z 1) (.bool true) .e m10.nx' from m10_ok) nx
theorem runs (u : Un) (s i : Bool) (r o : Nat) (hr : r = 0 ∨ r = 1 ∨ r = 2 ∨ r = 3) (ho : o = 0 ∨ o = 1) : ∃ call, CallOk Go.Proofs.Tryz.prog call ∧ caseRun call (t17 u s i r o) = .ok := by
  rcases hr with rfl | rfl | rfl | rfl <;> rcases ho with rfl | rfl <;> cases s <;> cases i
  · exact c00ff_ok u
  · exact c00ft_ok u
  · exact c00tf_ok u
  · exact c00tt_ok u
  · exact c01ff_ok u
  · exact c01ft_ok u
  · exact c01tf_ok u
  · exact c01tt_ok u
  · exact c10ff_ok u
  · exact c10ft_ok u
  · exact c10tf_ok u
  · exact c10tt_ok u
  · exact c11ff_ok u
  · exact c11ft_ok u
  · exact c11tf_ok u
  · exact c11tt_ok u
  · exact c20ff_ok u
  · exact c20ft_ok u
  · exact c20tf_ok u
  · exact c20tt_ok u
  · exact c21ff_ok u
  · exact c21ft_ok u
  · exact c21tf_ok u
  · exact c21tt_ok u
  · exact c30ff_ok u
  · exact c30ft_ok u
  · exact c30tf_ok u
  · exact c30tt_ok u
  · exact c31ff_ok u
  · exact c31ft_ok u
  · exact c31tf_ok u
  · exact c31tt_ok u
theorem law_ran (n : Int) (h1 : -9223372036854775808 ≤ n) (h2 : n ≤ 9223372036854775807) (s i : Bool) : Ran Go.Proofs.Tryz.prog 3 [.int .i64 n, .bool s, .bool i] .e (z 0) (.bool true) .e (z 300000) :=
  ran_at (law_goes (mach_ok (gs := noMs) noMs_ok) awake_any runs n h1 h2 s i)
end Go.Rex.Sw
namespace Go.Proofs.YtkmkbmkaeopilaaGreat.collectSwitches
open Go.ChangeShapes Go.WideShapes Go.ChangeAt Go.RowKit
set_option linter.unusedVariables false

theorem own : ownKnob Tryz.prog.godebug = none := by kernel_rfl

theorem walk (a0 : Int) (h0 : (Lit.int .i64 a0).wf = true) (a1 a2 : Bool) (w : World) :
    Calls Tryz.prog 3 #[.int .i64 a0, .bool a1, .bool a2] w fun e w' => e = .returned (.bool true) ∧ Rex.Stood w w' := by
  have hb : -9223372036854775808 ≤ a0 ∧ a0 ≤ 9223372036854775807 := by
    simp only [Lit.wf, IntKind.min, IntKind.max, IntKind.signed, IntKind.bits, Bool.and_eq_true, decide_eq_true_eq, if_true] at h0
    omega
  refine Rex.ran_plain (Rex.Sw.law_ran a0 hb.1 hb.2 a1 a2) Tryz.func3 (by kernel_rfl) (by kernel_rfl) (fun ι => ?_) (fun ι => by simp [Rex.ren]) w
  simp only [Rex.renL, Rex.ren]

set_option maxRecDepth 100000 in
theorem lifted (os : Os) (started : os.Started) (H : Type) (enc : TypeId × Value → H) :
    ReturnsInHanded {} Tryz.checked os 3 .any (Rows.collectSwitchesSpec.pre6 enc Tryz.prog Tryz.f3 Rows.collectSwitchesRow.domain false) (Rows.collectSwitchesSpec.post enc Tryz.prog Tryz.f3 false true false false) := by
  refine returnsInHanded_of_change (C := Tryz.checked) own started (by kernel_rfl) Tryz.func3
    (ChangeSpec.witness6 (enc := enc) (C := Tryz.checked) false ⟨#[], #[.int .i64 0, .bool false, .bool false], []⟩ 8 (by kernel_rfl) (by kernel_rfl) (by kernel_rfl) (by kernel_rfl)) ?_
  intro W base args ds gs before hval0 hW hcnd _
  have hval : ∀ (j : Nat) t v, Tryz.f3.params[j]? = some t → args[j]? = some v → Value.okWide Tryz.prog W .any base t v := hval0
  have hW' := hW
  obtain ⟨p, q, hA0, hV, rfl, hfz, hnd⟩ := hW
  have hA : DataW.TrodAll enc Tryz.prog W 0 (fun _ => true) true Tryz.f3.params.toList args.toList ds p := hA0
  rw [Tryz.params3] at hA hval
  obtain ⟨v0, vs0, d0, ds0, p0, q0, hargs, rfl, rfl, h0, r0⟩ := trodAll_cons hA
  obtain ⟨v1, vs1, d1, ds1, p1, q1, rfl, rfl, rfl, h1, r1⟩ := trodAll_cons r0
  obtain ⟨v2, vs2, d2, ds2, p2, q2, rfl, rfl, rfl, h2, r2⟩ := trodAll_cons r1
  obtain ⟨rfl, rfl, rfl⟩ := trodAll_nil r2
  obtain rfl : args = #[v0, v1, v2] := by cases args; simp_all
  obtain ⟨rfl, rfl⟩ := trodVars_none hV
  obtain ⟨a0, rfl, rfl, rfl, w0⟩ := open_int Tryz.underlying3 (hval 0 3 v0 rfl rfl) h0
  obtain ⟨a1, rfl, rfl, rfl⟩ := open_bool Tryz.underlying4 (hval 1 4 v1 rfl rfl) h1
  obtain ⟨a2, rfl, rfl, rfl⟩ := open_bool Tryz.underlying4 (hval 2 4 v2 rfl rfl) h2
  clear hA0 hval0
  simp only [List.append_nil] at hW'
  refine (walk a0 w0 a1 a2 W).mono fun e W' ⟨he, hg⟩ => ?_
  subst he
  exact ⟨_, rfl, Rex.post_of_stood (pa := []) (pv := []) hW' (fun _ _ _ => (trodAll_cons_mk (shut_bool Tryz.underlying4 _) trodAll_mk0)) (fun sp _ => (trodAll_cons_mk (shut_int Tryz.underlying3 w0) (trodAll_cons_mk (shut_bool Tryz.underlying4 a1) (trodAll_cons_mk (shut_bool Tryz.underlying4 a2) trodAll_mk0)))) (fun _ _ => rfl) rfl
    hg (ok_one (by kernel_rfl) rfl (okWide_bool_mk Tryz.underlying4 _))⟩

theorem over : Rows.collectSwitchesRow.holds Tryz.pinned (OpenSpec.ofChange Rows.collectSwitchesSpec) :=
  OpenClaim.holds_of_wide 3 Tryz.f3 rfl rfl rfl rfl rfl rfl rfl ⟨rfl, rfl, rfl, rfl, rfl⟩ rfl rfl rfl rfl rfl (by kernel_rfl) Tryz.func3 facts.closed3
    (of_decide_eq_true (by kernel_rfl)) (by unfold Func.isWrapper; first | (rw [if_pos (by decide +kernel)]; kernel_rfl) | (rw [if_neg (by decide +kernel)]; exact ⟨rfl, rfl⟩))
    (fun os started H enc _ => lifted os started H enc)

/-- The statement. -/
theorem proved : Rows.CollectSwitchesSaid := over
#print axioms proved
end Go.Proofs.YtkmkbmkaeopilaaGreat.collectSwitches
