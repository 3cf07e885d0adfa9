/-
  NARROWER THAN 'FOR EVERY INPUT', by the rows' own cells (each row's printed sentence says how): ScopeEnds: loops · CollectEnds: loops · FragsEnds: loops · OverlapEnds: loops.
  DERIVED. THE GIVEN ROWS OF THIS SEAT. 4 by the template 'for every input the law returns true; each argument reads behind the call as it read before'; 0 by the template 'total and deterministic' (their statements: YtmabojcaklojhaaGreatTotals.lean).
  GIVEN WITH THE SEED: the statements are not yours to turn. If you find one false, say at which input.
  Laid BY PROGRAM, IN A SANDBOX (cutbox-rows.mjs): the forced cells as the released guide's own fill.sh prints them over the translation 5e71e3a962acf321… (all of the seat's roots in one cut). By AI agents, Wed Nov 11 2026. No macro, syntax, notation, axiom, sorry.
-/
import Derived.Test.YtmabojcaklojhaaGreatChecked
import GoSem.Claim
import GoSem.ClaimJoined
import GoSem.ClaimMapViews
import Derived.JoinedTies
import Derived.KernelRfl
namespace Go.Proofs.YtmabojcaklojhaaGreat
/- THE CELL 'sum', in the pinned program and in every row, IS THE sha256 OF THE DUMP (.gsa) THAT YtmabojcaklojhaaGreatProg.lean LOADS. Nothing in Lean hashes anything: it is a label: what it is worth is what the hold of that sum in a sandbox is worth. -/
noncomputable def Tryz.pinned : Pinned := { name := "ytmabojcaklojhaagreat", sum := "5e71e3a962acf3215ddd5b4cf7effac25907313801235ebf27b298fa00206cee", checked := Tryz.checked }
namespace Rows
def none {H : Type} : Left H := { results := [], args := [] }

/-- 'pergolalaw16.ScopeEnds': WHATEVER THE INPUT: true; the input reads as it did. -/
def scopeEndsSpec : ChangeSpec := { name := "scopeEnds", fn := fun _ => fun
  | [d1, d2, d3] => { results := [.lit (.bool true)], args := [d1, d2, d3] }
  | _ => none }
def scopeEndsRow : OpenClaim := { program := "ytmabojcaklojhaagreat", sum := "5e71e3a962acf3215ddd5b4cf7effac25907313801235ebf27b298fa00206cee", func := "pergola/pergolalaw16.ScopeEnds", spec := "scopeEnds", inPlace := ["math.Float64frombits"], unfollowed := true, recurses := true, loops := true, plainKeys := false, apart := false }
def ScopeEndsSaid : Prop := scopeEndsRow.holds Tryz.pinned (OpenSpec.ofChange scopeEndsSpec)

/-- ITS FALSE NEIGHBOUR: 'it returns false'. Refute it at one input. -/
def scopeEndsWrong : ChangeSpec := { name := "scopeEnds", fn := fun _ => fun
  | [d1, d2, d3] => { results := [.lit (.bool false)], args := [d1, d2, d3] }
  | _ => none }
def ScopeEndsWrongFalsely : Prop := scopeEndsRow.holds Tryz.pinned (OpenSpec.ofChange scopeEndsWrong)

/-- 'pergolalaw24.CollectEnds': WHATEVER THE INPUT: true; the input reads as it did. -/
def collectEndsSpec : ChangeSpec := { name := "collectEnds", fn := fun _ => fun
  | [d1, d2, d3] => { results := [.lit (.bool true)], args := [d1, d2, d3] }
  | _ => none }
def collectEndsRow : OpenClaim := { program := "ytmabojcaklojhaagreat", sum := "5e71e3a962acf3215ddd5b4cf7effac25907313801235ebf27b298fa00206cee", func := "pergola/pergolalaw24.CollectEnds", spec := "collectEnds", inPlace := ["math.Float64frombits"], unfollowed := true, recurses := true, loops := true, plainKeys := false, apart := false }
def CollectEndsSaid : Prop := collectEndsRow.holds Tryz.pinned (OpenSpec.ofChange collectEndsSpec)

/-- ITS FALSE NEIGHBOUR: 'it returns false'. Refute it at one input. -/
def collectEndsWrong : ChangeSpec := { name := "collectEnds", fn := fun _ => fun
  | [d1, d2, d3] => { results := [.lit (.bool false)], args := [d1, d2, d3] }
  | _ => none }
def CollectEndsWrongFalsely : Prop := collectEndsRow.holds Tryz.pinned (OpenSpec.ofChange collectEndsWrong)

/-- 'pergolalaw19.FragsEnds': WHATEVER THE INPUT: true; the input reads as it did. -/
def fragsEndsSpec : ChangeSpec := { name := "fragsEnds", fn := fun _ => fun
  | [d1, d2] => { results := [.lit (.bool true)], args := [d1, d2] }
  | _ => none }
def fragsEndsRow : OpenClaim := { program := "ytmabojcaklojhaagreat", sum := "5e71e3a962acf3215ddd5b4cf7effac25907313801235ebf27b298fa00206cee", func := "pergola/pergolalaw19.FragsEnds", spec := "fragsEnds", inPlace := ["math.Float64frombits"], unfollowed := true, recurses := true, loops := true, plainKeys := false, apart := false }
def FragsEndsSaid : Prop := fragsEndsRow.holds Tryz.pinned (OpenSpec.ofChange fragsEndsSpec)

/-- ITS FALSE NEIGHBOUR: 'it returns false'. Refute it at one input. -/
def fragsEndsWrong : ChangeSpec := { name := "fragsEnds", fn := fun _ => fun
  | [d1, d2] => { results := [.lit (.bool false)], args := [d1, d2] }
  | _ => none }
def FragsEndsWrongFalsely : Prop := fragsEndsRow.holds Tryz.pinned (OpenSpec.ofChange fragsEndsWrong)

/-- 'pergolalaw18.OverlapEnds': WHATEVER THE INPUT: true; the input reads as it did. -/
def overlapEndsSpec : ChangeSpec := { name := "overlapEnds", fn := fun _ => fun
  | [d1, d2, d3, d4] => { results := [.lit (.bool true)], args := [d1, d2, d3, d4] }
  | _ => none }
def overlapEndsRow : OpenClaim := { program := "ytmabojcaklojhaagreat", sum := "5e71e3a962acf3215ddd5b4cf7effac25907313801235ebf27b298fa00206cee", func := "pergola/pergolalaw18.OverlapEnds", spec := "overlapEnds", inPlace := ["math.Float64frombits"], unfollowed := true, recurses := true, loops := true, plainKeys := false, apart := false }
def OverlapEndsSaid : Prop := overlapEndsRow.holds Tryz.pinned (OpenSpec.ofChange overlapEndsSpec)

/-- ITS FALSE NEIGHBOUR: 'it returns false'. Refute it at one input. -/
def overlapEndsWrong : ChangeSpec := { name := "overlapEnds", fn := fun _ => fun
  | [d1, d2, d3, d4] => { results := [.lit (.bool false)], args := [d1, d2, d3, d4] }
  | _ => none }
def OverlapEndsWrongFalsely : Prop := overlapEndsRow.holds Tryz.pinned (OpenSpec.ofChange overlapEndsWrong)

/- THE SECOND FORM. 'bulk': how many values and letters a reading holds, each counted each time it is reached (what is shared counts as often as it is met; a slice's spare places count too). A statement '..UptoSaid' is the law's where the arguments, and the package variables that the reading takes, are together of bulk at most 1048576: NARROWER than '..Said'. Prove '..Said' where nothing that the law and all that it calls make is longer than what came in: it says more and counts as full. Else prove '..UptoSaid'. A law counts once. -/
mutual
def uptoBulk {H : Type} : DataW H → Nat
  | .lit (.string bytes) => bytes.length + 1
  | .lit _ => 1
  | .nil => 1
  | .ptr d => uptoBulk d + 1
  | .slice elems spare => uptoBulkAll elems + uptoBulkAll spare + 1
  | .agg parts => uptoBulkAll parts + 1
  | .iface _ d => uptoBulk d + 1
  | .map entries => uptoBulkEntries entries + 1
  | .held _ => 1
def uptoBulkAll {H : Type} : List (DataW H) → Nat
  | [] => 0
  | d :: r => uptoBulk d + uptoBulkAll r
def uptoBulkEntries {H : Type} : List (Lit × DataW H) → Nat
  | [] => 0
  | x :: r => uptoBulkEntry x + uptoBulkEntries r
def uptoBulkEntry {H : Type} : Lit × DataW H → Nat
  | (.string bytes, d) => bytes.length + uptoBulk d + 1
  | (_, d) => uptoBulk d + 1
 end
def uptoSmall : (H : Type) → List (DataW H) → Bool := fun _ ds => decide (uptoBulkAll ds ≤ 1048576)
def OpenSpec.upto (s : _root_.Go.ChangeSpec) : _root_.Go.OpenSpec := { _root_.Go.OpenSpec.ofChange s with cond := some uptoSmall }

/-- 'pergolalaw16.ScopeEnds', WHERE WHAT IT READS IS OF BULK AT MOST 1048576: true; the input reads as it did. -/
def scopeEndsUptoRow : OpenClaim := { program := "ytmabojcaklojhaagreat", sum := "5e71e3a962acf3215ddd5b4cf7effac25907313801235ebf27b298fa00206cee", func := "pergola/pergolalaw16.ScopeEnds", spec := "scopeEnds", inPlace := ["math.Float64frombits"], unfollowed := true, recurses := true, loops := true, plainKeys := false, apart := false, narrowed := true }
def ScopeEndsUptoSaid : Prop := scopeEndsUptoRow.holds Tryz.pinned (OpenSpec.upto scopeEndsSpec)

/-- 'pergolalaw24.CollectEnds', WHERE WHAT IT READS IS OF BULK AT MOST 1048576: true; the input reads as it did. -/
def collectEndsUptoRow : OpenClaim := { program := "ytmabojcaklojhaagreat", sum := "5e71e3a962acf3215ddd5b4cf7effac25907313801235ebf27b298fa00206cee", func := "pergola/pergolalaw24.CollectEnds", spec := "collectEnds", inPlace := ["math.Float64frombits"], unfollowed := true, recurses := true, loops := true, plainKeys := false, apart := false, narrowed := true }
def CollectEndsUptoSaid : Prop := collectEndsUptoRow.holds Tryz.pinned (OpenSpec.upto collectEndsSpec)

/-- 'pergolalaw19.FragsEnds', WHERE WHAT IT READS IS OF BULK AT MOST 1048576: true; the input reads as it did. -/
def fragsEndsUptoRow : OpenClaim := { program := "ytmabojcaklojhaagreat", sum := "5e71e3a962acf3215ddd5b4cf7effac25907313801235ebf27b298fa00206cee", func := "pergola/pergolalaw19.FragsEnds", spec := "fragsEnds", inPlace := ["math.Float64frombits"], unfollowed := true, recurses := true, loops := true, plainKeys := false, apart := false, narrowed := true }
def FragsEndsUptoSaid : Prop := fragsEndsUptoRow.holds Tryz.pinned (OpenSpec.upto fragsEndsSpec)

/-- 'pergolalaw18.OverlapEnds', WHERE WHAT IT READS IS OF BULK AT MOST 1048576: true; the input reads as it did. -/
def overlapEndsUptoRow : OpenClaim := { program := "ytmabojcaklojhaagreat", sum := "5e71e3a962acf3215ddd5b4cf7effac25907313801235ebf27b298fa00206cee", func := "pergola/pergolalaw18.OverlapEnds", spec := "overlapEnds", inPlace := ["math.Float64frombits"], unfollowed := true, recurses := true, loops := true, plainKeys := false, apart := false, narrowed := true }
def OverlapEndsUptoSaid : Prop := overlapEndsUptoRow.holds Tryz.pinned (OpenSpec.upto overlapEndsSpec)

end Rows
end Go.Proofs.YtmabojcaklojhaaGreat
