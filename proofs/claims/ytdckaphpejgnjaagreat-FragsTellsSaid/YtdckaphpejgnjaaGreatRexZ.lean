/- A run that ends well, as a truth value. Conditions: none. -/
import Derived.Test.YtdckaphpejgnjaaGreatRexP
namespace Go.Rex
noncomputable def okB (r : Rs) : Bool := Rs.rec (motive := fun _ => Bool) true (fun _ => false) r
theorem okB_ok {r : Rs} (h : okB r = true) : r = .ok := by
  cases r with
  | ok => rfl
  | bad n => cases h
theorem ran_ofB {P : Program} {call : CallT} (hcall : CallOk P call) {f : Nat} {args : List AV} {pre post : Tr AO} {nx nx' : Pz} {v : AV} (h : okB (call.run f args pre nx (seeK v post nx')) = true) : Ran P f args pre nx v post nx' := ran_of hcall (okB_ok h)
end Go.Rex
