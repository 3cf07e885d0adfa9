/- Closed facts about the program: its types' layout. No condition. -/
import Derived.Test.YtmabojcaklojhaaGreatRows
import Derived.WalkKit
import Derived.ProofKit
import Derived.OpenShut
namespace Go.Proofs.YtmabojcaklojhaaGreat.facts
open Go.ChangeShapes Go.WideShapes Go.ChangeAt Go.RowKit
theorem laid0 : (List.range' 0 48).all (rowFine Tryz.prog) = true := by kernel_rfl
theorem laid1 : (List.range' 48 48).all (rowFine Tryz.prog) = true := by kernel_rfl
theorem laid2 : (List.range' 96 48).all (rowFine Tryz.prog) = true := by kernel_rfl
theorem laid3 : (List.range' 144 48).all (rowFine Tryz.prog) = true := by kernel_rfl
theorem laid4 : (List.range' 192 48).all (rowFine Tryz.prog) = true := by kernel_rfl
theorem laid5 : (List.range' 240 48).all (rowFine Tryz.prog) = true := by kernel_rfl
theorem laid6 : (List.range' 288 48).all (rowFine Tryz.prog) = true := by kernel_rfl
theorem laid7 : (List.range' 336 48).all (rowFine Tryz.prog) = true := by kernel_rfl
theorem laid8 : (List.range' 384 48).all (rowFine Tryz.prog) = true := by kernel_rfl
theorem laid9 : (List.range' 432 48).all (rowFine Tryz.prog) = true := by kernel_rfl
theorem laid10 : (List.range' 480 48).all (rowFine Tryz.prog) = true := by kernel_rfl
theorem laid11 : (List.range' 528 48).all (rowFine Tryz.prog) = true := by kernel_rfl
theorem laid12 : (List.range' 576 48).all (rowFine Tryz.prog) = true := by kernel_rfl
theorem laid13 : (List.range' 624 48).all (rowFine Tryz.prog) = true := by kernel_rfl
theorem laid14 : (List.range' 672 44).all (rowFine Tryz.prog) = true := by kernel_rfl
theorem types_size : Tryz.prog.types.size = 716 := by kernel_rfl
theorem range_cut : List.range 716 = List.range' 0 48 ++ (List.range' 48 48 ++ (List.range' 96 48 ++ (List.range' 144 48 ++ (List.range' 192 48 ++ (List.range' 240 48 ++ (List.range' 288 48 ++ (List.range' 336 48 ++ (List.range' 384 48 ++ (List.range' 432 48 ++ (List.range' 480 48 ++ (List.range' 528 48 ++ (List.range' 576 48 ++ (List.range' 624 48 ++ (List.range' 672 44)))))))))))))) := by kernel_rfl
theorem laid_types : (List.range Tryz.prog.types.size).all (rowFine Tryz.prog) = true := by
  rw [types_size, range_cut]
  simp only [List.all_append, laid0, laid1, laid2, laid3, laid4, laid5, laid6, laid7, laid8, laid9, laid10, laid11, laid12, laid13, laid14, Bool.and_true]
theorem globs : Tryz.prog.globals.all (fun g => decide (g.type < Tryz.prog.types.size)) = true := by kernel_rfl
theorem funs : Tryz.prog.funcs.all (fun f => f.params.all fun t => decide (t < Tryz.prog.types.size)) = true := by kernel_rfl
theorem and2 {a b : Bool} (h : a = true) (g : b = true) : (a && b) = true := by rw [h, g]; rfl
theorem laidOut : laidOutB Tryz.prog = true := and2 (and2 laid_types globs) funs
end Go.Proofs.YtmabojcaklojhaaGreat.facts
