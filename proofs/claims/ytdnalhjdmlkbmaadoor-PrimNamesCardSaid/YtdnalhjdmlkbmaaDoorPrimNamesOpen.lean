/- PrimNames, its condition opened. -/
import Derived.Test.YtdnalhjdmlkbmaaDoorPrimNames
import Derived.Test.YtdnalhjdmlkbmaaDoorLaid
import Derived.OpenShut
namespace Go.Proofs.YtdnalhjdmlkbmaaDoor.primNames
open Go.RowKit Go.ChangeShapes Go.WideShapes
set_option maxRecDepth 100000 in
theorem primNames_open (W : World) (hL : laidMetH Tryd.prog laid4 W) :
    Calls Tryd.prog 5 #[] W fun e w' => e = .returned (.bool true) ∧ Below W.heap.size W w' := by
  refine (names_any (fun _ => 0) W (of_laid hL)).mono ?_
  rintro e w' ⟨rfl, G', ha⟩
  exact ⟨rfl, ha.below (Nat.le_refl _) fun _ _ => id⟩
end Go.Proofs.YtdnalhjdmlkbmaaDoor.primNames
