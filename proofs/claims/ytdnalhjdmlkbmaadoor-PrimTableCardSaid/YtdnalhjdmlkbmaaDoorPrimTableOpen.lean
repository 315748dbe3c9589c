/- PrimTable, its arguments opened. -/
import Derived.Test.YtdnalhjdmlkbmaaDoorPrimTable
import Derived.Test.YtdnalhjdmlkbmaaDoorLaid
import Derived.OpenShut
import Derived.ChangeMaps5
namespace Go.Proofs.YtdnalhjdmlkbmaaDoor.primTable
open Go.RowKit Go.ChangeShapes Go.WideShapes
set_option linter.unusedVariables false
set_option maxRecDepth 100000 in
theorem primTable_open {H : Type} {enc : TypeId × Value → H} (W : World) (base : Nat) (v0 : Value) (d0 : DataW H) (p0 : List MemPlace) (h0 : DataW.Trod enc Tryd.prog W 0 (fun _ => true) true 3 v0 d0 p0) (o0 : Value.okWide Tryd.prog W .any base 3 v0)
    (v1 : Value) (d1 : DataW H) (p1 : List MemPlace) (h1 : DataW.Trod enc Tryd.prog W 0 (fun _ => true) true 9 v1 d1 p1) (o1 : Value.okWide Tryd.prog W .any base 9 v1)
    (hsz : (DataW.weightsEach Tryd.prog ([3, 9] ++ []) ([d0, d1] ++ [])).all (· ≤ reachBytes) = true) (hL : laidMetH Tryd.prog laid4 W) :
    Calls Tryd.prog 3 #[v0, v1] W fun e w' => e = .returned (.bool true) ∧ Below W.heap.size W w' := by
  obtain ⟨y, rfl, _, _⟩ := open_int Tryd.underlying3 o0 h0
  obtain ⟨s, rfl, _, _⟩ := Go.ChangeMaps.open_string Tryd.underlying9 o1 h1
  refine (table_any (fun _ => 0) y s W (of_laid hL)).mono ?_
  rintro e w' ⟨rfl, G', ha⟩
  exact ⟨rfl, ha.below (Nat.le_refl _) fun _ _ => id⟩
end Go.Proofs.YtdnalhjdmlkbmaaDoor.primTable
