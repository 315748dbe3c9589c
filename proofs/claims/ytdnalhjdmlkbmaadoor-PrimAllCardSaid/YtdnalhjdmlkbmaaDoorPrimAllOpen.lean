/- PrimAll, its argument opened. -/
import Derived.Test.YtdnalhjdmlkbmaaDoorPrimAll
import Derived.Test.YtdnalhjdmlkbmaaDoorLaid
import Derived.OpenShut
namespace Go.Proofs.YtdnalhjdmlkbmaaDoor.primAll
open Go.RowKit Go.ChangeShapes Go.WideShapes
set_option linter.unusedVariables false
set_option maxRecDepth 100000 in
theorem primAll_open {H : Type} {enc : TypeId × Value → H} (W : World) (base : Nat) (v0 : Value) (d0 : DataW H) (p0 : List MemPlace) (h0 : DataW.Trod enc Tryd.prog W 0 (fun _ => true) true 3 v0 d0 p0) (o0 : Value.okWide Tryd.prog W .any base 3 v0)
    (hsz : (DataW.weightsEach Tryd.prog ([3] ++ []) ([d0] ++ [])).all (· ≤ reachBytes) = true) (hL : laidMetH Tryd.prog laid4 W) :
    Calls Tryd.prog 4 #[v0] W fun e w' => e = .returned (.bool true) ∧ Below W.heap.size W w' := by
  obtain ⟨y, rfl, _, _⟩ := open_int Tryd.underlying3 o0 h0
  exact all_law y W (of_laid hL)
end Go.Proofs.YtdnalhjdmlkbmaaDoor.primAll
