/- StackKinds, its arguments opened. -/
import Derived.Test.YtgpimonjdhbdmaaArgs
import Derived.Test.YtgpimonjdhbdmaaStackKindsWalk
import Derived.OpenShut
namespace Go.Proofs.Ytgpimonjdhbdmaa.stackKinds
open Go.RowKit Go.ChangeShapes Go.WideShapes
theorem stackKinds_open {H : Type} {enc : TypeId × Value → H} (W : World) (base : Nat) (v0 : Value) (d0 : DataW H) (p0 : List MemPlace) (h0 : DataW.Trod enc Try.prog W 0 (fun _ => true) true 36 v0 d0 p0) (o0 : Value.okWide Try.prog W .any base 36 v0)
    (v1 : Value) (d1 : DataW H) (p1 : List MemPlace) (h1 : DataW.Trod enc Try.prog W 0 (fun _ => true) true 3 v1 d1 p1) (o1 : Value.okWide Try.prog W .any base 3 v1)
    (v2 : Value) (d2 : DataW H) (p2 : List MemPlace) (h2 : DataW.Trod enc Try.prog W 0 (fun _ => true) true 3 v2 d2 p2) (o2 : Value.okWide Try.prog W .any base 3 v2)
    (v3 : Value) (d3 : DataW H) (p3 : List MemPlace) (h3 : DataW.Trod enc Try.prog W 0 (fun _ => true) true 32 v3 d3 p3) (o3 : Value.okWide Try.prog W .any base 32 v3)
    (hsz : (DataW.weightsEach Try.prog ([36, 3, 3, 32] ++ []) ([d0, d1, d2, d3] ++ [])).all (· ≤ reachBytes) = true) :
    Calls Try.prog 4 #[v0, v1, v2, v3] W fun e w' => e = .returned (.bool true) ∧ Below W.heap.size W w' := by
  obtain ⟨xs, hx⟩ := opens_arg hsz (j := 0) opens36 h0 rfl rfl
  obtain ⟨kind, rfl, _, wk⟩ := open_int Try.underlying3 o1 h1
  obtain ⟨q, rfl, _, wq⟩ := open_int Try.underlying3 o2 h2
  obtain ⟨x, rfl, _, _⟩ := open_int Try.underlying32 o3 h3
  obtain ⟨a, n, c, rfl⟩ := okWide_slice Try.underlying36 o0
  obtain ⟨a', c', e1, hc1, hc2, hr1⟩ := kR hx
  rw [slice_of e1]
  have bq := bounds_i64 wq.2
  exact stackKinds_walk a' xs.length c' xs kind q x W rfl hr1 hc1 (by omega) (by omega) (by omega)
end Go.Proofs.Ytgpimonjdhbdmaa.stackKinds
