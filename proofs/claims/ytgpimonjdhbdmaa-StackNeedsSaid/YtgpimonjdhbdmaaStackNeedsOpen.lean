/- StackNeeds, its arguments opened. -/
import Derived.Test.YtgpimonjdhbdmaaArgs
import Derived.Test.YtgpimonjdhbdmaaStackNeedsWalk
import Derived.OpenShut
namespace Go.Proofs.Ytgpimonjdhbdmaa.stackNeeds
open Go.RowKit Go.ChangeShapes Go.WideShapes
theorem stackNeeds_open {H : Type} {enc : TypeId × Value → H} (W : World) (base : Nat) (v0 : Value) (d0 : DataW H) (p0 : List MemPlace) (h0 : DataW.Trod enc Try.prog W 0 (fun _ => true) true 22 v0 d0 p0) (o0 : Value.okWide Try.prog W .any base 22 v0)
    (v1 : Value) (d1 : DataW H) (p1 : List MemPlace) (h1 : DataW.Trod enc Try.prog W 0 (fun _ => true) true 3 v1 d1 p1) (o1 : Value.okWide Try.prog W .any base 3 v1)
    (v2 : Value) (d2 : DataW H) (p2 : List MemPlace) (h2 : DataW.Trod enc Try.prog W 0 (fun _ => true) true 3 v2 d2 p2) (o2 : Value.okWide Try.prog W .any base 3 v2)
    (v3 : Value) (d3 : DataW H) (p3 : List MemPlace) (h3 : DataW.Trod enc Try.prog W 0 (fun _ => true) true 22 v3 d3 p3) (o3 : Value.okWide Try.prog W .any base 22 v3)
    (hsz : (DataW.weightsEach Try.prog ([22, 3, 3, 22] ++ []) ([d0, d1, d2, d3] ++ [])).all (· ≤ reachBytes) = true) :
    Calls Try.prog 3 #[v0, v1, v2, v3] W fun e w' => e = .returned (.bool true) ∧ Below W.heap.size W w' := by
  obtain ⟨xs, hx⟩ := opens_arg hsz (j := 0) opens22 h0 rfl rfl
  obtain ⟨ys, hy⟩ := opens_arg hsz (j := 3) opens22 h3 rfl rfl
  obtain ⟨p, rfl, _, wp⟩ := open_int Try.underlying3 o1 h1
  obtain ⟨q, rfl, _, wq⟩ := open_int Try.underlying3 o2 h2
  obtain ⟨a, n, c, rfl⟩ := okWide_slice Try.underlying22 o0
  obtain ⟨b, m, c2, rfl⟩ := okWide_slice Try.underlying22 o3
  obtain ⟨a', c', e1, hc1, hc2, hr1⟩ := kU hx
  obtain ⟨b', c2', e2, hd1, hd2, hr2⟩ := kU hy
  rw [slice_of e1, slice_of e2]
  have bp := bounds_i64 wp.2
  have bq := bounds_i64 wq.2
  exact stackNeeds_walk a' xs.length c' xs p q b' ys.length c2' ys W rfl hr1 rfl hr2 hc1 (by omega) hd1 (by omega) (by omega) (by omega)
end Go.Proofs.Ytgpimonjdhbdmaa.stackNeeds
