/- StackPlays, its arguments opened. -/
import Derived.Test.YtgpimonjdhbdmaaArgs
import Derived.Test.YtgpimonjdhbdmaaStackPlaysWalk
import Derived.OpenShut
namespace Go.Proofs.Ytgpimonjdhbdmaa.stackPlays
open Go.RowKit Go.ChangeShapes Go.WideShapes
theorem cells71 : Try.prog.cellsOf 71 = 5 := by kernel_rfl
theorem bytes71 : Try.prog.bytesOf 71 = 72 := by kernel_rfl
theorem cells22 : Try.prog.cellsOf 22 = 1 := by kernel_rfl
theorem cells36 : Try.prog.cellsOf 36 = 1 := by kernel_rfl
/-- The cells of an Op. -/
def kOp : World → Int × Int × Int × List Int × List (Int × Int) → List Value → Prop := fun w x cs => ∃ la lc ma mc, cs = [.int .i64 x.1, .int .i64 x.2.1, .int .i64 x.2.2.1, .slice la x.2.2.2.1.length lc, .slice ma x.2.2.2.2.length mc] ∧
  x.2.2.2.1.length ≤ lc ∧ lc ≤ 70368744175616 ∧ x.2.2.2.2.length ≤ mc ∧ mc ≤ 8796093021952 ∧ Reads w la (cellsU x.2.2.2.1) ∧ Reads w ma (cellsR x.2.2.2.2) ∧ x.2.1 ≤ 9223372036854775807 ∧ x.2.2.1 ≤ 9223372036854775807
theorem opens71 : Opens Try.prog 71 kOp := by
  intro H enc w fuel cs x h hr
  obtain ⟨a, h1, h2, h3, h4, h5, h6⟩ := opens_struct5 Try.underlying71 (opens_int Try.underlying3) (opens_int Try.underlying3) (opens_int Try.underlying3) opens22 opens36 enc w fuel cs x h hr
  rw [cells71] at h1
  dsimp only at h2 h3 h4 h5 h6
  rw [Try.cells3] at h2 h3 h4
  rw [cells22] at h5
  rw [cells36] at h6
  match cs, h1 with
  | [c0, c1, c2, c3, c4], _ =>
    have e0 := h2.1
    have e1 := h3.1
    have e2 := h4.1
    obtain ⟨la, lc, e3, l1, l2, l3⟩ := kU h5
    obtain ⟨ma, mc, e4, m1, m2, m3⟩ := kR h6
    simp at e0 e1 e2 e3 e4
    have w1 := bounds_i64 h3.2
    have w2 := bounds_i64 h4.2
    exact ⟨a, la, lc, ma, mc, by rw [e0, e1, e2, e3, e4], l1, l2, m1, m2, l3, m3, by omega, by omega⟩
theorem opens53 : Opens Try.prog 53 (kSlice 5 72 kOp) := opens_slice Try.underlying53 cells71 (by omega) bytes71 opens71
theorem stackPlays_open {H : Type} {enc : TypeId × Value → H} (W : World) (base : Nat) (v0 : Value) (d0 : DataW H) (p0 : List MemPlace) (h0 : DataW.Trod enc Try.prog W 0 (fun _ => true) true 53 v0 d0 p0) (o0 : Value.okWide Try.prog W .any base 53 v0)
    (hsz : (DataW.weightsEach Try.prog ([53] ++ []) ([d0] ++ [])).all (· ≤ reachBytes) = true) :
    Calls Try.prog 6 #[v0] W fun e w' => e = .returned (.bool true) ∧ Below W.heap.size W w' := by
  obtain ⟨ops, hx⟩ := opens_arg hsz (j := 0) opens53 h0 rfl rfl
  obtain ⟨a, n, c, rfl⟩ := okWide_slice Try.underlying53 o0
  obtain ⟨a', c', e1, hc1, hc2, hr⟩ := hx
  rw [slice_of e1]
  refine stackPlays_walk a' ops.length c' W fun i hi => ?_
  rcases hr with h | ⟨b, o, rfl, h⟩
  · rw [h] at hi; simp at hi
  · obtain ⟨cs', ⟨la, lc, ma, mc, rfl, k1, k2, k3, k4, k5, k6, k7, k8⟩, _, hc⟩ := h i ops[i] (by simp)
    exact ⟨b, o, _, _, _, la, lc, _, ma, mc, _, rfl, hc 0 _ rfl, hc 1 _ rfl, hc 2 _ rfl, hc 3 _ rfl, hc 4 _ rfl, k1, k2, k3, k4, k5, k6, k7, k8⟩
end Go.Proofs.Ytgpimonjdhbdmaa.stackPlays
