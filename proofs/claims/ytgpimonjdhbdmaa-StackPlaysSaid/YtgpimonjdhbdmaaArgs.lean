/- The arguments of the statements on stacks, as lists. -/
import Derived.Test.YtgpimonjdhbdmaaOpens
import Derived.Test.YtgpimonjdhbdmaaPU
namespace Go.Proofs.Ytgpimonjdhbdmaa
open Go.RowKit Go.ChangeShapes Go.WideShapes

theorem Try.cells32 : Try.prog.cellsOf 32 = 1 := by kernel_rfl
theorem Try.bytes32 : Try.prog.bytesOf 32 = 2 := by kernel_rfl
theorem Try.cells43 : Try.prog.cellsOf 43 = 2 := by kernel_rfl
theorem Try.bytes43 : Try.prog.bytesOf 43 = 16 := by kernel_rfl
theorem Try.cells3 : Try.prog.cellsOf 3 = 1 := by kernel_rfl

theorem opens22 : Opens Try.prog 22 (kSlice 1 2 (kInt .u16)) := opens_slice Try.underlying22 Try.cells32 (by omega) Try.bytes32 (opens_int Try.underlying32)
theorem kU {w : World} {l : List Int} {cs : List Value} (h : kSlice 1 2 (kInt .u16) w l cs) : ∃ a c, cs = [.slice a l.length c] ∧ l.length ≤ c ∧ c ≤ 70368744175616 ∧ Reads w a (cellsU l) := by
  obtain ⟨a, c, rfl, h1, h2, h3⟩ := h
  refine ⟨a, c, rfl, h1, by omega, ?_⟩
  rcases h3 with rfl | ⟨b, o, rfl, h3⟩
  · exact .inl rfl
  · refine .inr ⟨b, o, rfl, fun j u hu => ?_⟩
    simp only [cellsU, List.getElem?_map, Option.map_eq_some_iff] at hu
    obtain ⟨x, hx, rfl⟩ := hu
    obtain ⟨cs', ⟨rfl, _⟩, _, hc⟩ := h3 j x hx
    have := hc 0 _ rfl
    simpa using this
/-- The cells of an api.Cell. -/
def kCell : World → Int × Int → List Value → Prop := fun _ c cs => cs = [.int .i64 c.1, .int .u16 c.2]
theorem opens43 : Opens Try.prog 43 kCell := by
  intro H enc w fuel cs x h hr
  obtain ⟨a, h1, h2, h3⟩ := opens_struct2 Try.underlying43 (opens_int Try.underlying3) (opens_int Try.underlying32) enc w fuel cs x h hr
  rw [Try.cells43] at h1
  rw [Try.cells3] at h2
  rw [Try.cells32] at h3
  match cs, h1 with
  | [c0, c1], _ =>
    have e0 := h2.1
    have e1 := h3.1
    simp at e0 e1
    exact ⟨a, by rw [e0, e1]; rfl⟩
theorem opens36 : Opens Try.prog 36 (kSlice 2 16 kCell) := opens_slice Try.underlying36 Try.cells43 (by omega) Try.bytes43 opens43
theorem cellsR_get (l : List (Int × Int)) : ∀ (j : Nat) (u : Value), (cellsR l)[j]? = some u → ∃ (i : Nat) (d : Nat) (c : Int × Int), j = i * 2 + d ∧ l[i]? = some c ∧ [Value.int .i64 c.1, .int .u16 c.2][d]? = some u := by
  induction l with
  | nil => intro j u h; simp [cellsR] at h
  | cons c l ih =>
    intro j u h
    simp only [cellsR, List.flatMap_cons] at h ih
    match j with
    | 0 => exact ⟨0, 0, c, rfl, rfl, h⟩
    | 1 => exact ⟨0, 1, c, rfl, rfl, h⟩
    | j + 2 =>
      obtain ⟨i, d, c', h1, h2, h3⟩ := ih j u h
      exact ⟨i + 1, d, c', by omega, h2, h3⟩
theorem kR {w : World} {l : List (Int × Int)} {cs : List Value} (h : kSlice 2 16 kCell w l cs) : ∃ a c, cs = [.slice a l.length c] ∧ l.length ≤ c ∧ c ≤ 8796093021952 ∧ Reads w a (cellsR l) := by
  obtain ⟨a, c, rfl, h1, h2, h3⟩ := h
  refine ⟨a, c, rfl, h1, by omega, ?_⟩
  rcases h3 with rfl | ⟨b, o, rfl, h3⟩
  · exact .inl rfl
  · refine .inr ⟨b, o, rfl, fun j u hu => ?_⟩
    obtain ⟨i, d, x, rfl, hx, hd⟩ := cellsR_get l j u hu
    obtain ⟨cs', rfl, _, hc⟩ := h3 i x hx
    have := hc d _ hd
    rwa [← Nat.add_assoc]
theorem slice_of {a a' : Option Addr} {n n' c c' : Nat} (h : (Value.slice a n c).cells.toList = [.slice a' n' c']) : Value.slice a n c = .slice a' n' c' := by simpa [Value.cells] using h
end Go.Proofs.Ytgpimonjdhbdmaa
