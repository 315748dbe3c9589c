/- The pair of the program's stacks and the document's; both made anew. -/
import Derived.Test.YtgpimonjdhbdmaaOwn
import Derived.Deep.LoopGhost
import Derived.Deep.CutBlock
namespace Go.Proofs.Ytgpimonjdhbdmaa
open Go.RowKit

/-- Old blocks keep their owners; the new ones have those of H. -/
def graft (w : World) (G H : Nat → Nat) : Nat → Nat := fun b => if b < w.heap.size then G b else H b
theorem graft_old {w : World} {G H : Nat → Nat} {b : Nat} (h : b < w.heap.size) : graft w G H b = G b := if_pos h
theorem Adv.graft {S T : Nat → Prop} {w w' : World} {G0 H G : Nat → Nat} (h : Adv S w G0 w' H) (hn : ∀ b, b < w.heap.size → ¬ T (G b) → ¬ S (G0 b)) : Adv T w G w' (graft w G H) :=
  ⟨h.os, h.tape, h.output, h.size, fun _ hb => graft_old hb, fun b hb hs => h.keep b hb (hn b hb hs)⟩
theorem graft_is {S : Nat → Prop} {w w' : World} {G0 H G : Nat → Nat} {i : Nat} (h : Adv S w G0 w' H) (h0 : ∀ b, b < w.heap.size → G0 b ≠ i) : ∀ b, b < w'.heap.size → H b = i → graft w G H b = i := by
  intro b _ e
  unfold Ytgpimonjdhbdmaa.graft
  rw [if_neg (fun hb => h0 b hb (by rw [← h.own b hb]; exact e))]; exact e
theorem PU.relabel {w : World} {G H : Nat → Nat} {i D : Nat} {l : List Int} (h : PU w G i D l) (hH : ∀ b, b < w.heap.size → G b = i → H b = i) : PU w H i D l := h.imp fun _ h => h.relabel hH
theorem PR.relabel {w : World} {G H : Nat → Nat} {i D : Nat} {l : List (Int × Int)} (h : PR w G i D l) (hH : ∀ b, b < w.heap.size → G b = i → H b = i) : PR w H i D l := h.imp fun _ h => h.relabel hH
theorem EU.relabel {w : World} {G H : Nat → Nat} {i D : Nat} {l : List Int} (h : EU w G i D l) (hH : ∀ b, b < w.heap.size → G b = i → H b = i) : EU w H i D l := h.imp fun _ h => h.relabel hH
theorem ER.relabel {w : World} {G H : Nat → Nat} {i D : Nat} {l : List (Int × Int)} (h : ER w G i D l) (hH : ∀ b, b < w.heap.size → G b = i → H b = i) : ER w H i D l := h.imp fun _ h => h.relabel hH

/-- The pair's own block. -/
structure PairS (w : World) (G : Nat → Nat) (P D R E Q : Nat) (gv gr : Value) : Prop where
  head : w.heap[P]? = some (.cells #[.pointer (some ⟨D, 0, none⟩), .pointer (some ⟨R, 0, none⟩), .pointer (some ⟨E, 0, none⟩), .pointer (some ⟨Q, 0, none⟩), gv, gr] 68 (0, 0))
  own : G P = 5
theorem PairS.lt {w : World} {G : Nat → Nat} {P D R E Q : Nat} {gv gr : Value} (h : PairS w G P D R E Q gv gr) : P < w.heap.size := (Array.getElem?_eq_some_iff.1 h.head).1
theorem PairS.adv {w w' : World} {G G' : Nat → Nat} {P D R E Q : Nat} {gv gr : Value} {S : Nat → Prop} (h : PairS w G P D R E Q gv gr) (ha : Adv S w G w' G') (hs : ¬ S 5) : PairS w' G' P D R E Q gv gr :=
  ⟨by rw [ha.keep P h.lt (by rw [h.own]; exact hs)]; exact h.head, by rw [ha.own P h.lt]; exact h.own⟩
theorem PairS.cells {w : World} {G : Nat → Nat} {P D R E Q : Nat} {gv gr : Value} (h : PairS w G P D R E Q gv gr) : w.cell? ⟨P, 0, none⟩ = some (.pointer (some ⟨D, 0, none⟩)) ∧ w.cell? ⟨P, 1, none⟩ = some (.pointer (some ⟨R, 0, none⟩)) ∧
    w.cell? ⟨P, 2, none⟩ = some (.pointer (some ⟨E, 0, none⟩)) ∧ w.cell? ⟨P, 3, none⟩ = some (.pointer (some ⟨Q, 0, none⟩)) ∧ w.cell? ⟨P, 4, none⟩ = some gv ∧ w.cell? ⟨P, 5, none⟩ = some gr ∧ ∀ j, w.frozen? ⟨P, j, none⟩ = false := by
  have := h.head
  refine ⟨?_, ?_, ?_, ?_, ?_, ?_, fun j => ?_⟩ <;> simp [World.cell?, World.frozen?, this]
/-- One cell of the pair's block is written. -/
theorem PairS.set {w : World} {G : Nat → Nat} {P D R E Q : Nat} {gv gr : Value} (h : PairS w G P D R E Q gv gr) (j : Nat) (u : Value) :
    Adv (· = 5) w G (w.setCell ⟨P, j, none⟩ u) G ∧ (w.setCell ⟨P, j, none⟩ u).heap[P]? = some (.cells (#[.pointer (some ⟨D, 0, none⟩), .pointer (some ⟨R, 0, none⟩), .pointer (some ⟨E, 0, none⟩), .pointer (some ⟨Q, 0, none⟩), gv, gr].setIfInBounds j u) 68 (0, 0)) := by
  refine ⟨(Adv.refl _ w G).setCell (p := ⟨P, j, none⟩) h.own _, ?_⟩
  simp only [World.setCell, Array.getElem?_modify, h.head]; simp

/-- A row of which only the length is known. -/
def RowA (e size : Nat) (w : World) (G : Nat → Nat) (i g n cap : Nat) : Prop := ∃ xs, Row e size w G i (.slice (some ⟨g, 0, none⟩) n cap) n xs
theorem RowA.adv {e size : Nat} {w w' : World} {G G' : Nat → Nat} {i g n cap : Nat} {S : Nat → Prop} (h : RowA e size w G i g n cap) (ha : Adv S w G w' G') (hs : ¬ S i) : RowA e size w' G' i g n cap := h.imp fun _ h => h.adv ha hs
theorem RowA.at {e size : Nat} {w : World} {G : Nat → Nat} {i g n cap : Nat} (h : RowA e size w G i g n cap) (j : Nat) (hj : j < n * size) : ∃ u, w.cell? ⟨g, j, none⟩ = some u ∧ w.frozen? ⟨g, j, none⟩ = false ∧ g < w.heap.size ∧ G g = i ∧ cap ≤ 9223372036854775807 ∧ n ≤ cap := by
  obtain ⟨xs, h⟩ := h
  have hl := h.nlen
  have hn : 0 < n := by rcases Nat.eq_zero_or_pos n with h0 | h0
                        · rw [h0, Nat.zero_mul] at hj; omega
                        · exact h0
  obtain ⟨_, _, h1, h2⟩ := h.addr hn
  obtain ⟨h3, h4, h5, h6⟩ := h.at hn
  exact ⟨xs[j]'(by omega), h6 j _ (by simp), h5 j, h3, h4, h2, h1⟩
theorem RowA.store {e size : Nat} {w : World} {G : Nat → Nat} {i g n cap : Nat} (h : RowA e size w G i g n cap) (j : Nat) (hj : j < n * size) (u : Value) : Adv (· = i) w G (w.setCell ⟨g, j, none⟩ u) G ∧ RowA e size (w.setCell ⟨g, j, none⟩ u) G i g n cap := by
  obtain ⟨xs, h⟩ := h
  obtain ⟨h1, h2⟩ := h.store j (by rw [h.nlen]; exact hj) u
  exact ⟨h1, _, h2⟩
end Go.Proofs.Ytgpimonjdhbdmaa
