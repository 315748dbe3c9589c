/- Both stacks made anew: what stands between. -/
import Derived.Test.YtgpimonjdhbdmaaMade
namespace Go.Proofs.Ytgpimonjdhbdmaa
open Go.RowKit

theorem mayB_yes {n : Nat} {m : List (Int × Int)} (h : mayB n m = true) : n ≤ 256 ∧ m.length ≤ 128 ∧ ∀ c ∈ m, 1 ≤ c.1 ∧ c.1 ≤ 4 := by
  unfold mayB at h
  simp only [Bool.and_eq_true, List.all_eq_true, decide_eq_true_eq] at h
  exact ⟨h.1.2, h.2, fun c hc => by simpa using h.1.1 c hc⟩
theorem mayB_no {n : Nat} {m : List (Int × Int)} (h : mayB n m = false) : 256 < n ∨ 128 < m.length ∨ ∃ c ∈ m, ¬ (1 ≤ c.1 ∧ c.1 ≤ 4) := by
  by_cases h1 : 256 < n
  · exact .inl h1
  · by_cases h2 : 128 < m.length
    · exact .inr (.inl h2)
    · refine .inr (.inr (Classical.byContradiction fun h3 => ?_))
      have h4 : mayB n m = true := by
        unfold mayB
        simp only [Bool.and_eq_true, List.all_eq_true, decide_eq_true_eq]
        refine ⟨⟨fun c hc => ?_, by omega⟩, by omega⟩
        exact Classical.byContradiction fun h5 => h3 ⟨c, hc, by simpa using h5⟩
      rw [h] at h4; cases h4

/-- What Stacks has answered. -/
def Out (b : Bool) (l : List Int) (m : List (Int × Int)) (s9 s10 s11 : Value) (w : World) (H : Nat → Nat) : Prop :=
  (b = true ∧ ∃ D R, s9 = .pointer (some ⟨D, 0, none⟩) ∧ s10 = .pointer (some ⟨R, 0, none⟩) ∧ s11 = .int .i64 0 ∧ PU w H 1 D l ∧ PR w H 2 R m) ∨
    (b = false ∧ s9 = .pointer none ∧ s10 = .pointer none ∧ s11 = .int .i64 2)
theorem Out.adv {b : Bool} {l : List Int} {m : List (Int × Int)} {s9 s10 s11 : Value} {w w' : World} {H H' : Nat → Nat} {S : Nat → Prop} (h : Out b l m s9 s10 s11 w H) (ha : Adv S w H w' H') (h1 : ¬ S 1) (h2 : ¬ S 2) : Out b l m s9 s10 s11 w' H' :=
  h.imp (fun h => ⟨h.1, h.2.imp fun _ h => h.imp fun _ h => ⟨h.1, h.2.1, h.2.2.1, h.2.2.2.1.adv ha h1, h.2.2.2.2.adv ha h2⟩⟩) id
/-- Behind Stacks: the lists that were handed in are the caller's. -/
def Mid (w : World) (G0 : Nat → Nat) (g n cap g2 k cap2 : Nat) (b : Bool) (l : List Int) (m : List (Int × Int)) (s9 s10 s11 : Value) (wx : World) : Prop :=
  ∃ H, Adv (fun i => 7 ≤ i) w G0 wx H ∧ RowA 32 1 wx H 7 g (n + 2) cap ∧ RowA 43 2 wx H 8 g2 (k + 2) cap2 ∧ Out b l m s9 s10 s11 wx H
theorem Mid.storeU {w : World} {G0 : Nat → Nat} {g n cap g2 k cap2 : Nat} {b : Bool} {l : List Int} {m : List (Int × Int)} {s9 s10 s11 : Value} {wx : World} (h : Mid w G0 g n cap g2 k cap2 b l m s9 s10 s11 wx) (j : Nat) (hj : j < n) (u : Value) :
    Mid w G0 g n cap g2 k cap2 b l m s9 s10 s11 (wx.setCell ⟨g, j, none⟩ u) := by
  obtain ⟨H, ha, h1, h2, h3⟩ := h
  obtain ⟨s1, s2⟩ := h1.store j (by omega) u
  exact ⟨H, ha.trans (s1.mono (fun i (e : i = 7) => by omega)), s2, h2.adv s1 (by omega), h3.adv s1 (by omega) (by omega)⟩
theorem Mid.storeR {w : World} {G0 : Nat → Nat} {g n cap g2 k cap2 : Nat} {b : Bool} {l : List Int} {m : List (Int × Int)} {s9 s10 s11 : Value} {wx : World} (h : Mid w G0 g n cap g2 k cap2 b l m s9 s10 s11 wx) (j : Nat) (hj : j < (k + 2) * 2) (u : Value) :
    Mid w G0 g n cap g2 k cap2 b l m s9 s10 s11 (wx.setCell ⟨g2, j, none⟩ u) := by
  obtain ⟨H, ha, h1, h2, h3⟩ := h
  obtain ⟨s1, s2⟩ := h2.store j hj u
  exact ⟨H, ha.trans (s1.mono (fun i (e : i = 8) => by omega)), h1.adv s1 (by omega), s2, h3.adv s1 (by omega) (by omega)⟩
theorem Mid.atU {w : World} {G0 : Nat → Nat} {g n cap g2 k cap2 : Nat} {b : Bool} {l : List Int} {m : List (Int × Int)} {s9 s10 s11 : Value} {wx : World} (h : Mid w G0 g n cap g2 k cap2 b l m s9 s10 s11 wx) (j : Nat) (hj : j < n) :
    ∃ u, wx.cell? ⟨g, j, none⟩ = some u ∧ wx.frozen? ⟨g, j, none⟩ = false ∧ cap ≤ 9223372036854775807 ∧ n + 2 ≤ cap := by
  obtain ⟨H, ha, h1, h2, h3⟩ := h
  obtain ⟨u, a1, a2, a3, a4, a5, a6⟩ := h1.at j (by omega)
  exact ⟨u, a1, a2, a5, a6⟩
theorem Mid.atR {w : World} {G0 : Nat → Nat} {g n cap g2 k cap2 : Nat} {b : Bool} {l : List Int} {m : List (Int × Int)} {s9 s10 s11 : Value} {wx : World} (h : Mid w G0 g n cap g2 k cap2 b l m s9 s10 s11 wx) (j : Nat) (hj : j < k) :
    ∃ u v, wx.cell? ⟨g2, j * 2, none⟩ = some u ∧ wx.cell? ⟨g2, j * 2 + 1, none⟩ = some v ∧ wx.frozen? ⟨g2, j * 2, none⟩ = false ∧ wx.frozen? ⟨g2, j * 2 + 1, none⟩ = false ∧ cap2 ≤ 9223372036854775807 ∧ k + 2 ≤ cap2 := by
  obtain ⟨H, ha, h1, h2, h3⟩ := h
  obtain ⟨u, a1, a2, a3, a4, a5, a6⟩ := h2.at (j * 2) (by omega)
  obtain ⟨v, b1, b2, b3, b4, b5, b6⟩ := h2.at (j * 2 + 1) (by omega)
  exact ⟨u, v, a1, b1, a2, b2, a5, a6⟩
theorem Pile.box {e T size : Nat} {w : World} {G : Nat → Nat} {i : Nat} {v : Value} {n : Nat} {xs : List Value} (h : Row e size w G i v n xs) : Pile e T size (w.alloc (.cells #[v] T)) (own1 w G i) i w.heap.size v n xs :=
  ⟨heap_alloc_new w _, own1_new _ _ _, (h.alloc (.cells #[v] T) i).row, (h.alloc (.cells #[v] T) i).own, fun e => by have := (h.row.lt _ e).2; omega⟩
theorem PairS.set01 {w : World} {G : Nat → Nat} {P D R E Q D' R' : Nat} {gv gr : Value} (h : PairS w G P D R E Q gv gr) :
    Adv (· = 5) w G ((w.setCell ⟨P, 0, none⟩ (.pointer (some ⟨D', 0, none⟩))).setCell ⟨P, 1, none⟩ (.pointer (some ⟨R', 0, none⟩))) G ∧
      PairS ((w.setCell ⟨P, 0, none⟩ (.pointer (some ⟨D', 0, none⟩))).setCell ⟨P, 1, none⟩ (.pointer (some ⟨R', 0, none⟩))) G P D' R' E Q gv gr := by
  obtain ⟨a1, a2⟩ := h.set 0 (.pointer (some ⟨D', 0, none⟩))
  have h2 : PairS (w.setCell ⟨P, 0, none⟩ (.pointer (some ⟨D', 0, none⟩))) G P D' R E Q gv gr := ⟨by rw [a2]; simp, h.own⟩
  obtain ⟨b1, b2⟩ := h2.set 1 (.pointer (some ⟨R', 0, none⟩))
  exact ⟨a1.trans b1, by rw [b2]; simp, h.own⟩
theorem PairS.set23 {w : World} {G : Nat → Nat} {P D R E Q E' Q' : Nat} {gv gr : Value} (h : PairS w G P D R E Q gv gr) :
    Adv (· = 5) w G ((w.setCell ⟨P, 2, none⟩ (.pointer (some ⟨E', 0, none⟩))).setCell ⟨P, 3, none⟩ (.pointer (some ⟨Q', 0, none⟩))) G ∧
      PairS ((w.setCell ⟨P, 2, none⟩ (.pointer (some ⟨E', 0, none⟩))).setCell ⟨P, 3, none⟩ (.pointer (some ⟨Q', 0, none⟩))) G P D R E' Q' gv gr := by
  obtain ⟨a1, a2⟩ := h.set 2 (.pointer (some ⟨E', 0, none⟩))
  have h2 : PairS (w.setCell ⟨P, 2, none⟩ (.pointer (some ⟨E', 0, none⟩))) G P D R E' Q gv gr := ⟨by rw [a2]; simp, h.own⟩
  obtain ⟨b1, b2⟩ := h2.set 3 (.pointer (some ⟨Q', 0, none⟩))
  exact ⟨a1.trans b1, by rw [b2]; simp, h.own⟩
theorem PairS.set4 {w : World} {G : Nat → Nat} {P D R E Q : Nat} {gv gr : Value} (h : PairS w G P D R E Q gv gr) (u : Value) :
    Adv (· = 5) w G (w.setCell ⟨P, 4, none⟩ u) G ∧ PairS (w.setCell ⟨P, 4, none⟩ u) G P D R E Q u gr := by
  obtain ⟨a1, a2⟩ := h.set 4 u
  exact ⟨a1, by rw [a2]; simp, h.own⟩
theorem PairS.set5 {w : World} {G : Nat → Nat} {P D R E Q : Nat} {gv gr : Value} (h : PairS w G P D R E Q gv gr) (u : Value) :
    Adv (· = 5) w G (w.setCell ⟨P, 5, none⟩ u) G ∧ PairS (w.setCell ⟨P, 5, none⟩ u) G P D R E Q gv u := by
  obtain ⟨a1, a2⟩ := h.set 5 u
  exact ⟨a1, by rw [a2]; simp, h.own⟩
end Go.Proofs.Ytgpimonjdhbdmaa
