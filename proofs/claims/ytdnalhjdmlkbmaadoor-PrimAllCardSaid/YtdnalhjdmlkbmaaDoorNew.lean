/- mem.New. -/
import Derived.Test.YtdnalhjdmlkbmaaDoorPM
import Derived.Outline
import Derived.Deep.QuietTactic
import Derived.BigQuiet
namespace Go.Proofs.YtdnalhjdmlkbmaaDoor
open Go.RowKit

/-- May the banks be? -/
def mayGo : Int → List (Int × List Int) → Bool
  | _, [] => true
  | last, p :: l => decide (last < p.1 ∧ p.1 < 16 ∧ p.2.length ≤ 16384) && mayGo p.1 l
def mayBanks (l : List (Int × List Int)) : Bool := mayGo (-1) l

theorem may_go : ∀ (l : List (Int × List Int)) (last : Int), mayGo last l = true → ∀ (k : Nat) (p : Int × List Int), l[k]? = some p →
    (((l.take k).getLast?.map (·.1)).getD last) < p.1 ∧ last < p.1 ∧ p.1 < 16 ∧ p.2.length ≤ 16384 ∧ ∀ q ∈ l.take k, q.1 < p.1
  | [], _, _, k, p, h => by simp at h
  | a :: l, last, hm, k, p, h => by
    simp only [mayGo, Bool.and_eq_true, decide_eq_true_eq] at hm
    obtain ⟨⟨h1, h2, h3⟩, h4⟩ := hm
    cases k with
    | zero => simp at h; subst h; exact ⟨by simpa using h1, h1, h2, h3, by simp⟩
    | succ k =>
      obtain ⟨g1, g2, g3, g4, g5⟩ := may_go l a.1 h4 k p (by simpa using h)
      refine ⟨?_, by omega, g3, g4, fun q hq => ?_⟩
      · cases ht : l.take k with
        | nil => simpa [ht] using g2
        | cons b m =>
          rw [ht] at g1
          have hz : (b :: m).getLast? = some ((b :: m).getLast (by simp)) := List.getLast?_eq_some_getLast (by simp)
          rw [hz] at g1
          rw [List.take_succ_cons, ht, List.getLast?_cons_cons, hz]
          exact g1
      · rw [List.take_succ_cons, List.mem_cons] at hq
        rcases hq with rfl | hq
        · exact g2
        · exact g5 q hq
def lastN (l : List (Int × List Int)) : Int := ((l.getLast?.map (·.1)).getD (-1))
theorem lastN_snoc (l : List (Int × List Int)) (k : Nat) (p : Int × List Int) (h : l[k]? = some p) : lastN (l.take (k + 1)) = p.1 := by
  rw [List.take_add_one, h]; simp [lastN]

theorem copy_into {P : Program} (w : World) (dT sT elem : TypeId) (g n dc : Nat) (cur : Array Value) (t : TypeId) (xs : List Value) (sa : Option Addr) (m sc : Nat) (hu : P.underlying dT = some (.slice elem)) (hs : (P.info? elem).map (·.size) = some 1)
    (hg : w.heap[g]? = some (.cells cur t (0, 0))) (hl : xs.length = m) (hm : m ≤ n) (hn : n ≤ cur.size) (hr : Reads w sa xs) (h1 : ∀ u ∈ xs, u.oneCell' = true) :
    ∃ w', (∀ ty, (Builtin.copy_ #[dT, sT] ty #[.slice (some ⟨g, 0, none⟩) n dc, .slice sa m sc]).run P w = .ok (goInt m) w') ∧ w'.heap[g]? = some (.cells (xs ++ cur.toList.drop m).toArray t (0, 0)) ∧
      (∀ k, k ≠ g → w'.heap[k]? = w.heap[k]?) ∧ w'.heap.size = w.heap.size ∧ w'.os = w.os ∧ w'.tape = w.tape ∧ w'.output = w.output := by
  rcases hr with rfl | ⟨b, o, rfl, hr⟩
  · obtain rfl : m = 0 := by simpa using hl.symm
    refine ⟨w, fun ty => run_copy_none w dT sT ty elem _ sa n dc 0 sc hu hs (by simp), ?_, fun _ _ => rfl, rfl, rfl, rfl, rfl⟩
    simpa using hg
  · have hmin : xs.length = Nat.min m n := by rw [hl]; exact (Nat.min_eq_left hm).symm
    have hrun := fun ty => run_copy_row (P := P) w dT sT ty elem g 0 n dc ⟨b, o, none⟩ m sc cur t xs hu hs hg hmin (Reads.add hr) (by omega) h1
    have he : (cur.toList.take 0 ++ xs ++ cur.toList.drop (0 + xs.length)).toArray = (xs ++ cur.toList.drop m).toArray := by simp [hl]
    rw [hl] at hrun
    refine ⟨_, hrun, ?_, fun k hk => setRow_other _ _ _ _ hk, ?_, rfl, rfl, rfl⟩
    · rw [setRow_heap _ _ cur _ t (0, 0) hg]; rw [← he, hl]
    · simp [World.setRow]

/-- Another block that was made since has changed. -/
theorem Adv.newBlock {S : Nat → Prop} {w w' w'' : World} {G G' : Nat → Nat} (h : Adv S w G w' G') (b : Nat) (hb : w.heap.size ≤ b) (hk : ∀ k, k ≠ b → w''.heap[k]? = w'.heap[k]?) (hz : w''.heap.size = w'.heap.size) (h1 : w''.os = w'.os) (h2 : w''.tape = w'.tape) (h3 : w''.output = w'.output) : Adv S w G w'' G' :=
  ⟨h1.trans h.os, h2.trans h.tape, h3.trans h.output, by rw [hz]; exact h.size, h.own, fun k hl hs => (hk k (by omega)).trans (h.keep k hl hs)⟩
theorem newM_snoc (l : List (Int × List Int)) (k : Nat) (p : Int × List Int) (h : l[k]? = some p) : (newM (l.take (k + 1))).banks = (newM (l.take k)).banks ++ [(p.1, p.2 ++ List.replicate (16384 - p.2.length) 0)] := by
  simp only [newM]
  rw [List.take_add_one, h]; simp
/-- A bank more. -/
theorem PMx.more {w w1 w2 : World} {G : Nat → Nat} {i D B : Nat} {bs : List Nat} {l : List (Int × List Int)} {k : Nat} {p : Int × List Int} (h : PMx w G i D B bs (.slice none 0 0) (newM (l.take k))) (hp : l[k]? = some p) (b : Nat) (hb1 : b ∉ bs) (hb2 : b ≠ D) (hG : G b = i)
    (hw : ∀ j, j ≠ b → j < w.heap.size → w1.heap[j]? = w.heap[j]?) (hbl : w.heap.size ≤ b) (hc : ∃ C, w1.heap[b]? = some (.cells C 158 (0, 0)) ∧ C.toList = u8s (p.2 ++ List.replicate (16384 - p.2.length) 0))
    (hw2 : ∀ j, j ≠ B → w2.heap[j]? = w1.heap[j]?) (hm : MapI .u8 w2 B (bankL (newM (l.take k)) bs ++ [(p.1, .pointer (some ⟨b, 0, none⟩))])) :
    PMx w2 G i D B (bs ++ [b]) (.slice none 0 0) (newM (l.take (k + 1))) := by
  have hDB : D ≠ B := by
    rintro rfl
    obtain ⟨C, h1, _⟩ := h.head
    obtain ⟨es, clk, h2, _⟩ := h.map
    rw [h1] at h2; cases h2
  have hbB : b ≠ B := by have := h.map.lt; omega
  have e := newM_snoc l k p hp
  refine ⟨?_, h.hown, ?_, h.mown, ?_, ?_, ?_, ?_, ?_, (fun e => by cases e), (fun b hb e => by cases e)⟩
  · obtain ⟨C, h1, h2⟩ := h.head
    exact ⟨C, (hw2 D hDB).trans ((hw D (fun e => hb2 e.symm) h.lt).trans h1), h2⟩
  · have e2 : bankL (newM (l.take (k + 1))) (bs ++ [b]) = bankL (newM (l.take k)) bs ++ [(p.1, .pointer (some ⟨b, 0, none⟩))] := by
      unfold bankL
      rw [e, List.zipWith_append h.blen.symm]; rfl
    rw [e2]; exact hm
  · rw [e, List.length_append, List.length_append, h.blen]; rfl
  · intro j q c hq hc2
    rw [e] at hq
    by_cases hj : j < bs.length
    · rw [List.getElem?_append_left (by rw [← h.blen]; exact hj)] at hq
      rw [List.getElem?_append_left hj] at hc2
      obtain ⟨⟨C, h1, h2⟩, h3⟩ := h.bank j q c hq hc2
      have hcl : c < w.heap.size := (Array.getElem?_eq_some_iff.1 h1).1
      have hcB : c ≠ B := by
        rintro rfl
        obtain ⟨es, clk, h4, _⟩ := h.map
        rw [h1] at h4; cases h4
      exact ⟨⟨C, (hw2 c hcB).trans ((hw c (by omega) hcl).trans h1), h2⟩, h3⟩
    · rw [List.getElem?_append_right (by rw [← h.blen]; omega)] at hq
      rw [List.getElem?_append_right (by omega)] at hc2
      have hj0 : j - bs.length = 0 := by
        rcases Nat.eq_zero_or_pos (j - bs.length) with h0 | h0
        · exact h0
        · rw [List.getElem?_eq_none (by simp; omega)] at hc2; cases hc2
      rw [hj0] at hc2
      rw [← h.blen, hj0] at hq
      simp at hc2 hq
      subst hc2; subst hq
      obtain ⟨C, h1, h2⟩ := hc
      exact ⟨⟨C, (hw2 _ hbB).trans h1, h2⟩, hG⟩
  · exact ⟨World.ownsRow_nil _ _ _ _, fun b e => by cases e⟩
  · rw [List.nodup_append]
    exact ⟨h.nodup, by simp, fun x hx y hy => by simp at hy; subst hy; exact fun e => hb1 (e ▸ hx)⟩
  · rw [List.mem_append]; rintro (hh | hh)
    · exact h.ne hh
    · simp at hh; exact hb2 hh.symm
end Go.Proofs.YtdnalhjdmlkbmaaDoor
