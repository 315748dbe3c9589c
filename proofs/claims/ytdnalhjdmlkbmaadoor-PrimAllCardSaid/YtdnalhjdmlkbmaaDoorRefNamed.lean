/- wispref06.Named, and the row that a name has. -/
import Derived.Test.YtdnalhjdmlkbmaaDoorNamed
import Derived.Test.YtdnalhjdmlkbmaaDoorRow
namespace Go.Proofs.YtdnalhjdmlkbmaaDoor
open Go.RowKit Go.Shelf
attribute [local go_sem] Oper.semAt_some

/-- The row that a name has. -/
def nmd (s : ByteArray) : Option Nat := (upTo 63).find? (hitB s)
def nmdV : Option Nat → Value
  | some k => primV k
  | none => primV0
theorem nmd_hit (s : ByteArray) (pre : List Nat) (k : Nat) (hp : pre ++ [k] <+: upTo 63) (hn : ∀ j ∈ pre, hitB s j = false) (hk : hitB s k = true) : nmd s = some k := by
  obtain ⟨r, hr⟩ := hp
  unfold nmd
  rw [← hr, List.find?_append, List.find?_append, List.find?_eq_none.2 (fun j hj => by simp [hn j hj])]
  simp [hk]
theorem nmd_no (s : ByteArray) (h : ∀ j ∈ upTo 63, hitB s j = false) : nmd s = none := by
  unfold nmd
  exact List.find?_eq_none.2 (fun j hj => by simp [h j hj])
set_option maxRecDepth 100000 in
theorem name_low : ∀ j, j < 9 → nameB j = ⟨#[]⟩ := by decide +kernel
set_option maxRecDepth 100000 in
theorem name_high : ∀ j, j < 64 → 9 ≤ j → (nameB j).toList.isEmpty = false := by decide +kernel
theorem hit_low (s : ByteArray) (j : Nat) (h : j < 9) : hitB s j = false := by
  unfold hitB
  rw [name_low j h]
  cases hs : s.toList with
  | nil => simp
  | cons a b => simp
theorem hit_high (s : ByteArray) (j : Nat) (h : 9 ≤ j) (h2 : j < 64) : hitB s j = ((nameB j).toList == s.toList) := by
  unfold hitB
  cases hq : ((nameB j).toList == s.toList) with
  | false => simp
  | true =>
    have e := eq_of_beq hq
    have := name_high j h2 h
    rw [e] at this
    simp [this]
theorem mem_upTo (j : Nat) : j ∈ upTo 63 ↔ 1 ≤ j ∧ j < 64 := by
  unfold upTo
  simp only [List.mem_map, List.mem_range]
  constructor
  · rintro ⟨a, h, rfl⟩; omega
  · intro h; exact ⟨j - 1, by omega, by omega⟩
theorem nmd_of (s : ByteArray) (k : Nat) (h1 : 9 ≤ k) (h2 : k < 64) (hn : ∀ j, 9 ≤ j → j < k → ((nameB j).toList == s.toList) = false) (hk : ((nameB k).toList == s.toList) = true) : nmd s = some k := by
  have e := upTo_succ (k - 1)
  rw [show k - 1 + 1 = k from by omega] at e
  refine nmd_hit s (upTo (k - 1)) k (by rw [← e]; exact upTo_prefix k 63 (by omega)) ?_ (by rw [hit_high s k h1 h2]; exact hk)
  intro j hj
  have hjk : 1 ≤ j ∧ j < k := by
    unfold upTo at hj
    simp only [List.mem_map, List.mem_range] at hj
    obtain ⟨a, h, rfl⟩ := hj
    omega
  by_cases h9 : j < 9
  · exact hit_low s j h9
  · rw [hit_high s j (by omega) (by omega)]
    exact hn j (by omega) hjk.2
theorem nmd_not (s : ByteArray) (hn : ∀ j, 9 ≤ j → j < 64 → ((nameB j).toList == s.toList) = false) : nmd s = none := nmd_no s fun j hj => by
  have := (mem_upTo j).1 hj
  by_cases h9 : j < 9
  · exact hit_low s j h9
  · rw [hit_high s j (by omega) (by omega)]
    exact hn j (by omega) this.2
/-- prim.Named's answer. -/
theorem named_any (G : Nat → Nat) (s : ByteArray) (w : World) (ht : Tabs w G) : Calls Tryd.prog 16 #[.string s] w fun e w' => e = .returned (.tuple #[nmdV (nmd s), .bool (nmd s).isSome]) ∧ ∃ G', Adv (fun _ => False) w G w' G' := by
  refine (callsIn_wide.1 (named_in s w ⟨ht.names, ht.takes, ht.leaves, ht.costs, rfl, rfl, rfl, rfl⟩)).mono ?_
  rintro e w' ⟨(⟨pre, k, hp, hn, hk, rfl⟩ | ⟨hn, rfl⟩), hb⟩
  · rw [nmd_hit s pre k hp hn hk]
    exact ⟨rfl, _, Adv.ofBelow G hb⟩
  · rw [nmd_no s hn]
    exact ⟨rfl, _, Adv.ofBelow G hb⟩
set_option maxRecDepth 100000 in
set_option maxHeartbeats 1000000 in
theorem refNamed_any (G : Nat → Nat) (s : ByteArray) (w : World) : Calls Tryd.prog 17 #[.string s] w fun e w' => e = .returned (.tuple #[nmdV (nmd s), .bool (nmd s).isSome]) ∧ ∃ G', Adv (fun _ => False) w G w' G' := by
  go_enter Tryd.func17, Tryd.ntmps17
  go_wp2
  go_loopw [4] (fun s4 wr => ∃ j : Nat, 9 ≤ j ∧ j ≤ 64 ∧ s4 = .int .i64 j ∧ (∀ i, 9 ≤ i → i < j → ((nameB i).toList == s.toList) = false) ∧ ∃ G1, Adv (fun _ => False) w G wr G1 ∧ wr.heap[w.heap.size]? = some (.cells primC0 25 (0, 0)) ∧ w.heap.size < wr.heap.size) (fun s4 _ => 64 - (intOf s4).toNat)
  case atStart =>
    exact ⟨9, by omega, by omega, rfl, fun i h1 h2 => absurd h2 (by omega), _, (Adv.refl _ w G).alloc _ 0, heap_alloc_new w _, by simp⟩
  case round =>
    obtain ⟨j, h9, hj, rfl, hno, G1, hA, hc, hz⟩ := hrel
    by_cases hlt : j < 64
    · have HN := Lib.hid hno
      have HA := Lib.hid hA
      have HC := Lib.hid (And.intro hc hz)
      clear hno hA hc hz
      have hj1 : decide ((j : Int) < 64) = true := by simp; omega
      go_wp2_with fail
      refine (refRow_any G1 j (by omega) hlt _).mono ?_
      rintro e w1 ⟨rfl, G2, ha⟩
      have hA1 := HA.out.trans ha
      have hc1 : w1.heap[w.heap.size]? = some (.cells primC0 25 (0, 0)) := (ha.keep w.heap.size HC.out.2 id).trans HC.out.1
      have hz1 : w.heap.size < w1.heap.size := Nat.lt_of_lt_of_le HC.out.2 ha.size
      have HA1 := Lib.hid hA1
      have HC1 := Lib.hid (And.intro hc1 hz1)
      have y0 := block_cell ((heap_past w1 (.cells (primC j) 25) _ hz1).trans hc1) 0 _ rfl
      have y1 := block_cell ((heap_past w1 (.cells (primC j) 25) _ hz1).trans hc1) 1 _ rfl
      have y2 := block_cell ((heap_past w1 (.cells (primC j) 25) _ hz1).trans hc1) 2 _ rfl
      have y3 := block_cell ((heap_past w1 (.cells (primC j) 25) _ hz1).trans hc1) 3 _ rfl
      have y4 := block_cell ((heap_past w1 (.cells (primC j) 25) _ hz1).trans hc1) 4 _ rfl
      have y5 := block_cell ((heap_past w1 (.cells (primC j) 25) _ hz1).trans hc1) 5 _ rfl
      have yf := block_free ((heap_past w1 (.cells (primC j) 25) _ hz1).trans hc1)
      clear hA1 hc1 hz1 ha
      unfold primC at y0 y1 y2 y3 y4 y5 yf
      unfold primV
      cases hq : (nameB j).toList == s.toList with
      | false =>
        have HQ := Lib.hid hq
        go_wp2
        go_roundw
        case rel =>
          refine ⟨j + 1, by omega, by omega, by go_num, ?_, _, HA1.out.alloc _ 0, (heap_past _ _ _ HC1.out.2).trans HC1.out.1, by simp; have := HC1.out.2; omega⟩
          intro i h1 h2
          by_cases e : i = j
          · subst e; exact HQ.out
          · exact HN.out i h1 (by omega)
        case measure => simp [intOf]; omega
      | true =>
        have hm := nmd_of s j h9 hlt HN.out hq
        have HM := Lib.hid hm
        clear hm
        go_wp2
        rw [HM.out]
        exact bodyPost_ret (v := .tuple #[primV j, .bool true]) (by simp [results, Tryd.results17, go_sem, primV, y0, y1, y2, y3, y4, y5]) rfl
          ⟨rfl, _, ((((((HA1.out.alloc _ 0).setNew (Nat.le_refl _) _).setNew (Nat.le_refl _) _).setNew (Nat.le_refl _) _).setNew (Nat.le_refl _) _).setNew (Nat.le_refl _) _).setNew (Nat.le_refl _) _⟩
    · have hj1 : decide ((j : Int) < 64) = false := by simp; omega
      have hj64 : j = 64 := by omega
      have hm := nmd_not s (fun i h1 h2 => hno i h1 (by omega))
      have HM := Lib.hid hm
      have HA := Lib.hid hA
      have HC := Lib.hid (And.intro hc hz)
      have y0 := block_cell hc 0 _ rfl
      have y1 := block_cell hc 1 _ rfl
      have y2 := block_cell hc 2 _ rfl
      have y3 := block_cell hc 3 _ rfl
      have y4 := block_cell hc 4 _ rfl
      have y5 := block_cell hc 5 _ rfl
      have yf := block_free hc
      clear hm hno hA hc hz
      go_wp2
      rw [HM.out]
      exact bodyPost_ret (v := .tuple #[primV0, .bool false]) (by simp [results, Tryd.results17, go_sem, primV0, y0, y1, y2, y3, y4, y5]) rfl
        ⟨rfl, _, (((((HA.out.setNew (Nat.le_refl _) _).setNew (Nat.le_refl _) _).setNew (Nat.le_refl _) _).setNew (Nat.le_refl _) _).setNew (Nat.le_refl _) _).setNew (Nat.le_refl _) _⟩
end Go.Proofs.YtdnalhjdmlkbmaaDoor
