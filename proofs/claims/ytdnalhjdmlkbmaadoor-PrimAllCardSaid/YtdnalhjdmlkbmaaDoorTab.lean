/- The program's tables, and what a world knows of them. -/
import Derived.Test.YtdnalhjdmlkbmaaDoorLib
import Derived.Test.YtdnalhjdmlkbmaaDoorProg
import Derived.Outline
import Derived.StillTailTactics
import Derived.Deep.QuietTactic
import Derived.BigQuiet
namespace Go.Proofs.YtdnalhjdmlkbmaaDoor
open Go.RowKit

/-- The tables as lists: names, cells taken, cells left, cycles. -/
def namesL : List (List UInt8) := [[], [], [], [], [], [], [], [], [], [110, 111, 112], [121, 105, 101, 108, 100], [104, 97, 108, 116], [100, 117, 112], [100, 114, 111, 112], [115, 119, 97, 112], [111, 118, 101, 114], [114, 111, 116], [110, 105, 112], [116, 117, 99, 107], [50, 100, 117, 112], [50, 100, 114, 111, 112], [43], [45], [42], [47], [109, 111, 100], [117, 47], [117, 109, 111, 100], [110, 101, 103, 97, 116, 101], [97, 98, 115], [109, 105, 110], [109, 97, 120], [49, 43], [49, 45], [50, 42], [50, 47], [97, 110, 100], [111, 114], [120, 111, 114], [105, 110, 118, 101, 114, 116], [108, 115, 104, 105, 102, 116], [114, 115, 104, 105, 102, 116], [61], [60, 62], [60], [62], [117, 60], [117, 62], [48, 61], [48, 60], [64], [33], [99, 64], [99, 33], [43, 33], [62, 114], [114, 62], [114, 64], [105], [106], [112, 108, 111, 116], [112, 97, 100], [116, 111, 110, 101], [98, 97, 110, 107]]
def takesL : List Int := [0, 0, 0, 0, 0, 1, 2, 0, 0, 0, 0, 0, 1, 1, 2, 2, 3, 2, 2, 2, 2, 2, 2, 2, 2, 2, 2, 2, 1, 1, 2, 2, 1, 1, 1, 1, 2, 2, 2, 1, 2, 2, 2, 2, 2, 2, 2, 2, 1, 1, 1, 2, 1, 2, 2, 1, 0, 0, 0, 0, 3, 0, 2, 1]
def leavesL : List Int := [0, 0, 1, 1, 0, 0, 0, 0, 0, 0, 0, 0, 2, 0, 2, 3, 3, 1, 3, 4, 0, 1, 1, 1, 1, 1, 1, 1, 1, 1, 1, 1, 1, 1, 1, 1, 1, 1, 1, 1, 1, 1, 1, 1, 1, 1, 1, 1, 1, 1, 1, 0, 1, 0, 0, 0, 1, 1, 1, 1, 0, 1, 0, 0]
def costsL : List Int := [0, 2, 2, 2, 2, 2, 3, 3, 2, 1, 1, 1, 1, 1, 1, 1, 1, 1, 1, 2, 1, 1, 1, 3, 4, 4, 4, 4, 1, 1, 1, 1, 1, 1, 1, 1, 1, 1, 1, 1, 1, 1, 1, 1, 1, 1, 1, 1, 1, 1, 2, 2, 2, 2, 3, 1, 1, 1, 1, 1, 3, 1, 2, 1]
def nameB (k : Nat) : ByteArray := ⟨(namesL.getD k []).toArray⟩
def takesN (k : Nat) : Int := takesL.getD k 0
def leavesN (k : Nat) : Int := leavesL.getD k 0
def costsN (k : Nat) : Int := costsL.getD k 0
theorem takes_le : ∀ k, k < 64 → 0 ≤ takesN k ∧ takesN k ≤ 4 := by decide
theorem leaves_le : ∀ k, k < 64 → 0 ≤ leavesN k ∧ leavesN k ≤ 4 := by decide
theorem costs_le : ∀ k, k < 64 → 0 ≤ costsN k ∧ costsN k ≤ 4 := by decide
def operandB (k : Nat) : Bool := k == 3 || k == 4 || k == 5 || k == 7
/-- A row. -/
def primV (k : Nat) : Value := .agg #[.int .i64 k, .string (nameB k), .int .i64 (takesN k), .int .i64 (leavesN k), .int .i64 (costsN k), .bool (operandB k)]
def primV0 : Value := .agg #[.int .i64 0, .string ⟨#[]⟩, .int .i64 0, .int .i64 0, .int .i64 0, .bool false]

/-- The four tables lie in this world, and they are nobody's. -/
structure Tabs (w : World) (G : Nat → Nat) : Prop where
  names : ∀ k, k < 64 → w.cell? ⟨0, k, none⟩ = some (.string (nameB k))
  takes : ∀ k, k < 64 → w.cell? ⟨1, k, none⟩ = some (.int .u8 (takesN k))
  leaves : ∀ k, k < 64 → w.cell? ⟨2, k, none⟩ = some (.int .u8 (leavesN k))
  costs : ∀ k, k < 64 → w.cell? ⟨3, k, none⟩ = some (.int .u8 (costsN k))
  n0 : G 0 = 0
  n1 : G 1 = 0
  n2 : G 2 = 0
  n3 : G 3 = 0
theorem Tabs.adv {S : Nat → Prop} {w w' : World} {G G' : Nat → Nat} (h : Tabs w G) (ha : Adv S w G w' G') (hs : ¬ S 0) : Tabs w' G' := by
  have o : ∀ b v, w.cell? ⟨b, 0, none⟩ = some v → G b = 0 → G' b = 0 := fun b v hv hg => (ha.own b (World.block_lt_of_cell? w _ hv)).trans hg
  exact ⟨fun k hk => ha.cell_some (h.names k hk) (by rw [h.n0]; exact hs), fun k hk => ha.cell_some (h.takes k hk) (by rw [h.n1]; exact hs), fun k hk => ha.cell_some (h.leaves k hk) (by rw [h.n2]; exact hs),
    fun k hk => ha.cell_some (h.costs k hk) (by rw [h.n3]; exact hs), o _ _ (h.names 0 (by omega)) h.n0, o _ _ (h.takes 0 (by omega)) h.n1, o _ _ (h.leaves 0 (by omega)) h.n2, o _ _ (h.costs 0 (by omega)) h.n3⟩
/-- Owners are named anew. -/
theorem Tabs.relabel {w : World} {G H : Nat → Nat} (h : Tabs w G) (hH : ∀ b, b < w.heap.size → G b = 0 → H b = 0) : Tabs w H :=
  ⟨h.names, h.takes, h.leaves, h.costs, hH _ (World.block_lt_of_cell? w _ (h.names 0 (by omega))) h.n0, hH _ (World.block_lt_of_cell? w _ (h.takes 0 (by omega))) h.n1, hH _ (World.block_lt_of_cell? w _ (h.leaves 0 (by omega))) h.n2, hH _ (World.block_lt_of_cell? w _ (h.costs 0 (by omega))) h.n3⟩

set_option maxRecDepth 100000 in
set_option maxHeartbeats 400000 in
theorem primOf_any (G : Nat → Nat) (k : Nat) (hk : k < 64) (w : World) (ht : Tabs w G) :
    Calls Tryd.prog 48 #[.int .i64 k] w fun e w' => e = .returned (primV k) ∧ ∃ G', Adv (fun _ => False) w G w' G' := by
  have hn := ht.names k hk
  have htk := ht.takes k hk
  have hl := ht.leaves k hk
  have hc := ht.costs k hk
  have z0 := World.block_lt_of_cell? w _ hn
  have z1 := World.block_lt_of_cell? w _ htk
  have z2 := World.block_lt_of_cell? w _ hl
  have z3 := World.block_lt_of_cell? w _ hc
  have b1 := takes_le k hk
  have b2 := leaves_le k hk
  have b3 := costs_le k hk
  clear ht
  have hop : k = 3 ∨ k = 4 ∨ k = 5 ∨ k = 7 ∨ (((k : Int) == 3) = false ∧ ((k : Int) == 4) = false ∧ ((k : Int) == 5) = false ∧ ((k : Int) == 7) = false) := by
    simp only [beq_eq_false_iff_ne, ne_eq]; omega
  go_enter Tryd.func48, Tryd.ntmps48
  rcases hop with rfl | rfl | rfl | rfl | ⟨e3, e4, e5, e7⟩
  all_goals
    go_wp2
    go_region
    go_wp2
  · exact bodyPost_ret (v := primV 3) (by simp [results, Tryd.results48, go_sem, primV, operandB]) rfl ⟨rfl, _, ((Adv.refl _ w G).alloc _ 0).drew⟩
  · exact bodyPost_ret (v := primV 4) (by simp [results, Tryd.results48, go_sem, primV, operandB]) rfl ⟨rfl, _, ((Adv.refl _ w G).alloc _ 0).drew⟩
  · exact bodyPost_ret (v := primV 5) (by simp [results, Tryd.results48, go_sem, primV, operandB]) rfl ⟨rfl, _, ((Adv.refl _ w G).alloc _ 0).drew⟩
  · exact bodyPost_ret (v := primV 7) (by simp [results, Tryd.results48, go_sem, primV, operandB]) rfl ⟨rfl, _, ((Adv.refl _ w G).alloc _ 0).drew⟩
  · have ho : operandB k = false := by
      simp only [beq_eq_false_iff_ne, ne_eq] at e3 e4 e5 e7
      unfold operandB
      simp only [Bool.or_eq_false_iff, beq_eq_false_iff_ne]
      omega
    exact bodyPost_ret (v := primV k) (by simp [results, Tryd.results48, go_sem, primV, ho]) rfl ⟨rfl, _, ((Adv.refl _ w G).alloc _ 0).drew⟩

end Go.Proofs.YtdnalhjdmlkbmaaDoor
