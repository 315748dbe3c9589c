/- prim.All, as a range over a function meets it. -/
import Derived.RangeFuncNested
import Derived.RangeFuncBound
import Derived.RangeFuncCalls
import Derived.RangeFuncLeaves
import Derived.Shelf.Abstract
import Derived.Shelf.RegionOpen
import Derived.WalkKit
import Derived.OwnWalkIn
import Derived.TacticsInMore
import Derived.LoopNIn
import Derived.LoopIn
import Derived.Test.YtdnalhjdmlkbmaaDoorOf
namespace Go.Proofs.YtdnalhjdmlkbmaaDoor
open Go.RowKit Go.Shelf
attribute [local go_sem] Oper.semAt_some

theorem Adv.grown {w w' : World} {G G' : Nat → Nat} (h : Adv (fun _ => False) w G w' G') : w.grownBy w' none := ⟨h.os, h.tape, h.output, h.size, fun k hk _ => h.keep k hk id⟩
theorem Adv.ofBelow {w w' : World} (G : Nat → Nat) (h : Below w.heap.size w w') : Adv (fun _ => False) w G w' (fun b => if b < w.heap.size then G b else 0) :=
  ⟨h.os, h.tape, h.output, h.size, fun _ hb => if_pos hb, fun b hb _ => h.block b hb⟩
def upTo (k : Nat) : List Nat := (List.range k).map (· + 1)
theorem upTo_succ (k : Nat) : upTo (k + 1) = upTo k ++ [k + 1] := by simp [upTo, List.range_succ]
theorem upTo_prefix (j k : Nat) (h : j ≤ k) : upTo j <+: upTo k := by
  unfold upTo
  refine List.IsPrefix.map _ ?_
  rw [List.prefix_iff_eq_take, List.length_range, List.take_range, Nat.min_eq_left h]
theorem upTo_length (k : Nat) : (upTo k).length = k := by simp [upTo]
theorem Tabs.below {n₀ : Nat} {A B : World} (h : Below n₀ A B) (hn : 4 ≤ n₀) (ht : Tabs A (fun _ => 0)) : Tabs B (fun _ => 0) :=
  ⟨fun k hk => (h.cell (p := ⟨_, k, none⟩) (by dsimp only; omega)).trans (ht.names k hk), fun k hk => (h.cell (p := ⟨_, k, none⟩) (by dsimp only; omega)).trans (ht.takes k hk),
    fun k hk => (h.cell (p := ⟨_, k, none⟩) (by dsimp only; omega)).trans (ht.leaves k hk), fun k hk => (h.cell (p := ⟨_, k, none⟩) (by dsimp only; omega)).trans (ht.costs k hk), rfl, rfl, rfl, rfl⟩
set_option maxRecDepth 100000 in
set_option maxHeartbeats 1000000 in
theorem all1_in (n : Nat) (hn : 1 ≤ n) (l n₀ : Nat) (hn₀ : 4 ≤ n₀) (J Jx : List Nat → World → Prop) (W : World) (hJ : AbidesFrom W.heap.size J) (ht : Tabs W (fun _ => 0))
    (hY : ∀ pre x W, J pre W → pre.length < 63 → YieldAt Fence.wide (n - 1) Tryd.prog l #[primV x] W fun e W' =>
      (e = .returned (.bool true) ∧ J (pre ++ [x]) W' ∧ Below n₀ W W') ∨ (e = .returned (.bool false) ∧ Jx (pre ++ [x]) W'))
    (h0 : J [] W) :
    CallsIn Fence.wide n Tryd.prog 50 #[.func (.yield l) #[] #[]] W fun e W' => (∃ v, e = .returned v) ∧
      ((∃ ys, ys = upTo 63 ∧ J ys W') ∨ (∃ pre, pre <+: upTo 63 ∧ Jx pre W')) := by
  have HT := Lib.hid ht
  have HJ := Lib.hid hJ
  have HY := Lib.hid hY
  clear ht hJ hY
  refine callsIn_of_wp Tryd.func50 rfl trivial ?_ rfl
  simp only [Tryd.ntmps50, List.size_toArray, List.length_cons, List.length_nil, Nat.reduceAdd, Nat.reduceSub, Array.replicate_succ, Array.replicate_zero, List.push_toArray, List.append_toArray, List.nil_append, List.cons_append]
  gi_wp2
  gi_loopw [2] (fun v wr => ∃ k : Nat, 1 ≤ k ∧ k ≤ 64 ∧ v = .int .i64 k ∧ J (upTo (k - 1)) wr ∧ Tabs wr (fun _ => 0)) (fun v _ => 64 - (intOf v).toNat)
  case atStart => exact ⟨1, by omega, by omega, rfl, h0, HT.out⟩
  case round =>
    obtain ⟨k, h1, h2, rfl, h3, h4⟩ := hrel
    by_cases hlt : k < 64
    · have H3 := Lib.hid h3
      have H4 := Lib.hid h4
      clear h3 h4
      gi_wp2_with (fail)
      refine ⟨trivial, ?_⟩
      refine (callsIn_wide.2 (primOf_any (fun _ => 0) k hlt _ H4.out)).mono ?_
      rintro e w1 ⟨rfl, G1, ha1⟩
      have hJ1 := HJ.out _ _ _ _ H3.out ha1.grown (fun r e => by cases e)
      have ht1 := H4.out.adv ha1 id
      obtain ⟨fn, tmps, assign, body, hy, hR⟩ := HY.out (upTo (k - 1)) k w1 hJ1 (by rw [upTo_length]; omega)
      have HT1 := Lib.hid (show Tabs w1 (fun _ => 0) from ⟨ht1.names, ht1.takes, ht1.leaves, ht1.costs, rfl, rfl, rfl, rfl⟩)
      clear hJ1 ht1 ha1
      gi_wp2
      refine hR.mono ?_
      rintro e W3 (⟨rfl, hJ3, hk3⟩ | ⟨rfl, hJx3⟩)
      · have HF := Lib.hid (And.intro hJ3 (Tabs.below hk3 hn₀ HT1.out))
        clear hJ3 hk3
        gi_wp2
        go_roundw
        case rel =>
          refine ⟨k + 1, by omega, by omega, by go_num, ?_, HF.out.2⟩
          rw [Nat.add_sub_cancel, show k = k - 1 + 1 from by omega, upTo_succ]
          have := HF.out.1
          rwa [show k - 1 + 1 = k from by omega]
        case measure => simp [intOf]; omega
      · gi_wp2
        refine bodyPost_ret (results_none rfl _ _ _) rfl ?_
        refine ⟨⟨_, rfl⟩, .inr ⟨upTo (k - 1) ++ [k], ?_, hJx3⟩⟩
        have e : upTo (k - 1) ++ [k] = upTo k := by
          have := upTo_succ (k - 1)
          rw [show k - 1 + 1 = k from by omega] at this
          exact this.symm
        rw [e]
        exact upTo_prefix k 63 (by omega)
    · have hk : k = 64 := by omega
      have HF := Lib.hid (And.intro h3 hk)
      clear h3 h4 hk
      gi_wp2
      go_end0
      refine ⟨⟨_, rfl⟩, .inl ⟨upTo 63, rfl, ?_⟩⟩
      have := HF.out.1
      rwa [HF.out.2] at this
theorem all_any (w : World) : Calls Tryd.prog 18 #[] w fun e w' => e = .returned (.func (.func 50) #[] #[]) ∧ w = w' := by
  go_enter Tryd.func18, Tryd.ntmps18
  go_wp2
  go_ret
  exact ⟨rfl, rfl⟩
theorem all_stops (n : Nat) (hn : 1 ≤ n) (n₀ : Nat) (hn₀ : 4 ≤ n₀) (w : World) (ht : Tabs w (fun _ => 0)) :
    SeqStopsK Fence.wide n Tryd.prog 50 #[] (fun x : Nat => #[primV x]) (Below n₀) (fun ys => ys = upTo 63) (fun pre => pre <+: upTo 63) 63 w := fun l J Jx W hW hJ _ hY h0 =>
  all1_in n hn l n₀ hn₀ J Jx W hJ (Tabs.below (n₀ := w.heap.size) hW (by have := World.block_lt_of_cell? w _ (ht.names 0 (by omega)); have := World.block_lt_of_cell? w _ (ht.takes 0 (by omega)); have := World.block_lt_of_cell? w _ (ht.leaves 0 (by omega)); have := World.block_lt_of_cell? w _ (ht.costs 0 (by omega)); simp at *; omega) ht) hY h0
end Go.Proofs.YtdnalhjdmlkbmaaDoor
