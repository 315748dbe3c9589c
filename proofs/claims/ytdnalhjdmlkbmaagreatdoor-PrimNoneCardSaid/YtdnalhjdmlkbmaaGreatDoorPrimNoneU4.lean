/- prim.All, as a range over a function meets it; prim.Named; The primitive of a name; wisplaw06.same, named; The statements' own closed check: it answers true; What the primitives' functions do on a desk; What does hands back at the numbers of num; Do, where it says no; What Do comes to: its fault, or the stacks and the memory behind it; Do, of every plain primitive, on whatever stacks and memory. -/
import Derived.RangeFuncNested
import Derived.RangeFuncBound
import Derived.RangeFuncCalls
import Derived.RangeFuncLeaves
import Derived.Shelf.Abstract
import Derived.Shelf.RegionOpen
import Derived.WalkKit
import Derived.OwnWalkIn
import Derived.TacticsInMore
import Derived.LoopNIn
import Derived.LoopIn
import Derived.Laws.StructEq
import Derived.Deep.RegionHeld3
import Derived.Deep.DeepCutAuto
import Derived.Test.YtdnalhjdmlkbmaaGreatDoorPrimNoneU1
import Derived.Test.YtdnalhjdmlkbmaaGreatDoorPrimNoneU2
import Derived.Test.YtdnalhjdmlkbmaaGreatDoorPrimNoneU3
set_option linter.unusedVariables false
set_option linter.unusedSimpArgs false
set_option linter.unnecessarySimpa false
namespace Go.Proofs.YtdnalhjdmlkbmaaGreatDoor
open Go.RowKit Go.Shelf
attribute [local go_sem] Oper.semAt_some

theorem Adv.grown {w w' : World} {G G' : Nat → Nat} (h : Adv (fun _ => False) w G w' G') : w.grownBy w' none := ⟨h.os, h.tape, h.output, h.size, fun k hk _ => h.keep k hk id⟩
theorem Adv.ofBelow {w w' : World} (G : Nat → Nat) (h : Below w.heap.size w w') : Adv (fun _ => False) w G w' (fun b => if b < w.heap.size then G b else 0) :=
  ⟨h.os, h.tape, h.output, h.size, fun _ hb => if_pos hb, fun b hb _ => h.block b hb⟩
def upTo (k : Nat) : List Nat := (List.range k).map (· + 1)
theorem upTo_succ (k : Nat) : upTo (k + 1) = upTo k ++ [k + 1] := by simp [upTo, List.range_succ]
theorem upTo_prefix (j k : Nat) (h : j ≤ k) : upTo j <+: upTo k := by
  unfold upTo
  refine List.IsPrefix.map _ ?_
  rw [List.prefix_iff_eq_take, List.length_range, List.take_range, Nat.min_eq_left h]
theorem upTo_length (k : Nat) : (upTo k).length = k := by simp [upTo]
theorem Tabs.below {n₀ : Nat} {A B : World} (h : Below n₀ A B) (hn : 4 ≤ n₀) (ht : Tabs A (fun _ => 0)) : Tabs B (fun _ => 0) :=
  ⟨fun k hk => (h.cell (p := ⟨_, k, none⟩) (by dsimp only; omega)).trans (ht.names k hk), fun k hk => (h.cell (p := ⟨_, k, none⟩) (by dsimp only; omega)).trans (ht.takes k hk),
    fun k hk => (h.cell (p := ⟨_, k, none⟩) (by dsimp only; omega)).trans (ht.leaves k hk), fun k hk => (h.cell (p := ⟨_, k, none⟩) (by dsimp only; omega)).trans (ht.costs k hk), rfl, rfl, rfl, rfl⟩
set_option maxRecDepth 100000 in
set_option maxHeartbeats 1000000 in
theorem all1_in (n : Nat) (hn : 1 ≤ n) (l n₀ : Nat) (hn₀ : 4 ≤ n₀) (J Jx : List Nat → World → Prop) (W : World) (hJ : AbidesFrom W.heap.size J) (ht : Tabs W (fun _ => 0))
    (hY : ∀ pre x W, J pre W → pre.length < 63 → YieldAt Fence.wide (n - 1) Tryz.prog l #[primV x] W fun e W' =>
      (e = .returned (.bool true) ∧ J (pre ++ [x]) W' ∧ Below n₀ W W') ∨ (e = .returned (.bool false) ∧ Jx (pre ++ [x]) W'))
    (h0 : J [] W) :
    CallsIn Fence.wide n Tryz.prog 133 #[.func (.yield l) #[] #[]] W fun e W' => (∃ v, e = .returned v) ∧
      ((∃ ys, ys = upTo 63 ∧ J ys W') ∨ (∃ pre, pre <+: upTo 63 ∧ Jx pre W')) := by
  have HT := Lib.hid ht
  have HJ := Lib.hid hJ
  have HY := Lib.hid hY
  clear ht hJ hY
  refine callsIn_of_wp Tryz.func133 rfl trivial ?_ rfl
  simp only [Tryz.ntmps133, List.size_toArray, List.length_cons, List.length_nil, Nat.reduceAdd, Nat.reduceSub, Array.replicate_succ, Array.replicate_zero, List.push_toArray, List.append_toArray, List.nil_append, List.cons_append]
  gi_wp2
  gi_loopw [2] (fun v wr => ∃ k : Nat, 1 ≤ k ∧ k ≤ 64 ∧ v = .int .i64 k ∧ J (upTo (k - 1)) wr ∧ Tabs wr (fun _ => 0)) (fun v _ => 64 - (intOf v).toNat)
  case atStart => exact ⟨1, by omega, by omega, rfl, h0, HT.out⟩
  case round =>
    obtain ⟨k, h1, h2, rfl, h3, h4⟩ := hrel
    by_cases hlt : k < 64
    · have H3 := Lib.hid h3
      have H4 := Lib.hid h4
      clear h3 h4
      gi_wp2_with (fail)
      refine ⟨trivial, ?_⟩
      refine (callsIn_wide.2 (primOf_any (fun _ => 0) k hlt _ H4.out)).mono ?_
      rintro e w1 ⟨rfl, G1, ha1⟩
      have hJ1 := HJ.out _ _ _ _ H3.out ha1.grown (fun r e => by cases e)
      have ht1 := H4.out.adv ha1 id
      obtain ⟨fn, tmps, assign, body, hy, hR⟩ := HY.out (upTo (k - 1)) k w1 hJ1 (by rw [upTo_length]; omega)
      have HT1 := Lib.hid (show Tabs w1 (fun _ => 0) from ⟨ht1.names, ht1.takes, ht1.leaves, ht1.costs, rfl, rfl, rfl, rfl⟩)
      clear hJ1 ht1 ha1
      gi_wp2
      refine hR.mono ?_
      rintro e W3 (⟨rfl, hJ3, hk3⟩ | ⟨rfl, hJx3⟩)
      · have HF := Lib.hid (And.intro hJ3 (Tabs.below hk3 hn₀ HT1.out))
        clear hJ3 hk3
        gi_wp2
        go_roundw
        case rel =>
          refine ⟨k + 1, by omega, by omega, by go_num, ?_, HF.out.2⟩
          rw [Nat.add_sub_cancel, show k = k - 1 + 1 from by omega, upTo_succ]
          have := HF.out.1
          rwa [show k - 1 + 1 = k from by omega]
        case measure => simp [intOf]; omega
      · gi_wp2
        refine bodyPost_ret (results_none rfl _ _ _) rfl ?_
        refine ⟨⟨_, rfl⟩, .inr ⟨upTo (k - 1) ++ [k], ?_, hJx3⟩⟩
        have e : upTo (k - 1) ++ [k] = upTo k := by
          have := upTo_succ (k - 1)
          rw [show k - 1 + 1 = k from by omega] at this
          exact this.symm
        rw [e]
        exact upTo_prefix k 63 (by omega)
    · have hk : k = 64 := by omega
      have HF := Lib.hid (And.intro h3 hk)
      clear h3 h4 hk
      gi_wp2
      go_end0
      refine ⟨⟨_, rfl⟩, .inl ⟨upTo 63, rfl, ?_⟩⟩
      have := HF.out.1
      rwa [HF.out.2] at this
theorem all_any (w : World) : Calls Tryz.prog 94 #[] w fun e w' => e = .returned (.func (.func 133) #[] #[]) ∧ w = w' := by
  go_enter Tryz.func94, Tryz.ntmps94
  go_wp2
  go_ret
  exact ⟨rfl, rfl⟩
theorem all_stops (n : Nat) (hn : 1 ≤ n) (n₀ : Nat) (hn₀ : 4 ≤ n₀) (w : World) (ht : Tabs w (fun _ => 0)) :
    SeqStopsK Fence.wide n Tryz.prog 133 #[] (fun x : Nat => #[primV x]) (Below n₀) (fun ys => ys = upTo 63) (fun pre => pre <+: upTo 63) 63 w := fun l J Jx W hW hJ _ hY h0 =>
  all1_in n hn l n₀ hn₀ J Jx W hJ (Tabs.below (n₀ := w.heap.size) hW (by have := World.block_lt_of_cell? w _ (ht.names 0 (by omega)); have := World.block_lt_of_cell? w _ (ht.takes 0 (by omega)); have := World.block_lt_of_cell? w _ (ht.leaves 0 (by omega)); have := World.block_lt_of_cell? w _ (ht.costs 0 (by omega)); simp at *; omega) ht) hY h0
end Go.Proofs.YtdnalhjdmlkbmaaGreatDoor
namespace Go.Proofs.YtdnalhjdmlkbmaaGreatDoor
open Go.RowKit Go.Shelf
attribute [local go_sem] Oper.semAt_some

/-- Block B holds these cells, all of them. -/
def BoxN (W : World) (B : Nat) (T : TypeId) (C : Array Value) : Prop := W.heap[B]? = some (.cells C T (0, 0))
theorem boxN_own {β : Type} (B : Nat) (T : TypeId) (f : β → Array Value) : Own (fun s W => BoxN W B T (f s)) := fun s X Y row hs hg hrow => by
  have hs' : X.heap[B]? = some (.cells (f s) T (0, 0)) := hs
  exact (hg.block B (Array.getElem?_eq_some_iff.1 hs').1 (fun e => by
    obtain ⟨o, ho, hc⟩ := hrow B e.symm
    rw [hs'] at ho; cases ho; cases hc)).trans hs'
theorem BoxN.new (W : World) (T : TypeId) (C : Array Value) : BoxN (W.alloc (.cells C T)) W.heap.size T C := heap_alloc_new W _
theorem BoxN.alloc {W : World} {B : Nat} {T : TypeId} {C : Array Value} (h : BoxN W B T C) (o : Obj) : BoxN (W.alloc o) B T C :=
  (heap_past W o B (Array.getElem?_eq_some_iff.1 (show W.heap[B]? = _ from h)).1).trans h
theorem BoxN.lt {W : World} {B : Nat} {T : TypeId} {C : Array Value} (h : BoxN W B T C) : B < W.heap.size := (Array.getElem?_eq_some_iff.1 (show W.heap[B]? = _ from h)).1
theorem BoxN.set {W : World} {B : Nat} {T : TypeId} {C : Array Value} (h : BoxN W B T C) (j : Nat) (v : Value) : BoxN (W.setCell ⟨B, j, none⟩ v) B T (C.setIfInBounds j v) := by
  unfold BoxN at h ⊢
  simp only [World.setCell, Array.getElem?_modify, h]; simp
theorem BoxN.other {W : World} {B B' : Nat} {T : TypeId} {C : Array Value} (h : BoxN W B T C) (hne : B ≠ B') (j : Nat) (v : Value) : BoxN (W.setCell ⟨B', j, none⟩ v) B T C :=
  (Below.heap_setCell _ _ _ _ hne).trans h
theorem BoxN.putObj {W : World} {B D : Nat} {T : TypeId} {C : Array Value} (h : BoxN W B T C) (o : Obj) (hne : B ≠ D) : BoxN (W.putObj D o) B T C := (World.putObj_heap_other hne).trans h

/-- The place of a name in the table; 64: it has none. -/
def nameIx (s : ByteArray) : Nat := 9 + (List.range 55).findIdx (fun d => nameB (9 + d) == s)
def primC (k : Nat) : Array Value := #[.int .i64 k, .string (nameB k), .int .i64 (takesN k), .int .i64 (leavesN k), .int .i64 (costsN k), .bool (operandB k)]
def primC0 : Array Value := #[.int .i64 0, .string ⟨#[]⟩, .int .i64 0, .int .i64 0, .int .i64 0, .bool false]
/-- Is this row the one that is asked for? -/
def hitB (s : ByteArray) (k : Nat) : Bool := !s.toList.isEmpty && ((nameB k).toList == s.toList)
set_option maxRecDepth 100000 in
set_option maxHeartbeats 1000000 in
theorem named_in (s : ByteArray) (w : World) (ht : Tabs w (fun _ => 0)) :
    CallsIn Fence.wide 6 Tryz.prog 46 #[.string s] w fun e w' =>
      ((∃ pre k, pre ++ [k] <+: upTo 63 ∧ (∀ j ∈ pre, hitB s j = false) ∧ hitB s k = true ∧ e = .returned (.tuple #[primV k, .bool true])) ∨ ((∀ j ∈ upTo 63, hitB s j = false) ∧ e = .returned (.tuple #[primV0, .bool false]))) ∧ Below w.heap.size w w' := by
  refine callsIn_of_wp_marks Tryz.func46 rfl trivial ?_ rfl
  simp only [Tryz.ntmps46, List.size_toArray, List.length_cons, List.length_nil, Nat.reduceAdd, Nat.reduceSub, Array.replicate_succ, Array.replicate_zero, List.push_toArray, List.append_toArray, List.nil_append, List.cons_append]
  gi_wp2_with (fail)
  refine ⟨trivial, ?_⟩
  refine (callsIn_wide.2 (all_any _)).mono ?_
  rintro e w' ⟨rfl, rfl⟩
  gi_wp2_with (fail)
  have b1 := ((BoxN.new w 9 #[.string s]).alloc (.cells primC0 85)).alloc (.cells #[.bool false] 4)
  have b2 := (BoxN.new (w.alloc (.cells #[.string s] 9)) 85 primC0).alloc (.cells #[.bool false] 4)
  have b3 := BoxN.new ((w.alloc (.cells #[.string s] 9)).alloc (.cells primC0 85)) 4 #[.bool false]
  simp only [World.size_alloc] at b2 b3
  have hB0 : Below w.heap.size w (((w.alloc (.cells #[.string s] 9)).alloc (.cells primC0 85)).alloc (.cells #[.bool false] 4)) := (((Below.refl _ w).alloc (Nat.le_refl _) _).alloc (by simp) _).alloc (by simp; omega) _
  have h4 : 4 ≤ w.heap.size := by
    have := World.block_lt_of_cell? w _ (ht.names 0 (by omega)); have := World.block_lt_of_cell? w _ (ht.takes 0 (by omega)); have := World.block_lt_of_cell? w _ (ht.leaves 0 (by omega)); have := World.block_lt_of_cell? w _ (ht.costs 0 (by omega)); simp at *; omega
  have hsz : (((w.alloc (.cells #[.string s] 9)).alloc (.cells primC0 85)).alloc (.cells #[.bool false] 4)).heap.size = w.heap.size + 3 := by simp
  have hT0 := Tabs.below hB0 h4 ht
  change Code.wpIn _ _ _ _ _ _ (((w.alloc (.cells #[.string s] 9)).alloc (.cells primC0 85)).alloc (.cells #[.bool false] 4))
  obtain ⟨W0, hW0⟩ : ∃ W0, ((w.alloc (.cells #[.string s] 9)).alloc (.cells primC0 85)).alloc (.cells #[.bool false] 4) = W0 := ⟨_, rfl⟩
  rw [hW0] at b1 b2 b3 hB0 hsz hT0 ⊢
  clear hW0
  refine wpIn_rangeFunc_ownH rfl (by omega) (gf := 133) (lb := #[]) rfl trivial (enters_of Tryz.func133 (by kernel_rfl) rfl)
    (all_stops 5 (by omega) w.heap.size h4 W0 hT0) belowK_t (belowK_b (by omega)) (Below.refl _ _) (fun _ => rfl)
    (fun pre W => ((((∀ j ∈ pre, hitB s j = false) ∧ BoxN W w.heap.size 9 #[.string s]) ∧ BoxN W (w.heap.size + 1) 85 primC0) ∧ BoxN W (w.heap.size + 1 + 1) 4 #[.bool false]) ∧ Below w.heap.size w W)
    (fun c pre W => (((c = .ret ∧ ∃ pre' k, pre = pre' ++ [k] ∧ (∀ j ∈ pre', hitB s j = false) ∧ hitB s k = true) ∧ BoxN W (w.heap.size + 1) 85 (primC (pre.getLast?.getD 0))) ∧ BoxN W (w.heap.size + 1 + 1) 4 #[.bool true]) ∧ Below w.heap.size w W)
    (OwnFrom.and (OwnFrom.and (OwnFrom.and (OwnFrom.and (ownFrom_pure _ _) (Own.from (boxN_own _ _ _) _)) (Own.from (boxN_own _ _ _) _)) (Own.from (boxN_own _ _ _) _)) (ownFrom_below (Nat.le_refl _) (by omega)))
    (fun c => OwnFrom.and (OwnFrom.and (OwnFrom.and (ownFrom_pure _ _) (Own.from (boxN_own _ _ _) _)) (Own.from (boxN_own _ _ _) _)) (ownFrom_below (Nat.le_refl _) (by omega)))
    ⟨⟨⟨⟨by simp, b1⟩, b2⟩, b3⟩, hB0⟩
    (fun x a' W => ∃ Bx, w.heap.size + 2 < Bx ∧ BoxN W Bx 85 (primC x) ∧ a' = { tmps := #[.string s, .pointer (some ⟨w.heap.size, 0, none⟩), .pointer (some ⟨w.heap.size + 1, 0, none⟩), .pointer (some ⟨w.heap.size + 1 + 1, 0, none⟩), .pointer (some ⟨Bx, 0, none⟩), .func (.func 133) #[] #[], primV x, undef, undef, undef, undef, undef, undef, undef, undef, undef, undef], defers := [] })
    (fun x a' _ X Y row hs hg hr => by obtain ⟨Bx, e1, e2, e3⟩ := hs; exact ⟨Bx, e1, boxN_own Bx 85 (fun (_ : Unit) => primC x) () X Y row e2 hg (fun r e => (hr r e).2), e3⟩)
    ?assign ?body ?done ?stop
  case assign =>
    rintro l pre x W K ⟨⟨⟨⟨hp, c1⟩, c2⟩, c3⟩, hB1⟩ hK
    have hz3 := c3.lt
    unfold primV at hK ⊢
    gi_wp2
    exact hK _ _ ((KeepsOthers.alloc _ _).from _) ((Below.refl _ W).alloc hB1.size _) ⟨⟨⟨⟨hp, c1.alloc _⟩, c2.alloc _⟩, c3.alloc _⟩, hB1.alloc hB1.size _⟩ ⟨W.heap.size, by omega, BoxN.new W _ _, rfl⟩
  case body =>
    rintro l pre x a' W hl ⟨r, hr⟩ ⟨⟨⟨⟨hp, c1⟩, c2⟩, c3⟩, hB1⟩ ⟨Bx, hBx, bX, rfl⟩ hlt
    have d1 : W.cell? ⟨w.heap.size, 0, none⟩ = some (.string s) := block_cell c1 0 _ rfl
    have x0 : W.cell? ⟨Bx, 0, none⟩ = some (.int .i64 x) := block_cell bX 0 _ rfl
    have x1 : W.cell? ⟨Bx, 1, none⟩ = some (.string (nameB x)) := block_cell bX 1 _ rfl
    have x2 : W.cell? ⟨Bx, 2, none⟩ = some (.int .i64 (takesN x)) := block_cell bX 2 _ rfl
    have x3 : W.cell? ⟨Bx, 3, none⟩ = some (.int .i64 (leavesN x)) := block_cell bX 3 _ rfl
    have x4 : W.cell? ⟨Bx, 4, none⟩ = some (.int .i64 (costsN x)) := block_cell bX 4 _ rfl
    have x5 : W.cell? ⟨Bx, 5, none⟩ = some (.bool (operandB x)) := block_cell bX 5 _ rfl
    have y0 : W.cell? ⟨w.heap.size + 1, 0, none⟩ = some (.int .i64 0) := block_cell c2 0 _ rfl
    have y1 : W.cell? ⟨w.heap.size + 1, 1, none⟩ = some (.string ⟨#[]⟩) := block_cell c2 1 _ rfl
    have y2 : W.cell? ⟨w.heap.size + 1, 2, none⟩ = some (.int .i64 0) := block_cell c2 2 _ rfl
    have y3 : W.cell? ⟨w.heap.size + 1, 3, none⟩ = some (.int .i64 0) := block_cell c2 3 _ rfl
    have y4 : W.cell? ⟨w.heap.size + 1, 4, none⟩ = some (.int .i64 0) := block_cell c2 4 _ rfl
    have y5 : W.cell? ⟨w.heap.size + 1, 5, none⟩ = some (.bool false) := block_cell c2 5 _ rfl
    have z0 : W.cell? ⟨w.heap.size + 1 + 1, 0, none⟩ = some (.bool false) := block_cell c3 0 _ rfl
    have fy := block_free c2
    have fz := block_free c3
    have HC := Lib.hid (And.intro hp (And.intro c1 (And.intro c2 (And.intro c3 (And.intro hB1 bX)))))
    clear hp c1 c2 c3 hB1 bX hr hl hlt
    unfold primV
    have hno : hitB s x = false → ∀ j ∈ pre ++ [x], hitB s j = false := fun h j hj => (List.mem_append.1 hj).elim (HC.out.1 j) (fun e => by simp at e; subst e; exact h)
    have HNO := Lib.hid hno
    clear hno
    cases he : s.toList.isEmpty with
    | true =>
      have HH := Lib.hid (show hitB s x = false by unfold hitB; rw [he]; rfl)
      gi_wp2
      exact ⟨KeepsFrom.refl _ _, Below.refl _ _, ⟨⟨⟨⟨HNO.out HH.out, HC.out.2.1⟩, HC.out.2.2.1⟩, HC.out.2.2.2.1⟩, HC.out.2.2.2.2.1⟩⟩
    | false =>
      cases hq : (nameB x).toList == s.toList with
      | false =>
        have HH := Lib.hid (show hitB s x = false by unfold hitB; rw [he, hq]; rfl)
        gi_wp2
        exact ⟨KeepsFrom.refl _ _, Below.refl _ _, ⟨⟨⟨⟨HNO.out HH.out, HC.out.2.1⟩, HC.out.2.2.1⟩, HC.out.2.2.2.1⟩, HC.out.2.2.2.2.1⟩⟩
      | true =>
        have HH := Lib.hid (show hitB s x = true by unfold hitB; rw [he, hq]; rfl)
        gi_wp2
        have e : (pre ++ [x]).getLast?.getD 0 = x := by simp
        have b2 := ((((((HC.out.2.2.1.set 0 (.int .i64 x)).set 1 (.string (nameB x))).set 2 (.int .i64 (takesN x))).set 3 (.int .i64 (leavesN x))).set 4 (.int .i64 (costsN x))).set 5 (.bool (operandB x))).other (B' := w.heap.size + 1 + 1) (by omega) 0 (.bool true)
        have b3 := ((((((HC.out.2.2.2.1.other (B' := w.heap.size + 1) (by omega) 0 (.int .i64 x)).other (B' := w.heap.size + 1) (by omega) 1 (.string (nameB x))).other (B' := w.heap.size + 1) (by omega) 2 (.int .i64 (takesN x))).other (B' := w.heap.size + 1) (by omega) 3 (.int .i64 (leavesN x))).other (B' := w.heap.size + 1) (by omega) 4 (.int .i64 (costsN x))).other (B' := w.heap.size + 1) (by omega) 5 (.bool (operandB x))).set 0 (.bool true)
        have b4 := ((((((HC.out.2.2.2.2.1.setCell (p := ⟨w.heap.size + 1, 0, none⟩) (by simp) (.int .i64 x)).setCell (p := ⟨w.heap.size + 1, 1, none⟩) (by simp) (.string (nameB x))).setCell (p := ⟨w.heap.size + 1, 2, none⟩) (by simp) (.int .i64 (takesN x))).setCell (p := ⟨w.heap.size + 1, 3, none⟩) (by simp) (.int .i64 (leavesN x))).setCell (p := ⟨w.heap.size + 1, 4, none⟩) (by simp) (.int .i64 (costsN x))).setCell (p := ⟨w.heap.size + 1, 5, none⟩) (by simp) (.bool (operandB x))).setCell (p := ⟨w.heap.size + 1 + 1, 0, none⟩) (by simp; omega) (.bool true)
        refine ⟨((((((KeepsOthers.setCell _ _ _).trans (KeepsOthers.setCell _ _ _)).trans (KeepsOthers.setCell _ _ _)).trans (KeepsOthers.setCell _ _ _)).trans (KeepsOthers.setCell _ _ _)).trans (KeepsOthers.setCell _ _ _)).trans (KeepsOthers.setCell _ _ _) |>.from _, ⟨⟨⟨⟨rfl, pre, x, rfl, HC.out.1, HH.out⟩, ?_⟩, b3⟩, b4⟩⟩
        rw [e]
        exact b2
  case done =>
    rintro D zs W hD rfl ⟨⟨⟨⟨hp, c1⟩, c2⟩, c3⟩, hB1⟩ hK
    have y0 : W.cell? ⟨w.heap.size + 1, 0, none⟩ = some (.int .i64 0) := block_cell c2 0 _ rfl
    have y1 : W.cell? ⟨w.heap.size + 1, 1, none⟩ = some (.string ⟨#[]⟩) := block_cell c2 1 _ rfl
    have y2 : W.cell? ⟨w.heap.size + 1, 2, none⟩ = some (.int .i64 0) := block_cell c2 2 _ rfl
    have y3 : W.cell? ⟨w.heap.size + 1, 3, none⟩ = some (.int .i64 0) := block_cell c2 3 _ rfl
    have y4 : W.cell? ⟨w.heap.size + 1, 4, none⟩ = some (.int .i64 0) := block_cell c2 4 _ rfl
    have y5 : W.cell? ⟨w.heap.size + 1, 5, none⟩ = some (.bool false) := block_cell c2 5 _ rfl
    have z0 : W.cell? ⟨w.heap.size + 1 + 1, 0, none⟩ = some (.bool false) := block_cell c3 0 _ rfl
    have fy := block_free c2
    have fz := block_free c3
    have HC := Lib.hid (And.intro hp (And.intro c2 (And.intro c3 (And.intro hB1 hK))))
    clear hp c1 c2 c3 hB1 hK
    gi_wp2
    have b2 : BoxN _ (w.heap.size + 1) 85 primC0 := ((((((HC.out.2.1.set 0 (.int .i64 0)).set 1 (.string ⟨#[]⟩)).set 2 (.int .i64 0)).set 3 (.int .i64 0)).set 4 (.int .i64 0)).set 5 (.bool false)).other (B' := w.heap.size + 1 + 1) (by omega) 0 (.bool false)
    have b3 : BoxN _ (w.heap.size + 1 + 1) 4 #[.bool false] := ((((((HC.out.2.2.1.other (B' := w.heap.size + 1) (by omega) 0 (.int .i64 0)).other (B' := w.heap.size + 1) (by omega) 1 (.string ⟨#[]⟩)).other (B' := w.heap.size + 1) (by omega) 2 (.int .i64 0)).other (B' := w.heap.size + 1) (by omega) 3 (.int .i64 0)).other (B' := w.heap.size + 1) (by omega) 4 (.int .i64 0)).other (B' := w.heap.size + 1) (by omega) 5 (.bool false)).set 0 (.bool false)
    have b4 := ((((((HC.out.2.2.2.1.setCell (p := ⟨w.heap.size + 1, 0, none⟩) (by simp) (.int .i64 0)).setCell (p := ⟨w.heap.size + 1, 1, none⟩) (by simp) (.string ⟨#[]⟩)).setCell (p := ⟨w.heap.size + 1, 2, none⟩) (by simp) (.int .i64 0)).setCell (p := ⟨w.heap.size + 1, 3, none⟩) (by simp) (.int .i64 0)).setCell (p := ⟨w.heap.size + 1, 4, none⟩) (by simp) (.int .i64 0)).setCell (p := ⟨w.heap.size + 1, 5, none⟩) (by simp) (.bool false)).setCell (p := ⟨w.heap.size + 1 + 1, 0, none⟩) (by simp; omega) (.bool false)
    have hK' := (((((((KeepsOthers.setCell W ⟨w.heap.size + 1, 0, none⟩ (.int .i64 0)).trans (KeepsOthers.setCell _ ⟨w.heap.size + 1, 1, none⟩ (.string ⟨#[]⟩))).trans (KeepsOthers.setCell _ ⟨w.heap.size + 1, 2, none⟩ (.int .i64 0))).trans (KeepsOthers.setCell _ ⟨w.heap.size + 1, 3, none⟩ (.int .i64 0))).trans (KeepsOthers.setCell _ ⟨w.heap.size + 1, 4, none⟩ (.int .i64 0))).trans (KeepsOthers.setCell _ ⟨w.heap.size + 1, 5, none⟩ (.bool false))).trans (KeepsOthers.setCell _ ⟨w.heap.size + 1 + 1, 0, none⟩ (.bool false))).same D _ HC.out.2.2.2.2 rfl
    refine ⟨by simp, .inl ⟨_, _, rfl, run_takeDeferred hK', ?_⟩⟩
    have q2 := b2.putObj (D := D) (.deferred none) (by omega)
    have q3 := b3.putObj (D := D) (.deferred none) (by omega)
    refine ⟨.tuple #[primV0, .bool false], ?_, .inr ⟨HC.out.1, rfl⟩, b4.trans (belowK_b (w := w) (Nat.le_refl _) _ D _ _ (by omega) hK' rfl rfl)⟩
    have e0 := block_cell q2 0 _ rfl
    have e1 := block_cell q2 1 _ rfl
    have e2 := block_cell q2 2 _ rfl
    have e3 := block_cell q2 3 _ rfl
    have e4 := block_cell q2 4 _ rfl
    have e5 := block_cell q2 5 _ rfl
    have e6 := block_cell q3 0 _ rfl
    simp [results, Tryz.f46, go_sem, e0, e1, e2, e3, e4, e5, e6, primV0, primC0]
  case stop =>
    rintro D c pre W hD hpre ⟨⟨⟨⟨rfl, pre', k, rfl, hp, hh⟩, c2⟩, c3⟩, hB1⟩ hK
    have e : (pre' ++ [k]).getLast?.getD 0 = k := by simp
    rw [e] at c2
    have HC := Lib.hid (And.intro hp (And.intro c2 (And.intro c3 (And.intro hB1 hK))))
    clear hp c2 c3 hB1 hK e
    gi_wp2
    have hK' := HC.out.2.2.2.2
    refine ⟨by simp, .inl ⟨_, _, rfl, run_takeDeferred hK', ?_⟩⟩
    have q2 := HC.out.2.1.putObj (D := D) (.deferred none) (by omega)
    have q3 := HC.out.2.2.1.putObj (D := D) (.deferred none) (by omega)
    refine ⟨.tuple #[primV k, .bool true], ?_, .inl ⟨pre', k, hpre, HC.out.1, hh, rfl⟩, HC.out.2.2.2.1.trans (belowK_b (w := w) (Nat.le_refl _) _ D _ _ (by omega) hK' rfl rfl)⟩
    have e0 := block_cell q2 0 _ rfl
    have e1 := block_cell q2 1 _ rfl
    have e2 := block_cell q2 2 _ rfl
    have e3 := block_cell q2 3 _ rfl
    have e4 := block_cell q2 4 _ rfl
    have e5 := block_cell q2 5 _ rfl
    have e6 := block_cell q3 0 _ rfl
    simp [results, Tryz.f46, go_sem, e0, e1, e2, e3, e4, e5, e6, primV, primC]
end Go.Proofs.YtdnalhjdmlkbmaaGreatDoor
namespace Go.Proofs.YtdnalhjdmlkbmaaGreatDoor
open Go.RowKit Go.Shelf
attribute [local go_sem] Oper.semAt_some

/-- The row that a name has. -/
def nmd (s : ByteArray) : Option Nat := (upTo 63).find? (hitB s)
def nmdV : Option Nat → Value
  | some k => primV k
  | none => primV0
theorem nmd_hit (s : ByteArray) (pre : List Nat) (k : Nat) (hp : pre ++ [k] <+: upTo 63) (hn : ∀ j ∈ pre, hitB s j = false) (hk : hitB s k = true) : nmd s = some k := by
  obtain ⟨r, hr⟩ := hp
  unfold nmd
  rw [← hr, List.find?_append, List.find?_append, List.find?_eq_none.2 (fun j hj => by simp [hn j hj])]
  simp [hk]
theorem nmd_no (s : ByteArray) (h : ∀ j ∈ upTo 63, hitB s j = false) : nmd s = none := by
  unfold nmd
  exact List.find?_eq_none.2 (fun j hj => by simp [h j hj])
set_option maxRecDepth 100000 in
theorem name_low : ∀ j, j < 9 → nameB j = ⟨#[]⟩ := by decide +kernel
set_option maxRecDepth 100000 in
theorem name_high : ∀ j, j < 64 → 9 ≤ j → (nameB j).toList.isEmpty = false := by decide +kernel
theorem hit_low (s : ByteArray) (j : Nat) (h : j < 9) : hitB s j = false := by
  unfold hitB
  rw [name_low j h]
  cases hs : s.toList with
  | nil => simp
  | cons a b => simp
theorem hit_high (s : ByteArray) (j : Nat) (h : 9 ≤ j) (h2 : j < 64) : hitB s j = ((nameB j).toList == s.toList) := by
  unfold hitB
  cases hq : ((nameB j).toList == s.toList) with
  | false => simp
  | true =>
    have e := eq_of_beq hq
    have := name_high j h2 h
    rw [e] at this
    simp [this]
theorem mem_upTo (j : Nat) : j ∈ upTo 63 ↔ 1 ≤ j ∧ j < 64 := by
  unfold upTo
  simp only [List.mem_map, List.mem_range]
  constructor
  · rintro ⟨a, h, rfl⟩; omega
  · intro h; exact ⟨j - 1, by omega, by omega⟩
theorem nmd_of (s : ByteArray) (k : Nat) (h1 : 9 ≤ k) (h2 : k < 64) (hn : ∀ j, 9 ≤ j → j < k → ((nameB j).toList == s.toList) = false) (hk : ((nameB k).toList == s.toList) = true) : nmd s = some k := by
  have e := upTo_succ (k - 1)
  rw [show k - 1 + 1 = k from by omega] at e
  refine nmd_hit s (upTo (k - 1)) k (by rw [← e]; exact upTo_prefix k 63 (by omega)) ?_ (by rw [hit_high s k h1 h2]; exact hk)
  intro j hj
  have hjk : 1 ≤ j ∧ j < k := by
    unfold upTo at hj
    simp only [List.mem_map, List.mem_range] at hj
    obtain ⟨a, h, rfl⟩ := hj
    omega
  by_cases h9 : j < 9
  · exact hit_low s j h9
  · rw [hit_high s j (by omega) (by omega)]
    exact hn j (by omega) hjk.2
theorem nmd_not (s : ByteArray) (hn : ∀ j, 9 ≤ j → j < 64 → ((nameB j).toList == s.toList) = false) : nmd s = none := nmd_no s fun j hj => by
  have := (mem_upTo j).1 hj
  by_cases h9 : j < 9
  · exact hit_low s j h9
  · rw [hit_high s j (by omega) (by omega)]
    exact hn j (by omega) this.2
/-- prim.Named's answer. -/
theorem named_any (G : Nat → Nat) (s : ByteArray) (w : World) (ht : Tabs w G) : Calls Tryz.prog 46 #[.string s] w fun e w' => e = .returned (.tuple #[nmdV (nmd s), .bool (nmd s).isSome]) ∧ ∃ G', Adv (fun _ => False) w G w' G' := by
  refine (callsIn_wide.1 (named_in s w ⟨ht.names, ht.takes, ht.leaves, ht.costs, rfl, rfl, rfl, rfl⟩)).mono ?_
  rintro e w' ⟨(⟨pre, k, hp, hn, hk, rfl⟩ | ⟨hn, rfl⟩), hb⟩
  · rw [nmd_hit s pre k hp hn hk]
    exact ⟨rfl, _, Adv.ofBelow G hb⟩
  · rw [nmd_no s hn]
    exact ⟨rfl, _, Adv.ofBelow G hb⟩
end Go.Proofs.YtdnalhjdmlkbmaaGreatDoor
namespace Go.Proofs.YtdnalhjdmlkbmaaGreatDoor
open Go.RowKit

theorem Tryz.stood85 : Tryz.prog.stoodInHeld 85 = false := by kernel_rfl
/-- The comparison of two rows, each written out. -/
def sameB (a b c d : Int) (s : ByteArray) (o : Bool) (a' b' c' d' : Int) (s' : ByteArray) (o' : Bool) : Bool := a == a' && (s.toList == s'.toList && (b == b' && (c == c' && (d == d' && (o == o')))))
theorem eqlPrim (a b c d : Int) (s : ByteArray) (o : Bool) (a' b' c' d' : Int) (s' : ByteArray) (o' : Bool) (w : World) :
    (Op.equalIn 10000 85 (.agg #[.int .i64 a, .string s, .int .i64 b, .int .i64 c, .int .i64 d, .bool o]) (.agg #[.int .i64 a', .string s', .int .i64 b', .int .i64 c', .int .i64 d', .bool o'])).run Tryz.prog w = .ok (sameB a b c d s o a' b' c' d' s' o') w := by
  have ht : Tryz.prog.underlying 85 = some (.struct (Tryz.prog.fieldsOf 85)) := by simp only [Program.fieldsOf, Tryz.underlying85]
  rw [show (10000 : Nat) = 9998 + 1 + 1 from rfl, run_equalIn_struct w (9998 + 1) 85 _ _ ht Tryz.stood85]
  simp only [Program.fieldsOf, Tryz.underlying85]
  unfold sameB
  cases e1 : a == a' with
  | false => simp [Op.eqFields, go_sem, e1]
  | true =>
    cases e2 : (s.toList == s'.toList) with
    | false => simp [Op.eqFields, go_sem, e1, e2]
    | true =>
      cases e3 : b == b' with
      | false => simp [Op.eqFields, go_sem, e1, e2, e3]
      | true =>
        cases e4 : c == c' with
        | false => simp [Op.eqFields, go_sem, e1, e2, e3, e4]
        | true =>
          cases e5 : d == d' with
          | false => simp [Op.eqFields, go_sem, e1, e2, e3, e4, e5]
          | true => simp [Op.eqFields, go_sem, e1, e2, e3, e4, e5]; cases o <;> cases o' <;> rfl
theorem sameB_refl (a b c d : Int) (s : ByteArray) (o : Bool) : sameB a b c d s o a b c d s o = true := by simp [sameB]
/-- same of a row and itself. -/
theorem same_any (G : Nat → Nat) (a b c d : Int) (s : ByteArray) (o : Bool) (w : World) :
    Calls Tryz.prog 47 #[.agg #[.int .i64 a, .string s, .int .i64 b, .int .i64 c, .int .i64 d, .bool o], .agg #[.int .i64 a, .string s, .int .i64 b, .int .i64 c, .int .i64 d, .bool o]] w fun r w' => r = .returned (.bool true) ∧ ∃ G', Adv (fun _ => False) w G w' G' := by
  have hE := eqlPrim
  have hT := sameB_refl
  go_enter Tryz.func47, Tryz.ntmps47
  go_wp2
  go_ret
  exact ⟨rfl, _, ((Adv.refl _ w G).alloc _ 0).alloc _ 0⟩
end Go.Proofs.YtdnalhjdmlkbmaaGreatDoor
namespace Go.Proofs.YtdnalhjdmlkbmaaGreatDoor
open Go.RowKit

/-- What does hands back, for a shuffle. -/
theorem shuf_is (k n : Nat) (ps : List Nat) (h : ∀ (G : Nat → Nat) (w : World), Calls Tryz.prog 123 #[.int .i64 k] w fun e w' => ∃ c G', e = .returned (.func (.func 178) #[] c) ∧ Adv (fun _ => False) w G w' G' ∧ ShufCl n ps w' G' c) : DoesIs k 178 (ShufCl n ps) := h
theorem shuf_keeps (n : Nat) (ps : List Nat) : Keeps (ShufCl n ps) := fun _ _ _ _ _ _ h ha hs => h.adv ha hs
/-- Do of a shuffle, where there is room. -/
theorem do_shuffle (G : Nat → Nat) (k : Nat) (hk : k < 64) (hpl : plainB k = true) (n : Nat) (ps : List Nat) (hd : DoesIs k 178 (ShufCl n ps)) (hps : ∀ p ∈ ps, p < n) (h0 : 0 < n) (h4 : n ≤ 100)
    (i j D R : Nat) (M : Addr) (base t : List Int) (rl : List (Int × Int)) (hn : t.length = n) (hi : i ≠ 0) (hj : j ≠ 0) (hl : (base ++ t).length ≤ 256) (hroom : base.length + ps.length ≤ 256) (hrl : rl.length ≤ 128)
    (hneed : needF (base ++ t).length (takesN k) (leavesN k) = 0) (hlooks : looksF k rl = 0) (hadds : (rl.length : Int) + addsF k ≤ 128) (w : World) (ht : Tabs w G) (hp : PU w G i D (base ++ t)) (hr : PR w G j R rl) :
    Calls Tryz.prog 23 #[.int .i64 k, .pointer (some ⟨D, 0, none⟩), .pointer (some ⟨R, 0, none⟩), .pointer (some M)] w fun e w' => e = .returned (.int .i64 0) ∧ ∃ G', Adv (fun o => o = i) w G w' G' ∧ PU w' G' i D (base ++ picks t ps) := by
  refine do_ok G k hk hpl 178 (enters_of Tryz.func178 (by kernel_rfl) rfl) (ShufCl n ps) hd (shuf_keeps n ps) i j D R M (base ++ t) rl hi hj (fun o => o = i) (fun w' G' => PU w' G' i D (base ++ picks t ps)) hl hrl hneed hlooks hadds w ht hp hr ?_
  intro w1 G1 K c ha hc hk1
  obtain ⟨B1, B2, la, lc, hcs, hB1, hG1, hB2, hG2, hla, hGl⟩ := hc
  subst hcs
  exact shuffle_any G1 i D K R (some M) base t n hn h0 h4 ps hps hroom hi B1 B2 la lc w1 (hp.adv ha id) hk1 hB1 hG1 hB2 hG2 hla hGl
theorem prim24 : primV (24 : Nat) = .agg #[.int .i64 24, .string ⟨#[47]⟩, .int .i64 2, .int .i64 1, .int .i64 4, .bool false] := by kernel_rfl
theorem prim19 : primV (19 : Nat) = .agg #[.int .i64 19, .string ⟨#[50, 100, 117, 112]⟩, .int .i64 2, .int .i64 4, .int .i64 2, .bool false] := by kernel_rfl
theorem nmd_2dup : nmd ⟨#[50, 100, 117, 112]⟩ = some 19 := by kernel_rfl
theorem do_rot (G : Nat → Nat) (i j D R M : Nat) (hi : i ≠ 0) (hj : j ≠ 0) (w : World) (ht : Tabs w G) (hp : PU w G i D [1, 2, 3]) (hr : PR w G j R []) :
    Calls Tryz.prog 23 #[.int .i64 16, .pointer (some ⟨D, 0, none⟩), .pointer (some ⟨R, 0, none⟩), .pointer (some ⟨M, 0, none⟩)] w fun e w' => e = .returned (.int .i64 0) ∧ ∃ G', Adv (fun o => o = i) w G w' G' ∧ PU w' G' i D [2, 3, 1] :=
  do_shuffle G 16 (by decide) (by decide) 3 [1, 2, 0] (shuf_is 16 3 [1, 2, 0] does_16) (by decide) (by decide) (by decide) i j D R ⟨M, 0, none⟩ [] [1, 2, 3] [] rfl hi hj (by decide) (by decide) (by decide) (by decide) (by decide) (by decide) w ht hp hr
set_option maxRecDepth 100000 in
set_option maxHeartbeats 1000000 in
theorem fixed_any (G : Nat → Nat) (w : World) (ht : Tabs w (fun _ => 0)) : Calls Tryz.prog 8 #[] w fun e w' => e = .returned (.bool true) ∧ ∃ G', Adv (fun _ => False) w G w' G' := by
  have HT := Lib.hid ht
  clear ht
  go_enter Tryz.func8, Tryz.ntmps8
  go_wp2_with fail
  refine (of_in (fun _ => 0) 24 (by decide) (by decide) _ HT.out).mono ?_
  rintro e w1 ⟨rfl, G1, ha1⟩
  rw [prim24]
  have HA1 := Lib.hid (ha1.alloc (.cells #[.int .i64 24, .string ⟨#[47]⟩, .int .i64 2, .int .i64 1, .int .i64 4, .bool false] 85) 0)
  have HB1 := Lib.hid (And.intro (heap_alloc_new w1 (.cells #[.int .i64 24, .string ⟨#[47]⟩, .int .i64 2, .int .i64 1, .int .i64 4, .bool false] 85)) (And.intro (show w1.heap.size < (w1.alloc (.cells #[.int .i64 24, .string ⟨#[47]⟩, .int .i64 2, .int .i64 1, .int .i64 4, .bool false] 85)).heap.size from by simp) (show own1 w1 G1 0 w1.heap.size = 0 from by simp [own1])))
  clear ha1
  go_wp2_with fail
  refine (of_out (own1 w1 G1 0) 64 (.inr (by decide)) _).mono ?_
  rintro e w2 ⟨rfl, G2, ha2⟩
  have HA2 := Lib.hid ((HA1.out.trans ha2).alloc (.cells #[.int .i64 0, .string ⟨#[]⟩, .int .i64 0, .int .i64 0, .int .i64 0, .bool false] 85) 0)
  have HK2 := Lib.hid (ha2.alloc (.cells #[.int .i64 0, .string ⟨#[]⟩, .int .i64 0, .int .i64 0, .int .i64 0, .bool false] 85) 0)
  have HT2 := Lib.hid (HT.out.adv HA2.out id)
  clear ha2
  unfold primV0
  go_wp2_with fail
  refine (named_any (own1 w2 G2 0) ⟨#[50, 100, 117, 112]⟩ _ HT2.out).mono ?_
  rintro e w3 ⟨rfl, G3, ha3⟩
  rw [nmd_2dup]
  simp only [nmdV, prim19, Option.isSome_some]
  have HA3 := Lib.hid ((HA2.out.trans ha3).alloc (.cells #[.int .i64 19, .string ⟨#[50, 100, 117, 112]⟩, .int .i64 2, .int .i64 4, .int .i64 2, .bool false] 85) 0 |>.alloc (.cells #[.int .u16 1, .int .u16 2, .int .u16 3] 31) 0)
  have HK3 := Lib.hid ((HK2.out.trans ha3).alloc (.cells #[.int .i64 19, .string ⟨#[50, 100, 117, 112]⟩, .int .i64 2, .int .i64 4, .int .i64 2, .bool false] 85) 0 |>.alloc (.cells #[.int .u16 1, .int .u16 2, .int .u16 3] 31) 0)
  have HX3 := Lib.hid (Reads.new (w3.alloc (.cells #[.int .i64 19, .string ⟨#[50, 100, 117, 112]⟩, .int .i64 2, .int .i64 4, .int .i64 2, .bool false] 85)) (cellsU [1, 2, 3]) 31)
  have hx3 := HX3.out
  rw [show (w3.alloc (.cells #[.int .i64 19, .string ⟨#[50, 100, 117, 112]⟩, .int .i64 2, .int .i64 4, .int .i64 2, .bool false] 85)).heap.size = w3.heap.size + 1 from by simp] at hx3
  have HY3 := Lib.hid hx3
  have hb3 : ((w3.alloc (.cells #[.int .i64 19, .string ⟨#[50, 100, 117, 112]⟩, .int .i64 2, .int .i64 4, .int .i64 2, .bool false] 85)).alloc (.cells #[.int .u16 1, .int .u16 2, .int .u16 3] 31)).heap[w3.heap.size]? = some (.cells #[.int .i64 19, .string ⟨#[50, 100, 117, 112]⟩, .int .i64 2, .int .i64 4, .int .i64 2, .bool false] 85 (0, 0)) := (heap_past _ _ _ (by simp)).trans (heap_alloc_new w3 _)
  have HB3 := Lib.hid (And.intro hb3 (And.intro (show w3.heap.size < ((w3.alloc (.cells #[.int .i64 19, .string ⟨#[50, 100, 117, 112]⟩, .int .i64 2, .int .i64 4, .int .i64 2, .bool false] 85)).alloc (.cells #[.int .u16 1, .int .u16 2, .int .u16 3] 31)).heap.size from by simp; omega) (show own1 (w3.alloc (.cells #[.int .i64 19, .string ⟨#[50, 100, 117, 112]⟩, .int .i64 2, .int .i64 4, .int .i64 2, .bool false] 85)) (own1 w3 G3 0) 0 w3.heap.size = 0 from by simp [own1])))
  clear ha3 hx3 hb3 HX3
  go_wp2_with fail
  refine (born0 (own1 (w3.alloc (.cells #[.int .i64 19, .string ⟨#[50, 100, 117, 112]⟩, .int .i64 2, .int .i64 4, .int .i64 2, .bool false] 85)) (own1 w3 G3 0) 0) _ 3 3 [1, 2, 3] _ rfl (by decide) HY3.out (by decide) (by decide)).mono ?_
  rintro e w4 ⟨K, D, R, M, G4, rfl, ha4, ⟨x, y, z, hk, hgk⟩, hp4, hr4, -⟩
  have HA4 := Lib.hid (HA3.out.trans ha4)
  have HP4 := Lib.hid hp4
  have HR4 := Lib.hid hr4
  have hc1 := ((HK3.out.trans ha4).keep _ HB1.out.2.1 id).trans HB1.out.1
  have hc3 := (ha4.keep _ HB3.out.2.1 id).trans HB3.out.1
  have hg1 : G4 w1.heap.size = 0 := ((HK3.out.trans ha4).own _ HB1.out.2.1).trans HB1.out.2.2
  have hg3 : G4 w3.heap.size = 0 := (ha4.own _ HB3.out.2.1).trans HB3.out.2.2
  have HC4 := Lib.hid (And.intro hc1 (And.intro hc3 (And.intro hg1 hg3)))
  have HT4 := Lib.hid (HT.out.adv HA4.out id)
  have cD := block_cell hk 0 _ rfl
  have cR := block_cell hk 1 _ rfl
  have cM := block_cell hk 2 _ rfl
  have HW4 := Lib.hid (And.intro hk hgk)
  clear ha4 hk hgk hc1 hc3 hg1 hg3
  have HTd := Lib.hid (HT4.out.adv ((Adv.refl (fun _ => False) w4 G4).drew) id)
  have HPd := Lib.hid hp4.drew
  have HRd := Lib.hid hr4.drew
  clear hp4 hr4
  go_upto_region 7 with fail
  go_region_held3 (fun w' => w'.cell? ⟨K, 0, none⟩ = some (.pointer (some ⟨D, 0, none⟩)) ∧ w'.cell? ⟨K, 1, none⟩ = some (.pointer (some ⟨R, 0, none⟩)) ∧ w'.cell? ⟨K, 2, none⟩ = some (.pointer (some ⟨M, 0, none⟩))) (first | exact ⟨cD, cR, cM⟩ | exact KD5.out)
    ((go_at_call 23; refine (do_rot G4 1 2 D R M (by decide) (by decide) _ HTd.out HPd.out HRd.out).mono ?_; rintro e w5 ⟨rfl, G5, ha5, hp5⟩; have HA5 := Lib.hid ha5; have HP5 := Lib.hid hp5; have KD5 := Lib.hid (And.intro (ha5.cell_some (p := ⟨K, 0, none⟩) cD (by show ¬ (G4 K = 1); rw [HW4.out.2]; decide)) (And.intro (ha5.cell_some (p := ⟨K, 1, none⟩) cR (by show ¬ (G4 K = 1); rw [HW4.out.2]; decide)) (ha5.cell_some (p := ⟨K, 2, none⟩) cM (by show ¬ (G4 K = 1); rw [HW4.out.2]; decide)))); clear ha5 hp5))
  obtain ⟨cD5, -, -⟩ := KD5.out
  have hc1 := (HA5.out.keep (b := w1.heap.size) ?lt1 (by show ¬ (G4 _ = 1); rw [HC4.out.2.2.1]; decide)).trans (show w4.drew.heap[w1.heap.size]? = _ from HC4.out.1)
  have hc3 := (HA5.out.keep (b := w3.heap.size) ?lt3 (by show ¬ (G4 _ = 1); rw [HC4.out.2.2.2]; decide)).trans (show w4.drew.heap[w3.heap.size]? = _ from HC4.out.2.1)
  case lt1 => exact (Array.getElem?_eq_some_iff.1 HC4.out.1).1
  case lt3 => exact (Array.getElem?_eq_some_iff.1 HC4.out.2.1).1
  have HC5 := Lib.hid (And.intro hc1 hc3)
  clear hc1 hc3
  go_wp2_with fail
  refine (cellsPU G5 1 D [2, 3, 1] _ HP5.out (by simp) (by simp)).mono ?_
  rintro e w6 ⟨rfl, h6⟩
  have d1 := (heap_past w5 (.cells (cellsU [2, 3, 1]).toArray 31) _ (Array.getElem?_eq_some_iff.1 HC5.out.1).1).trans HC5.out.1
  have d3 := (heap_past w5 (.cells (cellsU [2, 3, 1]).toArray 31) _ (Array.getElem?_eq_some_iff.1 HC5.out.2).1).trans HC5.out.2
  have hr6 := Reads.new w5 (cellsU [2, 3, 1]) 31
  have ha6 := HA5.out.alloc (.cells (cellsU [2, 3, 1]).toArray 31) 0
  rw [← h6] at d1 d3 hr6 ha6
  obtain ⟨B6, hB6⟩ : ∃ b, b = w5.heap.size := ⟨_, rfl⟩
  rw [← hB6] at hr6 ⊢
  obtain ⟨G6, hG6⟩ : ∃ g, g = own1 w5 G5 0 := ⟨_, rfl⟩
  rw [← hG6] at ha6
  clear h6 hB6 hG6
  have HR6 := Lib.hid hr6
  have HA6 := Lib.hid ha6
  have hk6 : ∀ (w' : World) (G' : Nat → Nat), Adv (fun _ => False) w6 G6 w' G' → w'.heap[w1.heap.size]? = _ ∧ w'.heap[w3.heap.size]? = _ := fun w' G' h =>
    ⟨(h.keep _ (Array.getElem?_eq_some_iff.1 d1).1 id).trans d1, (h.keep _ (Array.getElem?_eq_some_iff.1 d3).1 id).trans d3⟩
  have hK6 : ∀ (w' : World) (G' : Nat → Nat), Adv (fun _ => False) w6 G6 w' G' →
      (w'.cell? ⟨w1.heap.size, 0, none⟩ = some (.int .i64 24) ∧ w'.cell? ⟨w1.heap.size, 1, none⟩ = some (.string ⟨#[47]⟩) ∧ w'.cell? ⟨w1.heap.size, 2, none⟩ = some (.int .i64 2) ∧ w'.cell? ⟨w1.heap.size, 3, none⟩ = some (.int .i64 1) ∧ w'.cell? ⟨w1.heap.size, 4, none⟩ = some (.int .i64 4) ∧ w'.cell? ⟨w1.heap.size, 5, none⟩ = some (.bool false)) ∧
      (w'.cell? ⟨w3.heap.size, 0, none⟩ = some (.int .i64 19) ∧ w'.cell? ⟨w3.heap.size, 1, none⟩ = some (.string ⟨#[50, 100, 117, 112]⟩) ∧ w'.cell? ⟨w3.heap.size, 2, none⟩ = some (.int .i64 2) ∧ w'.cell? ⟨w3.heap.size, 3, none⟩ = some (.int .i64 4) ∧ w'.cell? ⟨w3.heap.size, 4, none⟩ = some (.int .i64 2) ∧ w'.cell? ⟨w3.heap.size, 5, none⟩ = some (.bool false)) := fun w' G' h =>
    have a := (hk6 w' G' h).1
    have b := (hk6 w' G' h).2
    ⟨⟨block_cell a 0 _ rfl, block_cell a 1 _ rfl, block_cell a 2 _ rfl, block_cell a 3 _ rfl, block_cell a 4 _ rfl, block_cell a 5 _ rfl⟩, ⟨block_cell b 0 _ rfl, block_cell b 1 _ rfl, block_cell b 2 _ rfl, block_cell b 3 _ rfl, block_cell b 4 _ rfl, block_cell b 5 _ rfl⟩⟩
  have HK6 := Lib.hid hK6
  clear d1 d3 hr6 ha6 hk6 hK6
  rw [show ([2, 3, 1] : List Int).length = 3 from rfl]
  obtain ⟨⟨e0, e1, e2, e3, e4, e5⟩, ⟨f0, f1, f2, f3, f4, f5⟩⟩ := HK6.out _ _ (Adv.refl _ w6 G6)
  go_wp2_with fail
  refine (same_any G6 _ _ _ _ _ _ _).mono ?_
  rintro e ws1 ⟨rfl, Gs1, has1⟩
  have HS1 := Lib.hid has1
  clear has1 e0 e1 e2 e3 e4 e5 f0 f1 f2 f3 f4 f5
  obtain ⟨⟨g0, g1, g2, g3, g4, g5⟩, ⟨k0, k1, k2, k3, k4, k5⟩⟩ := HK6.out _ _ HS1.out
  go_wp2_with fail
  refine (same_any Gs1 _ _ _ _ _ _ _).mono ?_
  rintro e ws2 ⟨rfl, Gs2, has2⟩
  have HS2 := Lib.hid (HS1.out.trans has2)
  clear has2 g0 g1 g2 g3 g4 g5 k0 k1 k2 k3 k4 k5
  go_wp2_with fail
  refine (sameU_any _ _ 3 3 3 3 [2, 3, 1] [2, 3, 1] _ rfl rfl (by decide) (by decide) ((HR6.out.adv HS2.out (fun _ _ => id)).alloc _) (Reads.new ws2 (cellsU [2, 3, 1]) 31)).mono ?_
  rintro e wd ⟨rfl, q, rfl⟩
  rw [show decide ([(2 : Int), 3, 1] = [2, 3, 1]) = true from by decide]
  have HF := Lib.hid ((HA6.out.trans (HS2.out.mono (T := fun o => o = 1) fun _ h => h.elim)).alloc (.cells #[.int .u16 2, .int .u16 3, .int .u16 1] 31) 0 |>.drewN q)
  obtain ⟨wf, hwf⟩ : ∃ wf, wf = (ws2.alloc (.cells (cellsU [2, 3, 1]).toArray 31)).drewN q := ⟨_, rfl⟩
  rw [← hwf]
  have hF := HF.out
  rw [show (ws2.alloc (.cells #[.int .u16 2, .int .u16 3, .int .u16 1] 31)).drewN q = wf from hwf.symm] at hF
  have HFF := Lib.hid hF
  clear hF HF hwf HR6 HS2 HS1 HK6 HA6
  go_wp2_with fail
  refine (plain_any 16 _).mono ?_
  rintro e wd ⟨rfl, rfl⟩
  rw [show plainB 16 = true from by decide]
  go_wp2_with fail
  refine (plain_any 3 _).mono ?_
  rintro e wd ⟨rfl, rfl⟩
  rw [show plainB 3 = false from by decide]
  go_wp2_with fail
  go_ret
  exact ⟨rfl, _, joined_adv (S := fun o => o = 1) (G := G) (((HA4.out.drew).mono fun _ h => h.elim).trans HFF.out) (by decide)⟩
end Go.Proofs.YtdnalhjdmlkbmaaGreatDoor
namespace Go.Proofs.YtdnalhjdmlkbmaaGreatDoor
open Go.RowKit
set_option linter.unusedVariables false

theorem Desk.dm {w : World} {G : Nat → Nat} {K D R : Nat} {M : Option Addr} (h : Desk w G K D R M) : w.cell? ⟨K, 0, none⟩ = some (.pointer (some ⟨D, 0, none⟩)) ∧ w.cell? ⟨K, 2, none⟩ = some (.pointer M) := ⟨h.d, h.m⟩
theorem Desk.dr {w : World} {G : Nat → Nat} {K D R : Nat} {M : Option Addr} (h : Desk w G K D R M) : w.cell? ⟨K, 0, none⟩ = some (.pointer (some ⟨D, 0, none⟩)) ∧ w.cell? ⟨K, 1, none⟩ = some (.pointer (some ⟨R, 0, none⟩)) := ⟨h.d, h.r⟩
theorem Desk.drew {w : World} {G : Nat → Nat} {K D R : Nat} {M : Option Addr} (h : Desk w G K D R M) : Desk w.drew G K D R M := h
section
variable {w : World} {G : Nat → Nat} {i j q K D R M : Nat} {b : List Int} {r : List (Int × Int)} {m : MemS}

set_option maxRecDepth 100000 in
set_option maxHeartbeats 1000000 in
theorem doFetch_act (a : Int) (o : Own3 i j q) (hm : MemOk m) (ha1 : 0 ≤ a) (hb1 : a < 65536) (hroom : b.length + 1 ≤ 256) (h : Trio w G i j q D R M (b ++ [a]) r m) (hk : Desk w G K D R (some ⟨M, 0, none⟩)) :
    Calls Tryz.prog 181 #[.pointer (some ⟨K, 0, none⟩)] w (Left3 i j q D R M w G (b ++ [cellF m a]) r m (.tuple #[])) := by
  have HT := Lib.hid h
  have HD := Lib.hid h.drew
  have HK := Lib.hid hk
  have c0 := hk.d
  have c1 := hk.r
  have c2 := hk.m
  clear h hk
  go_enter Tryz.func181, Tryz.ntmps181
  go_region_held3 (fun w' => w'.cell? ⟨K, 0, none⟩ = some (.pointer (some ⟨D, 0, none⟩)) ∧ w'.cell? ⟨K, 2, none⟩ = some (.pointer (some ⟨M, 0, none⟩))) (first | exact ⟨c0, c2⟩ | exact K1.out | exact K2.out | exact (HK.out.adv (A2.out.alloc _ 0) o.zero).dm | exact K3.out)
    (first | (go_at_call 147; refine (HD.out.pop o).mono ?_; rintro e w1 ⟨rfl, G1, ha1, t1⟩; have A1 := Lib.hid ((Adv.refl (S3 i j q) w G).drew.trans ha1); have T1 := Lib.hid t1; have K1 := Lib.hid ((HK.out.adv A1.out o.zero).dm); clear ha1 t1) | (go_at_call 105; refine (T1.out.cell hm a ha1 hb1).mono ?_; rintro e w2 ⟨rfl, G2, ha2, t2⟩; have A2 := Lib.hid (A1.out.trans ha2); have T2 := Lib.hid t2; have K2 := Lib.hid ((HK.out.adv A2.out o.zero).dm); clear ha2 t2) | (go_at_call 39; refine ((T2.out.alloc (.cells #[.int .u16 (cellF m a)] 31) 0).push o (l := [cellF m a]) _ 1 1 rfl hroom (Reads.new w2 (cellsU [cellF m a]) 31)).mono ?_; rintro e w3 ⟨rfl, G3, ha3, t3⟩; have A3 := Lib.hid ((A2.out.alloc (.cells #[.int .u16 (cellF m a)] 31) 0).trans ha3); have T3 := Lib.hid t3; have K3 := Lib.hid ((HK.out.adv A3.out o.zero).dm); clear ha3 t3))
  go_wp2_with fail
  go_end0
  exact ⟨rfl, G3, A3.out, T3.out⟩
set_option maxRecDepth 100000 in
set_option maxHeartbeats 1000000 in
theorem doByte_act (a : Int) (o : Own3 i j q) (hm : MemOk m) (hR : MemR m) (ha1 : 0 ≤ a) (hb1 : a < 65536) (hroom : b.length + 1 ≤ 256) (h : Trio w G i j q D R M (b ++ [a]) r m) (hk : Desk w G K D R (some ⟨M, 0, none⟩)) :
    Calls Tryz.prog 183 #[.pointer (some ⟨K, 0, none⟩)] w (Left3 i j q D R M w G (b ++ [loadF m a]) r m (.tuple #[])) := by
  have HT := Lib.hid h
  have HD := Lib.hid h.drew
  have HK := Lib.hid hk
  have c0 := hk.d
  have c1 := hk.r
  have c2 := hk.m
  clear h hk
  go_enter Tryz.func183, Tryz.ntmps183
  have hv := wrap_u16_id (loadF m a) (loadF_rng hR a).1 (by have := (loadF_rng hR a).2; omega)
  have HV := Lib.hid hv
  clear hv
  go_region_held3 (fun w' => w'.cell? ⟨K, 0, none⟩ = some (.pointer (some ⟨D, 0, none⟩)) ∧ w'.cell? ⟨K, 2, none⟩ = some (.pointer (some ⟨M, 0, none⟩))) (first | exact ⟨c0, c2⟩ | exact K1.out | exact K2.out | exact (HK.out.adv (A2.out.alloc _ 0) o.zero).dm | exact K3.out)
    (first | (go_at_call 147; refine (HD.out.pop o).mono ?_; rintro e w1 ⟨rfl, G1, ha1, t1⟩; have A1 := Lib.hid ((Adv.refl (S3 i j q) w G).drew.trans ha1); have T1 := Lib.hid t1; have K1 := Lib.hid ((HK.out.adv A1.out o.zero).dm); clear ha1 t1) | (go_at_call 69; refine (T1.out.load hm a ha1 hb1).mono ?_; rintro e w2 ⟨rfl, G2, ha2, t2⟩; have A2 := Lib.hid (A1.out.trans ha2); have T2 := Lib.hid t2; have K2 := Lib.hid ((HK.out.adv A2.out o.zero).dm); clear ha2 t2) | (go_at_call 39; rw [HV.out]; refine ((T2.out.alloc (.cells #[.int .u16 (loadF m a)] 31) 0).push o (l := [loadF m a]) _ 1 1 rfl hroom (Reads.new w2 (cellsU [loadF m a]) 31)).mono ?_; rintro e w3 ⟨rfl, G3, ha3, t3⟩; have A3 := Lib.hid ((A2.out.alloc (.cells #[.int .u16 (loadF m a)] 31) 0).trans ha3); have T3 := Lib.hid t3; have K3 := Lib.hid ((HK.out.adv A3.out o.zero).dm); clear ha3 t3))
  go_wp2_with fail
  go_end0
  exact ⟨rfl, G3, A3.out, T3.out⟩
set_option maxRecDepth 100000 in
set_option maxHeartbeats 1000000 in
theorem doPad_act (o : Own3 i j q) (hm : MemOk m) (hR : MemR m) (hroom : b.length + 1 ≤ 256) (h : Trio w G i j q D R M b r m) (hk : Desk w G K D R (some ⟨M, 0, none⟩)) :
    Calls Tryz.prog 192 #[.pointer (some ⟨K, 0, none⟩)] w (Left3 i j q D R M w G (b ++ [m.pad]) r m (.tuple #[])) := by
  have HT := Lib.hid h
  have HD := Lib.hid h.drew
  have HK := Lib.hid hk
  have c0 := hk.d
  have c1 := hk.r
  have c2 := hk.m
  clear h hk
  go_enter Tryz.func192, Tryz.ntmps192
  have hv := wrap_u16_id m.pad hR.pad.1 (by have := hR.pad.2; omega)
  have HV := Lib.hid hv
  clear hv
  go_region_held3 (fun w' => w'.cell? ⟨K, 0, none⟩ = some (.pointer (some ⟨D, 0, none⟩)) ∧ w'.cell? ⟨K, 2, none⟩ = some (.pointer (some ⟨M, 0, none⟩))) (first | exact ⟨c0, c2⟩ | exact K1.out | exact (HK.out.adv (A1.out.alloc _ 0) o.zero).dm | exact K2.out)
    (first | (go_at_call 202; refine (HD.out.pad hm).mono ?_; rintro e w1 ⟨rfl, G1, ha1, t1⟩; have A1 := Lib.hid ((Adv.refl (S3 i j q) w G).drew.trans ha1); have T1 := Lib.hid t1; have K1 := Lib.hid ((HK.out.adv A1.out o.zero).dm); clear ha1 t1) | (go_at_call 39; rw [HV.out]; refine ((T1.out.alloc (.cells #[.int .u16 m.pad] 31) 0).push o (l := [m.pad]) _ 1 1 rfl hroom (Reads.new w1 (cellsU [m.pad]) 31)).mono ?_; rintro e w2 ⟨rfl, G2, ha2, t2⟩; have A2 := Lib.hid ((A1.out.alloc (.cells #[.int .u16 m.pad] 31) 0).trans ha2); have T2 := Lib.hid t2; have K2 := Lib.hid ((HK.out.adv A2.out o.zero).dm); clear ha2 t2))
  go_wp2_with fail
  go_end0
  exact ⟨rfl, G2, A2.out, T2.out⟩
set_option maxRecDepth 100000 in
set_option maxHeartbeats 1000000 in
theorem doStore_act (x a : Int) (o : Own3 i j q) (hm : MemOk m) (hn : m.tones.length ≤ 99999) (ha1 : 0 ≤ a) (hb1 : a < 65536) (h : Trio w G i j q D R M (b ++ [x, a]) r m) (hk : Desk w G K D R (some ⟨M, 0, none⟩)) :
    Calls Tryz.prog 182 #[.pointer (some ⟨K, 0, none⟩)] w (Left3 i j q D R M w G b r (setCellF m a x) (.tuple #[])) := by
  have HT := Lib.hid h
  have HD := Lib.hid h.drew
  have HK := Lib.hid hk
  have c0 := hk.d
  have c1 := hk.r
  have c2 := hk.m
  clear h hk
  go_enter Tryz.func182, Tryz.ntmps182
  rw [show b ++ [x, a] = (b ++ [x]) ++ [a] from by simp] at HT
  go_wp2_with fail
  refine (HT.out.pop o).mono ?_
  rintro e w1 ⟨rfl, G1, ha1, t1⟩; have A1 := Lib.hid ((Adv.refl (S3 i j q) w G).trans ha1); have T1 := Lib.hid t1; have K1 := Lib.hid ((HK.out.adv A1.out o.zero).dm); clear ha1 t1
  obtain ⟨d0, d2⟩ := K1.out
  have D1 := Lib.hid T1.out.drew
  go_upto_region 1 with fail
  go_region_held3 (fun w' => w'.cell? ⟨K, 0, none⟩ = some (.pointer (some ⟨D, 0, none⟩)) ∧ w'.cell? ⟨K, 2, none⟩ = some (.pointer (some ⟨M, 0, none⟩))) (first | exact ⟨d0, d2⟩ | exact K2.out | exact K3.out)
    (first | (go_at_call 147; refine (D1.out.pop o).mono ?_; rintro e w2 ⟨rfl, G2, ha2, t2⟩; have A2 := Lib.hid (A1.out.drew.trans ha2); have T2 := Lib.hid t2; have K2 := Lib.hid ((HK.out.adv A2.out o.zero).dm); clear ha2 t2) | (go_at_call 199; refine (T2.out.setCell o hm hn a ha1 hb1 x).mono ?_; rintro e w3 ⟨rfl, G3, ha3, t3⟩; have A3 := Lib.hid (A2.out.trans ha3); have T3 := Lib.hid t3; have K3 := Lib.hid ((HK.out.adv A3.out o.zero).dm); clear ha3 t3))
  go_wp2_with fail
  go_end0
  exact ⟨rfl, G3, A3.out, T3.out⟩
set_option maxRecDepth 100000 in
set_option maxHeartbeats 1000000 in
theorem doPut_act (x a : Int) (o : Own3 i j q) (hm : MemOk m) (hn : m.tones.length ≤ 99999) (ha1 : 0 ≤ a) (hb1 : a < 65536) (hx0 : 0 ≤ x) (hx1 : x < 65536) (h : Trio w G i j q D R M (b ++ [x, a]) r m) (hk : Desk w G K D R (some ⟨M, 0, none⟩)) :
    Calls Tryz.prog 184 #[.pointer (some ⟨K, 0, none⟩)] w (Left3 i j q D R M w G b r (storeF m a (x % 256)) (.tuple #[])) := by
  have HT := Lib.hid h
  have HD := Lib.hid h.drew
  have HK := Lib.hid hk
  have c0 := hk.d
  have c1 := hk.r
  have c2 := hk.m
  clear h hk
  go_enter Tryz.func184, Tryz.ntmps184
  rw [show b ++ [x, a] = (b ++ [x]) ++ [a] from by simp] at HT
  have HV := Lib.hid (and255 x hx0 hx1)
  go_wp2_with fail
  refine (HT.out.pop o).mono ?_
  rintro e w1 ⟨rfl, G1, ha1, t1⟩; have A1 := Lib.hid ((Adv.refl (S3 i j q) w G).trans ha1); have T1 := Lib.hid t1; have K1 := Lib.hid ((HK.out.adv A1.out o.zero).dm); clear ha1 t1
  obtain ⟨d0, d2⟩ := K1.out
  have D1 := Lib.hid T1.out.drew
  go_upto_region 1 with fail
  go_region_held3 (fun w' => w'.cell? ⟨K, 0, none⟩ = some (.pointer (some ⟨D, 0, none⟩)) ∧ w'.cell? ⟨K, 2, none⟩ = some (.pointer (some ⟨M, 0, none⟩))) (first | exact ⟨d0, d2⟩ | exact K2.out | exact K3.out)
    (first | (go_at_call 147; refine (D1.out.pop o).mono ?_; rintro e w2 ⟨rfl, G2, ha2, t2⟩; have A2 := Lib.hid (A1.out.drew.trans ha2); have T2 := Lib.hid t2; have K2 := Lib.hid ((HK.out.adv A2.out o.zero).dm); clear ha2 t2) | (go_at_call 29; rw [HV.out]; refine (T2.out.store o hm hn a ha1 hb1 (x % 256)).mono ?_; rintro e w3 ⟨rfl, G3, ha3, t3⟩; have A3 := Lib.hid (A2.out.trans ha3); have T3 := Lib.hid t3; have K3 := Lib.hid ((HK.out.adv A3.out o.zero).dm); clear ha3 t3))
  go_wp2_with fail
  go_end0
  exact ⟨rfl, G3, A3.out, T3.out⟩
set_option maxRecDepth 100000 in
set_option maxHeartbeats 1000000 in
theorem doMore_act (x a : Int) (o : Own3 i j q) (hm : MemOk m) (hn : m.tones.length ≤ 99999) (ha1 : 0 ≤ a) (hb1 : a < 65536) (h : Trio w G i j q D R M (b ++ [x, a]) r m) (hk : Desk w G K D R (some ⟨M, 0, none⟩)) :
    Calls Tryz.prog 185 #[.pointer (some ⟨K, 0, none⟩)] w (Left3 i j q D R M w G b r (setCellF m a ((cellF m a + x) % 65536)) (.tuple #[])) := by
  have HT := Lib.hid h
  have HD := Lib.hid h.drew
  have HK := Lib.hid hk
  have c0 := hk.d
  have c1 := hk.r
  have c2 := hk.m
  clear h hk
  go_enter Tryz.func185, Tryz.ntmps185
  rw [show b ++ [x, a] = (b ++ [x]) ++ [a] from by simp] at HT
  have HV := Lib.hid (wrap_u16_mod (cellF m a + x))
  go_wp2_with fail
  refine (HT.out.pop o).mono ?_
  rintro e w1 ⟨rfl, G1, ha1, t1⟩; have A1 := Lib.hid ((Adv.refl (S3 i j q) w G).trans ha1); have T1 := Lib.hid t1; have K1 := Lib.hid ((HK.out.adv A1.out o.zero).dm); clear ha1 t1
  obtain ⟨d0, d2⟩ := K1.out
  have D1 := Lib.hid T1.out.drew
  go_upto_region 1 with fail
  go_region_held3 (fun w' => w'.cell? ⟨K, 0, none⟩ = some (.pointer (some ⟨D, 0, none⟩)) ∧ w'.cell? ⟨K, 2, none⟩ = some (.pointer (some ⟨M, 0, none⟩))) (first | exact ⟨d0, d2⟩ | exact K2.out | exact K3.out | exact K4.out)
    (first | (go_at_call 105; refine (D1.out.cell hm a ha1 hb1).mono ?_; rintro e w2 ⟨rfl, G2, ha2, t2⟩; have A2 := Lib.hid (A1.out.drew.trans ha2); have T2 := Lib.hid t2; have K2 := Lib.hid ((HK.out.adv A2.out o.zero).dm); clear ha2 t2) | (go_at_call 147; refine (T2.out.pop o).mono ?_; rintro e w3 ⟨rfl, G3, ha3, t3⟩; have A3 := Lib.hid (A2.out.trans ha3); have T3 := Lib.hid t3; have K3 := Lib.hid ((HK.out.adv A3.out o.zero).dm); clear ha3 t3) | (go_at_call 199; rw [HV.out]; refine (T3.out.setCell o hm hn a ha1 hb1 _).mono ?_; rintro e w4 ⟨rfl, G4, ha4, t4⟩; have A4 := Lib.hid (A3.out.trans ha4); have T4 := Lib.hid t4; have K4 := Lib.hid ((HK.out.adv A4.out o.zero).dm); clear ha4 t4))
  go_wp2_with fail
  go_end0
  exact ⟨rfl, G4, A4.out, T4.out⟩
set_option maxRecDepth 100000 in
set_option maxHeartbeats 1000000 in
theorem doSave_act (a : Int) (o : Own3 i j q) (hroom : r.length + 1 ≤ 128) (h : Trio w G i j q D R M (b ++ [a]) r m) (hk : Desk w G K D R (some ⟨M, 0, none⟩)) :
    Calls Tryz.prog 186 #[.pointer (some ⟨K, 0, none⟩)] w (Left3 i j q D R M w G b (r ++ [(4, a)]) m (.tuple #[])) := by
  have HT := Lib.hid h
  have HD := Lib.hid h.drew
  have HK := Lib.hid hk
  have c0 := hk.d
  have c1 := hk.r
  have c2 := hk.m
  clear h hk
  go_enter Tryz.func186, Tryz.ntmps186
  go_region_held3 (fun w' => w'.cell? ⟨K, 0, none⟩ = some (.pointer (some ⟨D, 0, none⟩)) ∧ w'.cell? ⟨K, 1, none⟩ = some (.pointer (some ⟨R, 0, none⟩))) (first | exact ⟨c0, c1⟩ | exact K1.out | exact (HK.out.adv (A1.out.alloc _ 0) o.zero).dr | exact K2.out)
    (first | (go_at_call 147; refine (HD.out.pop o).mono ?_; rintro e w1 ⟨rfl, G1, ha1, t1⟩; have A1 := Lib.hid ((Adv.refl (S3 i j q) w G).drew.trans ha1); have T1 := Lib.hid t1; have K1 := Lib.hid ((HK.out.adv A1.out o.zero).dr); clear ha1 t1) | (go_at_call 41; refine ((T1.out.alloc (.cells #[.int .i64 4, .int .u16 a] 111) 0).pushR o (l := [(4, a)]) _ 1 1 rfl hroom (Reads.new w1 (cellsR [(4, a)]) 111)).mono ?_; rintro e w2 ⟨rfl, G2, ha2, t2⟩; have A2 := Lib.hid ((A1.out.alloc (.cells #[.int .i64 4, .int .u16 a] 111) 0).trans ha2); have T2 := Lib.hid t2; have K2 := Lib.hid ((HK.out.adv A2.out o.zero).dr); clear ha2 t2))
  go_wp2_with fail
  go_end0
  exact ⟨rfl, G2, A2.out, T2.out⟩
set_option maxRecDepth 100000 in
set_option maxHeartbeats 1000000 in
theorem doBack_act (c : Int) (o : Own3 i j q) (hrl : r.length < 1000) (hroom : b.length + 1 ≤ 256) (h : Trio w G i j q D R M b (r ++ [(4, c)]) m) (hk : Desk w G K D R (some ⟨M, 0, none⟩)) :
    Calls Tryz.prog 187 #[.pointer (some ⟨K, 0, none⟩)] w (Left3 i j q D R M w G (b ++ [c]) r m (.tuple #[])) := by
  have HT := Lib.hid h
  have HD := Lib.hid h.drew
  have HK := Lib.hid hk
  have c0 := hk.d
  have c1 := hk.r
  have c2 := hk.m
  clear h hk
  go_enter Tryz.func187, Tryz.ntmps187
  go_wp2_with fail
  refine (HT.out.popR (c := (4, c)) o (by omega)).mono ?_
  rintro e w1 ⟨rfl, G1, ha1, t1⟩; have A1 := Lib.hid ((Adv.refl (S3 i j q) w G).trans ha1); have T1 := Lib.hid t1; have K1 := Lib.hid ((HK.out.adv A1.out o.zero).dm); clear ha1 t1
  obtain ⟨d0, d2⟩ := K1.out
  go_wp2_with fail
  refine ((T1.out.alloc (.cells #[.int .u16 c] 31) 0).push o (l := [c]) _ 1 1 rfl hroom (Reads.new w1 (cellsU [c]) 31)).mono ?_
  rintro e w2 ⟨rfl, G2, ha2, t2⟩; have A2 := Lib.hid ((A1.out.alloc (.cells #[.int .u16 c] 31) 0).trans ha2); have T2 := Lib.hid t2; have K2 := Lib.hid ((HK.out.adv A2.out o.zero).dm); clear ha2 t2
  go_wp2_with fail
  go_end0
  exact ⟨rfl, G2, A2.out, T2.out⟩
set_option maxRecDepth 100000 in
theorem sees_act (n kind : Int) (o : Own3 i j q) (hrl : r.length ≤ 128) (hroom : b.length + 1 ≤ 256) (h : Trio w G i j q D R M b r m) (hk : Desk w G K D R (some ⟨M, 0, none⟩)) :
    Calls Tryz.prog 200 #[.pointer (some ⟨K, 0, none⟩), .int .i64 n, .int .i64 kind] w (Left3 i j q D R M w G (b ++ [atV r n kind]) r m (.tuple #[])) :=
  (sees_any G i j D K R _ b r n kind hroom hrl w h.pu h.pr hk).mono fun e w' k => by
    obtain ⟨k1, G', k2, k3⟩ := k
    exact ⟨k1, G', k2.mono fun _ e => .inl e, k3, h.pr.adv k2 (Ne.symm o.ij), h.pm.adv k2 (Ne.symm o.iq)⟩
set_option maxRecDepth 100000 in
set_option maxHeartbeats 1000000 in
theorem doSee_act (o : Own3 i j q) (hrl : r.length ≤ 128) (hroom : b.length + 1 ≤ 256) (h : Trio w G i j q D R M b r m) (hk : Desk w G K D R (some ⟨M, 0, none⟩)) :
    Calls Tryz.prog 188 #[.pointer (some ⟨K, 0, none⟩)] w (Left3 i j q D R M w G (b ++ [atV r 0 4]) r m (.tuple #[])) := by
  have HT := Lib.hid h
  have HD := Lib.hid h.drew
  have HK := Lib.hid hk
  have c0 := hk.d
  have c1 := hk.r
  have c2 := hk.m
  clear h hk
  go_enter Tryz.func188, Tryz.ntmps188
  go_wp2_with fail
  refine (sees_act 0 4 o hrl hroom HT.out HK.out).mono ?_
  rintro e w2 ⟨rfl, G2, ha2, hp2⟩
  have HF := Lib.hid (And.intro ha2 hp2)
  clear ha2 hp2
  go_wp2_with fail
  go_end0
  exact ⟨rfl, G2, HF.out.1, HF.out.2⟩
set_option maxRecDepth 100000 in
set_option maxHeartbeats 1000000 in
theorem doIndex_act (o : Own3 i j q) (hrl : r.length ≤ 128) (hroom : b.length + 1 ≤ 256) (h : Trio w G i j q D R M b r m) (hk : Desk w G K D R (some ⟨M, 0, none⟩)) :
    Calls Tryz.prog 189 #[.pointer (some ⟨K, 0, none⟩)] w (Left3 i j q D R M w G (b ++ [atV r 0 3]) r m (.tuple #[])) := by
  have HT := Lib.hid h
  have HD := Lib.hid h.drew
  have HK := Lib.hid hk
  have c0 := hk.d
  have c1 := hk.r
  have c2 := hk.m
  clear h hk
  go_enter Tryz.func189, Tryz.ntmps189
  go_wp2_with fail
  refine (sees_act 0 3 o hrl hroom HT.out HK.out).mono ?_
  rintro e w2 ⟨rfl, G2, ha2, hp2⟩
  have HF := Lib.hid (And.intro ha2 hp2)
  clear ha2 hp2
  go_wp2_with fail
  go_end0
  exact ⟨rfl, G2, HF.out.1, HF.out.2⟩
set_option maxRecDepth 100000 in
set_option maxHeartbeats 1000000 in
theorem doOuter_act (o : Own3 i j q) (hrl : r.length ≤ 128) (hroom : b.length + 1 ≤ 256) (h : Trio w G i j q D R M b r m) (hk : Desk w G K D R (some ⟨M, 0, none⟩)) :
    Calls Tryz.prog 190 #[.pointer (some ⟨K, 0, none⟩)] w (Left3 i j q D R M w G (b ++ [atV r 2 3]) r m (.tuple #[])) := by
  have HT := Lib.hid h
  have HD := Lib.hid h.drew
  have HK := Lib.hid hk
  have c0 := hk.d
  have c1 := hk.r
  have c2 := hk.m
  clear h hk
  go_enter Tryz.func190, Tryz.ntmps190
  go_wp2_with fail
  refine (sees_act 2 3 o hrl hroom HT.out HK.out).mono ?_
  rintro e w2 ⟨rfl, G2, ha2, hp2⟩
  have HF := Lib.hid (And.intro ha2 hp2)
  clear ha2 hp2
  go_wp2_with fail
  go_end0
  exact ⟨rfl, G2, HF.out.1, HF.out.2⟩
theorem doDo_act (x y : Int) (o : Own3 i j q) (hroom : r.length + 2 ≤ 128) (h : Trio w G i j q D R M (b ++ [x, y]) r m) (hk : Desk w G K D R (some ⟨M, 0, none⟩)) :
    Calls Tryz.prog 180 #[.pointer (some ⟨K, 0, none⟩)] w (Left3 i j q D R M w G b (r ++ [(2, x), (3, y)]) m (.tuple #[])) :=
  (doDo_any G i j D K R _ b x y r o.i0 o.j0 o.ij hroom w h.pu h.pr hk).mono fun e w' k => by
    obtain ⟨k1, G', k2, k3, k4⟩ := k
    exact ⟨k1, G', k2.mono fun _ e => e.imp id .inl, k3, k4, h.pm.adv k2 (fun e => e.elim (Ne.symm o.iq) (Ne.symm o.jq))⟩
set_option maxRecDepth 100000 in
set_option maxHeartbeats 1000000 in
theorem doNothing_act (o : Own3 i j q) (h : Trio w G i j q D R M b r m) (hk : Desk w G K D R (some ⟨M, 0, none⟩)) :
    Calls Tryz.prog 159 #[.pointer (some ⟨K, 0, none⟩)] w (Left3 i j q D R M w G b r m (.tuple #[])) := by
  have HT := Lib.hid h
  have HD := Lib.hid h.drew
  have HK := Lib.hid hk
  have c0 := hk.d
  have c1 := hk.r
  have c2 := hk.m
  clear h hk
  go_enter Tryz.func159, Tryz.ntmps159
  go_wp2_with fail
  go_end0
  exact ⟨rfl, G, Adv.refl _ _ _, HT.out⟩
set_option maxRecDepth 100000 in
set_option maxHeartbeats 1000000 in
theorem doBank_act (a : Int) (o : Own3 i j q) (hm : MemOk m) (hn : m.tones.length ≤ 99999) (ha1 : 0 ≤ a) (hb1 : a < 65536) (h : Trio w G i j q D R M (b ++ [a]) r m) (hk : Desk w G K D R (some ⟨M, 0, none⟩)) :
    Calls Tryz.prog 194 #[.pointer (some ⟨K, 0, none⟩)] w (Left3 i j q D R M w G b r (storeF m 65280 (a % 256)) (.tuple #[])) := by
  have HT := Lib.hid h
  have HD := Lib.hid h.drew
  have HK := Lib.hid hk
  have c0 := hk.d
  have c1 := hk.r
  have c2 := hk.m
  clear h hk
  go_enter Tryz.func194, Tryz.ntmps194
  go_region_held3 (fun w' => w'.cell? ⟨K, 0, none⟩ = some (.pointer (some ⟨D, 0, none⟩)) ∧ w'.cell? ⟨K, 2, none⟩ = some (.pointer (some ⟨M, 0, none⟩))) (first | exact ⟨c0, c2⟩ | exact K1.out | exact K2.out)
    (first | (go_at_call 147; refine (HD.out.pop o).mono ?_; rintro e w1 ⟨rfl, G1, ha1, t1⟩; have A1 := Lib.hid ((Adv.refl (S3 i j q) w G).drew.trans ha1); have T1 := Lib.hid t1; have K1 := Lib.hid ((HK.out.adv A1.out o.zero).dm); clear ha1 t1) | (go_at_call 204; refine (T1.out.choose o hm hn a ha1 hb1).mono ?_; rintro e w2 ⟨rfl, G2, ha2, t2⟩; have A2 := Lib.hid (A1.out.trans ha2); have T2 := Lib.hid t2; have K2 := Lib.hid ((HK.out.adv A2.out o.zero).dm); clear ha2 t2))
  go_wp2_with fail
  go_end0
  exact ⟨rfl, G2, A2.out, T2.out⟩
set_option maxRecDepth 100000 in
set_option maxHeartbeats 1000000 in
theorem doTone_act (x v : Int) (o : Own3 i j q) (hm : MemOk m) (hn : m.tones.length ≤ 99999) (hx0 : 0 ≤ x) (hx1 : x < 65536) (hv0 : 0 ≤ v) (hv1 : v < 65536) (h : Trio w G i j q D R M (b ++ [x, v]) r m) (hk : Desk w G K D R (some ⟨M, 0, none⟩)) :
    Calls Tryz.prog 193 #[.pointer (some ⟨K, 0, none⟩)] w (Left3 i j q D R M w G b r (playF m x (v % 256)) (.tuple #[])) := by
  have HT := Lib.hid h
  have HD := Lib.hid h.drew
  have HK := Lib.hid hk
  have c0 := hk.d
  have c1 := hk.r
  have c2 := hk.m
  clear h hk
  go_enter Tryz.func193, Tryz.ntmps193
  rw [show b ++ [x, v] = (b ++ [x]) ++ [v] from by simp] at HT
  have HV := Lib.hid (and255 v hv0 hv1)
  go_wp2_with fail
  refine (HT.out.pop o).mono ?_
  rintro e w1 ⟨rfl, G1, ha1, t1⟩; have A1 := Lib.hid ((Adv.refl (S3 i j q) w G).trans ha1); have T1 := Lib.hid t1; have K1 := Lib.hid ((HK.out.adv A1.out o.zero).dm); clear ha1 t1
  obtain ⟨d0, d2⟩ := K1.out
  have D1 := Lib.hid T1.out.drew
  go_upto_region 1 with fail
  go_region_held3 (fun w' => w'.cell? ⟨K, 0, none⟩ = some (.pointer (some ⟨D, 0, none⟩)) ∧ w'.cell? ⟨K, 2, none⟩ = some (.pointer (some ⟨M, 0, none⟩))) (first | exact ⟨d0, d2⟩ | exact K2.out | exact K3.out)
    (first | (go_at_call 147; refine (D1.out.pop o).mono ?_; rintro e w2 ⟨rfl, G2, ha2, t2⟩; have A2 := Lib.hid (A1.out.drew.trans ha2); have T2 := Lib.hid t2; have K2 := Lib.hid ((HK.out.adv A2.out o.zero).dm); clear ha2 t2) | (go_at_call 203; rw [HV.out]; refine (T2.out.play o hm hn x (v % 256) hx0 hx1).mono ?_; rintro e w3 ⟨rfl, G3, ha3, t3⟩; have A3 := Lib.hid (A2.out.trans ha3); have T3 := Lib.hid t3; have K3 := Lib.hid ((HK.out.adv A3.out o.zero).dm); clear ha3 t3))
  go_wp2_with fail
  go_end0
  exact ⟨rfl, G3, A3.out, T3.out⟩
set_option maxRecDepth 100000 in
set_option maxHeartbeats 1000000 in
theorem doPlot_act (x y c : Int) (o : Own3 i j q) (hm : MemOk m) (hn : m.tones.length ≤ 99999) (hx0 : 0 ≤ x) (hy0 : 0 ≤ y) (hc0 : 0 ≤ c) (hc1 : c < 65536) (h : Trio w G i j q D R M (b ++ [x, y, c]) r m) (hk : Desk w G K D R (some ⟨M, 0, none⟩)) :
    Calls Tryz.prog 191 #[.pointer (some ⟨K, 0, none⟩)] w (Left3 i j q D R M w G b r (plotF m x y c) (.tuple #[])) := by
  have HT := Lib.hid h
  have HD := Lib.hid h.drew
  have HK := Lib.hid hk
  have c0 := hk.d
  have c1 := hk.r
  have c2 := hk.m
  clear h hk
  go_enter Tryz.func191, Tryz.ntmps191
  go_wp2_with fail
  refine (HT.out.taken o HK.out 3 rfl (by decide) (by decide)).mono ?_
  rintro e w1 ⟨B, G1, rfl, ha1, t1, k1, hrow⟩
  have A1 := Lib.hid ha1
  have D1 := Lib.hid t1.drew
  have d2 := k1.m
  have e0 := (hrow.at (by decide)).2.2.2 0 _ rfl
  have e1 := (hrow.at (by decide)).2.2.2 1 _ rfl
  have e2 := (hrow.at (by decide)).2.2.2 2 _ rfl
  have gB := (hrow.at (by decide)).2.1
  have HKK := Lib.hid (show ∀ (w' : World) (G' : Nat → Nat), Adv (S3 i j q) w1 G1 w' G' → w'.cell? ⟨K, 2, none⟩ = some (.pointer (some ⟨M, 0, none⟩)) ∧ w'.cell? ⟨B, 0, none⟩ = some (.int .u16 x) ∧ w'.cell? ⟨B, 1, none⟩ = some (.int .u16 y) ∧ w'.cell? ⟨B, 2, none⟩ = some (.int .u16 c) from fun w' G' ha =>
    ⟨(k1.adv ha o.zero).m, ha.cell_some (p := ⟨B, 0, none⟩) e0 (by show ¬ S3 i j q (G1 B); rw [gB]; exact o.zero), ha.cell_some (p := ⟨B, 1, none⟩) e1 (by show ¬ S3 i j q (G1 B); rw [gB]; exact o.zero), ha.cell_some (p := ⟨B, 2, none⟩) e2 (by show ¬ S3 i j q (G1 B); rw [gB]; exact o.zero)⟩)
  clear ha1 t1 k1 hrow gB
  go_upto_region 1 with fail
  go_region_held3 (fun w' => w'.cell? ⟨K, 2, none⟩ = some (.pointer (some ⟨M, 0, none⟩)) ∧ w'.cell? ⟨B, 0, none⟩ = some (.int .u16 x) ∧ w'.cell? ⟨B, 1, none⟩ = some (.int .u16 y) ∧ w'.cell? ⟨B, 2, none⟩ = some (.int .u16 c)) (first | exact ⟨d2, e0, e1, e2⟩ | exact K2.out)
    ((go_at_call 201; refine (D1.out.plot o hm hn x y c hx0 hy0 hc0 hc1).mono ?_; rintro e w2 ⟨rfl, G2, ha2, t2⟩; have K2 := Lib.hid (HKK.out _ _ ((Adv.refl (S3 i j q) w1 G1).drew.trans ha2)); have A2 := Lib.hid (A1.out.drew.trans ha2); have T2 := Lib.hid t2; clear ha2 t2))
  go_wp2_with fail
  go_end0
  exact ⟨rfl, G2, A2.out, T2.out⟩
/-- What the closure of a primitive of one cell, or two, holds. -/
def OpCl (k : Nat) (w : World) (G : Nat → Nat) (c : Array Value) : Prop := ∃ B, c = #[.pointer (some ⟨B, 0, none⟩)] ∧ w.cell? ⟨B, 0, none⟩ = some (.int .i64 k) ∧ G B = 0
theorem OpCl.adv {k : Nat} {S : Nat → Prop} {w w' : World} {G G' : Nat → Nat} {c : Array Value} (h : OpCl k w G c) (ha : Adv S w G w' G') (hs : ¬ S 0) : OpCl k w' G' c := by
  obtain ⟨B, h1, h2, h3⟩ := h
  exact ⟨B, h1, ha.cell_some h2 (by rw [h3]; exact hs), (ha.own _ (World.block_lt_of_cell? w _ h2)).trans h3⟩
theorem op_keeps (k : Nat) : Keeps (OpCl k) := fun _ _ _ _ _ _ h ha hs => h.adv ha hs
set_option maxRecDepth 100000 in
set_option maxHeartbeats 1000000 in
theorem one_act (k : Nat) (x y : Int) (B : Nat) (hu : ∀ w, Calls Tryz.prog 155 #[.int .i64 k, .int .u16 x] w fun e w' => e = .returned (.tuple #[.int .u16 y, .bool true]) ∧ w = w') (o : Own3 i j q) (hroom : b.length + 1 ≤ 256)
    (hB : w.cell? ⟨B, 0, none⟩ = some (.int .i64 k)) (hG : G B = 0) (h : Trio w G i j q D R M (b ++ [x]) r m) (hk : Desk w G K D R (some ⟨M, 0, none⟩)) :
    Calls Tryz.prog 174 #[.pointer (some ⟨K, 0, none⟩), .pointer (some ⟨B, 0, none⟩)] w (Left3 i j q D R M w G (b ++ [y]) r m (.tuple #[])) := by
  have HD := Lib.hid h.drew
  have HK := Lib.hid hk
  have HU := Lib.hid hu
  have HG := Lib.hid hG
  have c0 := hk.d
  clear h hk hu hG
  go_enter Tryz.func174, Tryz.ntmps174
  go_upto_region 0 with fail
  go_region_held3 (fun w' => w'.cell? ⟨K, 0, none⟩ = some (.pointer (some ⟨D, 0, none⟩)) ∧ w'.cell? ⟨B, 0, none⟩ = some (.int .i64 k)) (first | exact ⟨c0, hB⟩ | exact K1.out)
    (first | (go_at_call 147; refine (HD.out.pop o).mono ?_; rintro e w1 ⟨rfl, G1, ha1, t1⟩; have A1 := Lib.hid ((Adv.refl (S3 i j q) w G).drew.trans ha1); have T1 := Lib.hid t1; have K1 := Lib.hid (And.intro (HK.out.adv A1.out o.zero).d (A1.out.cell_some (p := ⟨B, 0, none⟩) hB (by show ¬ S3 i j q (G B); rw [HG.out]; exact o.zero))); clear ha1 t1) | (go_at_call 155; refine (HU.out _).mono ?_; rintro e w2 ⟨rfl, rfl⟩))
  obtain ⟨d0, -⟩ := K1.out
  go_wp2_with fail
  refine ((T1.out.alloc (.cells #[.int .u16 y] 31) 0).push o (l := [y]) _ 1 1 rfl hroom (Reads.new w1 (cellsU [y]) 31)).mono ?_
  rintro e w2 ⟨rfl, G2, ha2, t2⟩; have A2 := Lib.hid ((A1.out.alloc (.cells #[.int .u16 y] 31) 0).trans ha2); have T2 := Lib.hid t2; have K2 := Lib.hid ((HK.out.adv A2.out o.zero).dm); clear ha2 t2
  go_wp2_with fail
  go_end0
  exact ⟨rfl, G2, A2.out, T2.out⟩
set_option maxRecDepth 100000 in
set_option maxHeartbeats 1000000 in
theorem two_act (k : Nat) (x y z : Int) (B : Nat) (hu : ∀ w, Calls Tryz.prog 157 #[.int .i64 k, .int .u16 x, .int .u16 y] w fun e w' => e = .returned (.tuple #[.int .u16 z, .bool true]) ∧ w = w') (o : Own3 i j q) (hroom : b.length + 1 ≤ 256)
    (hB : w.cell? ⟨B, 0, none⟩ = some (.int .i64 k)) (hG : G B = 0) (h : Trio w G i j q D R M (b ++ [x, y]) r m) (hk : Desk w G K D R (some ⟨M, 0, none⟩)) :
    Calls Tryz.prog 177 #[.pointer (some ⟨K, 0, none⟩), .pointer (some ⟨B, 0, none⟩)] w (Left3 i j q D R M w G (b ++ [z]) r m (.tuple #[])) := by
  have HT := Lib.hid h
  have HK := Lib.hid hk
  have HU := Lib.hid hu
  have HG := Lib.hid hG
  have c0 := hk.d
  rw [show b ++ [x, y] = (b ++ [x]) ++ [y] from by simp] at HT
  clear h hk hu hG
  go_enter Tryz.func177, Tryz.ntmps177
  go_wp2_with fail
  refine (HT.out.pop o).mono ?_
  rintro e w1 ⟨rfl, G1, ha1, t1⟩
  have A1 := Lib.hid ha1
  have D1 := Lib.hid t1.drew
  have d0 := (HK.out.adv ha1 o.zero).d
  have hB1 := ha1.cell_some (p := ⟨B, 0, none⟩) hB (by show ¬ S3 i j q (G B); rw [HG.out]; exact o.zero)
  clear ha1 t1
  go_upto_region 1 with fail
  go_region_held3 (fun w' => w'.cell? ⟨K, 0, none⟩ = some (.pointer (some ⟨D, 0, none⟩)) ∧ w'.cell? ⟨B, 0, none⟩ = some (.int .i64 k)) (first | exact ⟨d0, hB1⟩ | exact K2.out)
    (first | (go_at_call 147; refine (D1.out.pop o).mono ?_; rintro e w2 ⟨rfl, G2, ha2, t2⟩; have A2 := Lib.hid (A1.out.drew.trans ha2); have T2 := Lib.hid t2; have K2 := Lib.hid (And.intro (HK.out.adv A2.out o.zero).d (A2.out.cell_some (p := ⟨B, 0, none⟩) hB (by show ¬ S3 i j q (G B); rw [HG.out]; exact o.zero))); clear ha2 t2) | (go_at_call 157; refine (HU.out _).mono ?_; rintro e w3 ⟨rfl, rfl⟩))
  clear d0
  obtain ⟨d0, -⟩ := K2.out
  go_wp2_with fail
  refine ((T2.out.alloc (.cells #[.int .u16 z] 31) 0).push o (l := [z]) _ 1 1 rfl hroom (Reads.new w2 (cellsU [z]) 31)).mono ?_
  rintro e w3 ⟨rfl, G3, ha3, t3⟩; have A3 := Lib.hid ((A2.out.alloc (.cells #[.int .u16 z] 31) 0).trans ha3); have T3 := Lib.hid t3; have K3 := Lib.hid ((HK.out.adv A3.out o.zero).dm); clear ha3 t3
  go_wp2_with fail
  go_end0
  exact ⟨rfl, G3, A3.out, T3.out⟩
theorem shuf_act (n : Nat) (ps : List Nat) (t : List Int) (c : Array Value) (hn : t.length = n) (h0 : 0 < n) (h4 : n ≤ 100) (hps : ∀ p ∈ ps, p < n) (o : Own3 i j q) (hroom : b.length + ps.length ≤ 256) (hc : ShufCl n ps w G c)
    (h : Trio w G i j q D R M (b ++ t) r m) (hk : Desk w G K D R (some ⟨M, 0, none⟩)) :
    Calls Tryz.prog 178 (#[.pointer (some ⟨K, 0, none⟩)] ++ c) w (Left3 i j q D R M w G (b ++ picks t ps) r m (.tuple #[])) := by
  obtain ⟨B1, B2, la, lc, hcs, hB1, hG1, hB2, hG2, hla, hGl⟩ := hc
  subst hcs
  refine (shuffle_any G i D K R (some ⟨M, 0, none⟩) b t n hn h0 h4 ps hps hroom o.i0 B1 B2 la lc w h.pu hk hB1 hG1 hB2 hG2 hla hGl).mono fun e w' k => ?_
  obtain ⟨k1, G', k2, k3⟩ := k
  exact ⟨k1, G', k2.mono fun _ e => .inl e, k3, h.pr.adv k2 (Ne.symm o.ij), h.pm.adv k2 (Ne.symm o.iq)⟩
end
end Go.Proofs.YtdnalhjdmlkbmaaGreatDoor
namespace Go.Proofs.YtdnalhjdmlkbmaaGreatDoor
open Go.RowKit

theorem opCl_new (w : World) (G : Nat → Nat) (k : Nat) : Adv (fun _ => False) w G (w.alloc (.cells #[.int .i64 k] 3)) (own1 w G 0) ∧ OpCl k (w.alloc (.cells #[.int .i64 k] 3)) (own1 w G 0) #[.pointer (some ⟨w.heap.size, 0, none⟩)] :=
  ⟨(Adv.refl _ w G).alloc _ 0, w.heap.size, rfl, block_cell (heap_alloc_new w _) 0 _ rfl, own1_new _ _ _⟩

set_option maxRecDepth 100000 in
theorem does_28 : DoesIs 28 174 (OpCl 28) := by
  intro G w
  have hmf : ∀ (fn : Fn) (first cap : Array Value) (w : World), (Instr.makeFunc fn first cap).run Tryz.prog w = .ok (.func fn first cap) w := fun _ _ _ _ => rfl
  go_enter Tryz.func123, Tryz.ntmps123
  go_wp2_with (first | (go_at_call 155; refine (unary_28 0 (by decide) (by decide) _).mono ?_; rintro e w' ⟨rfl, rfl⟩) | (go_at_call 156; go_in))
  go_ret
  obtain ⟨h1, h2⟩ := opCl_new w G 28
  exact ⟨_, _, rfl, h1, h2⟩
set_option maxRecDepth 100000 in
theorem does_29 : DoesIs 29 174 (OpCl 29) := by
  intro G w
  have hmf : ∀ (fn : Fn) (first cap : Array Value) (w : World), (Instr.makeFunc fn first cap).run Tryz.prog w = .ok (.func fn first cap) w := fun _ _ _ _ => rfl
  go_enter Tryz.func123, Tryz.ntmps123
  go_wp2_with (first | (go_at_call 155; refine (unary_29 0 (by decide) (by decide) _).mono ?_; rintro e w' ⟨rfl, rfl⟩) | (go_at_call 156; go_in))
  go_ret
  obtain ⟨h1, h2⟩ := opCl_new w G 29
  exact ⟨_, _, rfl, h1, h2⟩
set_option maxRecDepth 100000 in
theorem does_32 : DoesIs 32 174 (OpCl 32) := by
  intro G w
  have hmf : ∀ (fn : Fn) (first cap : Array Value) (w : World), (Instr.makeFunc fn first cap).run Tryz.prog w = .ok (.func fn first cap) w := fun _ _ _ _ => rfl
  go_enter Tryz.func123, Tryz.ntmps123
  go_wp2_with (first | (go_at_call 155; refine (unary_32 0 (by decide) (by decide) _).mono ?_; rintro e w' ⟨rfl, rfl⟩) | (go_at_call 156; go_in))
  go_ret
  obtain ⟨h1, h2⟩ := opCl_new w G 32
  exact ⟨_, _, rfl, h1, h2⟩
set_option maxRecDepth 100000 in
theorem does_33 : DoesIs 33 174 (OpCl 33) := by
  intro G w
  have hmf : ∀ (fn : Fn) (first cap : Array Value) (w : World), (Instr.makeFunc fn first cap).run Tryz.prog w = .ok (.func fn first cap) w := fun _ _ _ _ => rfl
  go_enter Tryz.func123, Tryz.ntmps123
  go_wp2_with (first | (go_at_call 155; refine (unary_33 0 (by decide) (by decide) _).mono ?_; rintro e w' ⟨rfl, rfl⟩) | (go_at_call 156; go_in))
  go_ret
  obtain ⟨h1, h2⟩ := opCl_new w G 33
  exact ⟨_, _, rfl, h1, h2⟩
set_option maxRecDepth 100000 in
theorem does_34 : DoesIs 34 174 (OpCl 34) := by
  intro G w
  have hmf : ∀ (fn : Fn) (first cap : Array Value) (w : World), (Instr.makeFunc fn first cap).run Tryz.prog w = .ok (.func fn first cap) w := fun _ _ _ _ => rfl
  go_enter Tryz.func123, Tryz.ntmps123
  go_wp2_with (first | (go_at_call 155; refine (unary_34 0 (by decide) (by decide) _).mono ?_; rintro e w' ⟨rfl, rfl⟩) | (go_at_call 156; go_in))
  go_ret
  obtain ⟨h1, h2⟩ := opCl_new w G 34
  exact ⟨_, _, rfl, h1, h2⟩
set_option maxRecDepth 100000 in
theorem does_35 : DoesIs 35 174 (OpCl 35) := by
  intro G w
  have hmf : ∀ (fn : Fn) (first cap : Array Value) (w : World), (Instr.makeFunc fn first cap).run Tryz.prog w = .ok (.func fn first cap) w := fun _ _ _ _ => rfl
  go_enter Tryz.func123, Tryz.ntmps123
  go_wp2_with (first | (go_at_call 155; refine (unary_35 0 (by decide) (by decide) _).mono ?_; rintro e w' ⟨rfl, rfl⟩) | (go_at_call 156; go_in))
  go_ret
  obtain ⟨h1, h2⟩ := opCl_new w G 35
  exact ⟨_, _, rfl, h1, h2⟩
set_option maxRecDepth 100000 in
theorem does_39 : DoesIs 39 174 (OpCl 39) := by
  intro G w
  have hmf : ∀ (fn : Fn) (first cap : Array Value) (w : World), (Instr.makeFunc fn first cap).run Tryz.prog w = .ok (.func fn first cap) w := fun _ _ _ _ => rfl
  go_enter Tryz.func123, Tryz.ntmps123
  go_wp2_with (first | (go_at_call 155; refine (unary_39 0 (by decide) (by decide) _).mono ?_; rintro e w' ⟨rfl, rfl⟩) | (go_at_call 156; go_in))
  go_ret
  obtain ⟨h1, h2⟩ := opCl_new w G 39
  exact ⟨_, _, rfl, h1, h2⟩
set_option maxRecDepth 100000 in
theorem does_48 : DoesIs 48 174 (OpCl 48) := by
  intro G w
  have hmf : ∀ (fn : Fn) (first cap : Array Value) (w : World), (Instr.makeFunc fn first cap).run Tryz.prog w = .ok (.func fn first cap) w := fun _ _ _ _ => rfl
  go_enter Tryz.func123, Tryz.ntmps123
  go_wp2_with (first | (go_at_call 155; refine (unary_48 0 (by decide) (by decide) _).mono ?_; rintro e w' ⟨rfl, rfl⟩) | (go_at_call 156; go_in))
  go_ret
  obtain ⟨h1, h2⟩ := opCl_new w G 48
  exact ⟨_, _, rfl, h1, h2⟩
set_option maxRecDepth 100000 in
theorem does_49 : DoesIs 49 174 (OpCl 49) := by
  intro G w
  have hmf : ∀ (fn : Fn) (first cap : Array Value) (w : World), (Instr.makeFunc fn first cap).run Tryz.prog w = .ok (.func fn first cap) w := fun _ _ _ _ => rfl
  go_enter Tryz.func123, Tryz.ntmps123
  go_wp2_with (first | (go_at_call 155; refine (unary_49 0 (by decide) (by decide) _).mono ?_; rintro e w' ⟨rfl, rfl⟩) | (go_at_call 156; go_in))
  go_ret
  obtain ⟨h1, h2⟩ := opCl_new w G 49
  exact ⟨_, _, rfl, h1, h2⟩
set_option maxRecDepth 100000 in
theorem does_21 : DoesIs 21 177 (OpCl 21) := by
  intro G w
  have hmf : ∀ (fn : Fn) (first cap : Array Value) (w : World), (Instr.makeFunc fn first cap).run Tryz.prog w = .ok (.func fn first cap) w := fun _ _ _ _ => rfl
  go_enter Tryz.func123, Tryz.ntmps123
  go_wp2_with (first | (go_at_call 155; refine (unary_no21 _ _).mono ?_; rintro e w' ⟨rfl, rfl⟩) | (go_at_call 157; refine (binary_21 0 0 (by decide) (by decide) (by decide) (by decide) _).mono ?_; rintro e w' ⟨rfl, rfl⟩) | (go_at_call 158; go_in))
  go_ret
  obtain ⟨h1, h2⟩ := opCl_new w G 21
  exact ⟨_, _, rfl, h1, h2⟩
set_option maxRecDepth 100000 in
theorem does_22 : DoesIs 22 177 (OpCl 22) := by
  intro G w
  have hmf : ∀ (fn : Fn) (first cap : Array Value) (w : World), (Instr.makeFunc fn first cap).run Tryz.prog w = .ok (.func fn first cap) w := fun _ _ _ _ => rfl
  go_enter Tryz.func123, Tryz.ntmps123
  go_wp2_with (first | (go_at_call 155; refine (unary_no22 _ _).mono ?_; rintro e w' ⟨rfl, rfl⟩) | (go_at_call 157; refine (binary_22 0 0 (by decide) (by decide) (by decide) (by decide) _).mono ?_; rintro e w' ⟨rfl, rfl⟩) | (go_at_call 158; go_in))
  go_ret
  obtain ⟨h1, h2⟩ := opCl_new w G 22
  exact ⟨_, _, rfl, h1, h2⟩
set_option maxRecDepth 100000 in
theorem does_23 : DoesIs 23 177 (OpCl 23) := by
  intro G w
  have hmf : ∀ (fn : Fn) (first cap : Array Value) (w : World), (Instr.makeFunc fn first cap).run Tryz.prog w = .ok (.func fn first cap) w := fun _ _ _ _ => rfl
  go_enter Tryz.func123, Tryz.ntmps123
  go_wp2_with (first | (go_at_call 155; refine (unary_no23 _ _).mono ?_; rintro e w' ⟨rfl, rfl⟩) | (go_at_call 157; refine (binary_23 0 0 (by decide) (by decide) (by decide) (by decide) _).mono ?_; rintro e w' ⟨rfl, rfl⟩) | (go_at_call 158; go_in))
  go_ret
  obtain ⟨h1, h2⟩ := opCl_new w G 23
  exact ⟨_, _, rfl, h1, h2⟩
set_option maxRecDepth 100000 in
theorem does_24 : DoesIs 24 177 (OpCl 24) := by
  intro G w
  have hmf : ∀ (fn : Fn) (first cap : Array Value) (w : World), (Instr.makeFunc fn first cap).run Tryz.prog w = .ok (.func fn first cap) w := fun _ _ _ _ => rfl
  go_enter Tryz.func123, Tryz.ntmps123
  go_wp2_with (first | (go_at_call 155; refine (unary_no24 _ _).mono ?_; rintro e w' ⟨rfl, rfl⟩) | (go_at_call 157; refine (binary_24 0 0 (by decide) (by decide) (by decide) (by decide) _).mono ?_; rintro e w' ⟨rfl, rfl⟩) | (go_at_call 158; go_in))
  go_ret
  obtain ⟨h1, h2⟩ := opCl_new w G 24
  exact ⟨_, _, rfl, h1, h2⟩
set_option maxRecDepth 100000 in
theorem does_25 : DoesIs 25 177 (OpCl 25) := by
  intro G w
  have hmf : ∀ (fn : Fn) (first cap : Array Value) (w : World), (Instr.makeFunc fn first cap).run Tryz.prog w = .ok (.func fn first cap) w := fun _ _ _ _ => rfl
  go_enter Tryz.func123, Tryz.ntmps123
  go_wp2_with (first | (go_at_call 155; refine (unary_no25 _ _).mono ?_; rintro e w' ⟨rfl, rfl⟩) | (go_at_call 157; refine (binary_25 0 0 (by decide) (by decide) (by decide) (by decide) _).mono ?_; rintro e w' ⟨rfl, rfl⟩) | (go_at_call 158; go_in))
  go_ret
  obtain ⟨h1, h2⟩ := opCl_new w G 25
  exact ⟨_, _, rfl, h1, h2⟩
set_option maxRecDepth 100000 in
theorem does_26 : DoesIs 26 177 (OpCl 26) := by
  intro G w
  have hmf : ∀ (fn : Fn) (first cap : Array Value) (w : World), (Instr.makeFunc fn first cap).run Tryz.prog w = .ok (.func fn first cap) w := fun _ _ _ _ => rfl
  go_enter Tryz.func123, Tryz.ntmps123
  go_wp2_with (first | (go_at_call 155; refine (unary_no26 _ _).mono ?_; rintro e w' ⟨rfl, rfl⟩) | (go_at_call 157; refine (binary_26 0 0 (by decide) (by decide) (by decide) (by decide) _).mono ?_; rintro e w' ⟨rfl, rfl⟩) | (go_at_call 158; go_in))
  go_ret
  obtain ⟨h1, h2⟩ := opCl_new w G 26
  exact ⟨_, _, rfl, h1, h2⟩
set_option maxRecDepth 100000 in
theorem does_27 : DoesIs 27 177 (OpCl 27) := by
  intro G w
  have hmf : ∀ (fn : Fn) (first cap : Array Value) (w : World), (Instr.makeFunc fn first cap).run Tryz.prog w = .ok (.func fn first cap) w := fun _ _ _ _ => rfl
  go_enter Tryz.func123, Tryz.ntmps123
  go_wp2_with (first | (go_at_call 155; refine (unary_no27 _ _).mono ?_; rintro e w' ⟨rfl, rfl⟩) | (go_at_call 157; refine (binary_27 0 0 (by decide) (by decide) (by decide) (by decide) _).mono ?_; rintro e w' ⟨rfl, rfl⟩) | (go_at_call 158; go_in))
  go_ret
  obtain ⟨h1, h2⟩ := opCl_new w G 27
  exact ⟨_, _, rfl, h1, h2⟩
set_option maxRecDepth 100000 in
theorem does_30 : DoesIs 30 177 (OpCl 30) := by
  intro G w
  have hmf : ∀ (fn : Fn) (first cap : Array Value) (w : World), (Instr.makeFunc fn first cap).run Tryz.prog w = .ok (.func fn first cap) w := fun _ _ _ _ => rfl
  go_enter Tryz.func123, Tryz.ntmps123
  go_wp2_with (first | (go_at_call 155; refine (unary_no30 _ _).mono ?_; rintro e w' ⟨rfl, rfl⟩) | (go_at_call 157; refine (binary_30 0 0 (by decide) (by decide) (by decide) (by decide) _).mono ?_; rintro e w' ⟨rfl, rfl⟩) | (go_at_call 158; go_in))
  go_ret
  obtain ⟨h1, h2⟩ := opCl_new w G 30
  exact ⟨_, _, rfl, h1, h2⟩
set_option maxRecDepth 100000 in
theorem does_31 : DoesIs 31 177 (OpCl 31) := by
  intro G w
  have hmf : ∀ (fn : Fn) (first cap : Array Value) (w : World), (Instr.makeFunc fn first cap).run Tryz.prog w = .ok (.func fn first cap) w := fun _ _ _ _ => rfl
  go_enter Tryz.func123, Tryz.ntmps123
  go_wp2_with (first | (go_at_call 155; refine (unary_no31 _ _).mono ?_; rintro e w' ⟨rfl, rfl⟩) | (go_at_call 157; refine (binary_31 0 0 (by decide) (by decide) (by decide) (by decide) _).mono ?_; rintro e w' ⟨rfl, rfl⟩) | (go_at_call 158; go_in))
  go_ret
  obtain ⟨h1, h2⟩ := opCl_new w G 31
  exact ⟨_, _, rfl, h1, h2⟩
set_option maxRecDepth 100000 in
theorem does_36 : DoesIs 36 177 (OpCl 36) := by
  intro G w
  have hmf : ∀ (fn : Fn) (first cap : Array Value) (w : World), (Instr.makeFunc fn first cap).run Tryz.prog w = .ok (.func fn first cap) w := fun _ _ _ _ => rfl
  go_enter Tryz.func123, Tryz.ntmps123
  go_wp2_with (first | (go_at_call 155; refine (unary_no36 _ _).mono ?_; rintro e w' ⟨rfl, rfl⟩) | (go_at_call 157; refine (binary_36 0 0 (by decide) (by decide) (by decide) (by decide) _).mono ?_; rintro e w' ⟨rfl, rfl⟩) | (go_at_call 158; go_in))
  go_ret
  obtain ⟨h1, h2⟩ := opCl_new w G 36
  exact ⟨_, _, rfl, h1, h2⟩
set_option maxRecDepth 100000 in
theorem does_37 : DoesIs 37 177 (OpCl 37) := by
  intro G w
  have hmf : ∀ (fn : Fn) (first cap : Array Value) (w : World), (Instr.makeFunc fn first cap).run Tryz.prog w = .ok (.func fn first cap) w := fun _ _ _ _ => rfl
  go_enter Tryz.func123, Tryz.ntmps123
  go_wp2_with (first | (go_at_call 155; refine (unary_no37 _ _).mono ?_; rintro e w' ⟨rfl, rfl⟩) | (go_at_call 157; refine (binary_37 0 0 (by decide) (by decide) (by decide) (by decide) _).mono ?_; rintro e w' ⟨rfl, rfl⟩) | (go_at_call 158; go_in))
  go_ret
  obtain ⟨h1, h2⟩ := opCl_new w G 37
  exact ⟨_, _, rfl, h1, h2⟩
set_option maxRecDepth 100000 in
theorem does_38 : DoesIs 38 177 (OpCl 38) := by
  intro G w
  have hmf : ∀ (fn : Fn) (first cap : Array Value) (w : World), (Instr.makeFunc fn first cap).run Tryz.prog w = .ok (.func fn first cap) w := fun _ _ _ _ => rfl
  go_enter Tryz.func123, Tryz.ntmps123
  go_wp2_with (first | (go_at_call 155; refine (unary_no38 _ _).mono ?_; rintro e w' ⟨rfl, rfl⟩) | (go_at_call 157; refine (binary_38 0 0 (by decide) (by decide) (by decide) (by decide) _).mono ?_; rintro e w' ⟨rfl, rfl⟩) | (go_at_call 158; go_in))
  go_ret
  obtain ⟨h1, h2⟩ := opCl_new w G 38
  exact ⟨_, _, rfl, h1, h2⟩
set_option maxRecDepth 100000 in
theorem does_40 : DoesIs 40 177 (OpCl 40) := by
  intro G w
  have hmf : ∀ (fn : Fn) (first cap : Array Value) (w : World), (Instr.makeFunc fn first cap).run Tryz.prog w = .ok (.func fn first cap) w := fun _ _ _ _ => rfl
  go_enter Tryz.func123, Tryz.ntmps123
  go_wp2_with (first | (go_at_call 155; refine (unary_no40 _ _).mono ?_; rintro e w' ⟨rfl, rfl⟩) | (go_at_call 157; refine (binary_40 0 0 (by decide) (by decide) (by decide) (by decide) _).mono ?_; rintro e w' ⟨rfl, rfl⟩) | (go_at_call 158; go_in))
  go_ret
  obtain ⟨h1, h2⟩ := opCl_new w G 40
  exact ⟨_, _, rfl, h1, h2⟩
set_option maxRecDepth 100000 in
theorem does_41 : DoesIs 41 177 (OpCl 41) := by
  intro G w
  have hmf : ∀ (fn : Fn) (first cap : Array Value) (w : World), (Instr.makeFunc fn first cap).run Tryz.prog w = .ok (.func fn first cap) w := fun _ _ _ _ => rfl
  go_enter Tryz.func123, Tryz.ntmps123
  go_wp2_with (first | (go_at_call 155; refine (unary_no41 _ _).mono ?_; rintro e w' ⟨rfl, rfl⟩) | (go_at_call 157; refine (binary_41 0 0 (by decide) (by decide) (by decide) (by decide) _).mono ?_; rintro e w' ⟨rfl, rfl⟩) | (go_at_call 158; go_in))
  go_ret
  obtain ⟨h1, h2⟩ := opCl_new w G 41
  exact ⟨_, _, rfl, h1, h2⟩
set_option maxRecDepth 100000 in
theorem does_42 : DoesIs 42 177 (OpCl 42) := by
  intro G w
  have hmf : ∀ (fn : Fn) (first cap : Array Value) (w : World), (Instr.makeFunc fn first cap).run Tryz.prog w = .ok (.func fn first cap) w := fun _ _ _ _ => rfl
  go_enter Tryz.func123, Tryz.ntmps123
  go_wp2_with (first | (go_at_call 155; refine (unary_no42 _ _).mono ?_; rintro e w' ⟨rfl, rfl⟩) | (go_at_call 157; refine (binary_42 0 0 (by decide) (by decide) (by decide) (by decide) _).mono ?_; rintro e w' ⟨rfl, rfl⟩) | (go_at_call 158; go_in))
  go_ret
  obtain ⟨h1, h2⟩ := opCl_new w G 42
  exact ⟨_, _, rfl, h1, h2⟩
set_option maxRecDepth 100000 in
theorem does_43 : DoesIs 43 177 (OpCl 43) := by
  intro G w
  have hmf : ∀ (fn : Fn) (first cap : Array Value) (w : World), (Instr.makeFunc fn first cap).run Tryz.prog w = .ok (.func fn first cap) w := fun _ _ _ _ => rfl
  go_enter Tryz.func123, Tryz.ntmps123
  go_wp2_with (first | (go_at_call 155; refine (unary_no43 _ _).mono ?_; rintro e w' ⟨rfl, rfl⟩) | (go_at_call 157; refine (binary_43 0 0 (by decide) (by decide) (by decide) (by decide) _).mono ?_; rintro e w' ⟨rfl, rfl⟩) | (go_at_call 158; go_in))
  go_ret
  obtain ⟨h1, h2⟩ := opCl_new w G 43
  exact ⟨_, _, rfl, h1, h2⟩
set_option maxRecDepth 100000 in
theorem does_44 : DoesIs 44 177 (OpCl 44) := by
  intro G w
  have hmf : ∀ (fn : Fn) (first cap : Array Value) (w : World), (Instr.makeFunc fn first cap).run Tryz.prog w = .ok (.func fn first cap) w := fun _ _ _ _ => rfl
  go_enter Tryz.func123, Tryz.ntmps123
  go_wp2_with (first | (go_at_call 155; refine (unary_no44 _ _).mono ?_; rintro e w' ⟨rfl, rfl⟩) | (go_at_call 157; refine (binary_44 0 0 (by decide) (by decide) (by decide) (by decide) _).mono ?_; rintro e w' ⟨rfl, rfl⟩) | (go_at_call 158; go_in))
  go_ret
  obtain ⟨h1, h2⟩ := opCl_new w G 44
  exact ⟨_, _, rfl, h1, h2⟩
set_option maxRecDepth 100000 in
theorem does_45 : DoesIs 45 177 (OpCl 45) := by
  intro G w
  have hmf : ∀ (fn : Fn) (first cap : Array Value) (w : World), (Instr.makeFunc fn first cap).run Tryz.prog w = .ok (.func fn first cap) w := fun _ _ _ _ => rfl
  go_enter Tryz.func123, Tryz.ntmps123
  go_wp2_with (first | (go_at_call 155; refine (unary_no45 _ _).mono ?_; rintro e w' ⟨rfl, rfl⟩) | (go_at_call 157; refine (binary_45 0 0 (by decide) (by decide) (by decide) (by decide) _).mono ?_; rintro e w' ⟨rfl, rfl⟩) | (go_at_call 158; go_in))
  go_ret
  obtain ⟨h1, h2⟩ := opCl_new w G 45
  exact ⟨_, _, rfl, h1, h2⟩
set_option maxRecDepth 100000 in
theorem does_46 : DoesIs 46 177 (OpCl 46) := by
  intro G w
  have hmf : ∀ (fn : Fn) (first cap : Array Value) (w : World), (Instr.makeFunc fn first cap).run Tryz.prog w = .ok (.func fn first cap) w := fun _ _ _ _ => rfl
  go_enter Tryz.func123, Tryz.ntmps123
  go_wp2_with (first | (go_at_call 155; refine (unary_no46 _ _).mono ?_; rintro e w' ⟨rfl, rfl⟩) | (go_at_call 157; refine (binary_46 0 0 (by decide) (by decide) (by decide) (by decide) _).mono ?_; rintro e w' ⟨rfl, rfl⟩) | (go_at_call 158; go_in))
  go_ret
  obtain ⟨h1, h2⟩ := opCl_new w G 46
  exact ⟨_, _, rfl, h1, h2⟩
set_option maxRecDepth 100000 in
theorem does_47 : DoesIs 47 177 (OpCl 47) := by
  intro G w
  have hmf : ∀ (fn : Fn) (first cap : Array Value) (w : World), (Instr.makeFunc fn first cap).run Tryz.prog w = .ok (.func fn first cap) w := fun _ _ _ _ => rfl
  go_enter Tryz.func123, Tryz.ntmps123
  go_wp2_with (first | (go_at_call 155; refine (unary_no47 _ _).mono ?_; rintro e w' ⟨rfl, rfl⟩) | (go_at_call 157; refine (binary_47 0 0 (by decide) (by decide) (by decide) (by decide) _).mono ?_; rintro e w' ⟨rfl, rfl⟩) | (go_at_call 158; go_in))
  go_ret
  obtain ⟨h1, h2⟩ := opCl_new w G 47
  exact ⟨_, _, rfl, h1, h2⟩
end Go.Proofs.YtdnalhjdmlkbmaaGreatDoor
namespace Go.Proofs.YtdnalhjdmlkbmaaGreatDoor
open Go.RowKit

set_option maxRecDepth 100000 in
/-- Too few cells, or no room for what is left. -/
theorem do_need (G : Nat → Nat) (k : Nat) (hk : k < 64) (hpl : plainB k = true) (f : Nat) (Cl : World → (Nat → Nat) → Array Value → Prop) (hd : DoesIs k f Cl) (hcl : Keeps Cl)
    (i D : Nat) (R M : Addr) (l : List Int) (hl : l.length ≤ 256) (hneed : (needF l.length (takesN k) (leavesN k) != 0) = true) (w : World) (ht : Tabs w G) (hp : PU w G i D l) :
    Calls Tryz.prog 23 #[.int .i64 k, .pointer (some ⟨D, 0, none⟩), .pointer (some R), .pointer (some M)] w fun e w' => e = .returned (.int .i64 (needF l.length (takesN k) (leavesN k))) ∧ ∃ G', Adv (fun _ => False) w G w' G' := by
  have b1 := takes_le k hk
  have b2 := leaves_le k hk
  have HPL := Lib.hid hpl
  have HT := Lib.hid ht
  have HP := Lib.hid hp
  have HCL := Lib.hid hcl
  clear ht hp hcl hpl
  obtain ⟨F, hF⟩ : ∃ F, F = needF l.length (takesN k) (leavesN k) := ⟨_, rfl⟩
  rw [← hF] at hneed ⊢
  have HF := Lib.hid hF
  clear hF
  go_enter Tryz.func23, Tryz.ntmps23
  go_wp2_with fail
  refine (plain_any k _).mono ?_
  rintro e w' ⟨rfl, rfl⟩
  rw [HPL.out]
  go_wp2_with fail
  refine (entry_any G k hk f Cl hd HCL.out _ HT.out).mono ?_
  rintro e w1 ⟨c, G1, rfl, ha1, hc1⟩
  unfold entryV
  have HA2 := Lib.hid (ha1.alloc (.cells #[.int .i64 k, .string (nameB k), .int .i64 (takesN k), .int .i64 (leavesN k), .int .i64 (costsN k), .bool (operandB k), .func (.func f) #[] c] 174) 1000)
  have HP2 := Lib.hid (HP.out.adv HA2.out id)
  clear ha1 hc1
  go_wp2_with fail
  refine (needPU _ i D l (takesN k) (leavesN k) _ HP2.out (by omega) (by omega) (by omega)).mono ?_
  rintro e w' ⟨rfl, rfl⟩
  rw [← HF.out]
  go_wp2_with fail
  go_ret
  exact ⟨rfl, _, HA2.out⟩
set_option maxRecDepth 100000 in
/-- The return stack does not hold what the primitive looks at. -/
theorem do_looks (G : Nat → Nat) (k : Nat) (hk : k < 64) (hpl : plainB k = true) (f : Nat) (Cl : World → (Nat → Nat) → Array Value → Prop) (hd : DoesIs k f Cl) (hcl : Keeps Cl)
    (i j D R : Nat) (M : Addr) (l : List Int) (rl : List (Int × Int)) (hl : l.length ≤ 256) (hrl : rl.length ≤ 128) (hneed : needF l.length (takesN k) (leavesN k) = 0) (hlooks : (looksF k rl != 0) = true) (w : World) (ht : Tabs w G) (hp : PU w G i D l) (hr : PR w G j R rl) :
    Calls Tryz.prog 23 #[.int .i64 k, .pointer (some ⟨D, 0, none⟩), .pointer (some ⟨R, 0, none⟩), .pointer (some M)] w fun e w' => e = .returned (.int .i64 (looksF k rl)) ∧ ∃ G', Adv (fun _ => False) w G w' G' := by
  have b1 := takes_le k hk
  have b2 := leaves_le k hk
  have HPL := Lib.hid hpl
  have HT := Lib.hid ht
  have HP := Lib.hid hp
  have HR := Lib.hid hr
  have HN := Lib.hid hneed
  have HCL := Lib.hid hcl
  clear ht hp hr hcl hpl hneed
  obtain ⟨F, hF⟩ : ∃ F, F = looksF k rl := ⟨_, rfl⟩
  rw [← hF] at hlooks ⊢
  have HF := Lib.hid hF
  clear hF
  go_enter Tryz.func23, Tryz.ntmps23
  go_wp2_with fail
  refine (plain_any k _).mono ?_
  rintro e w' ⟨rfl, rfl⟩
  rw [HPL.out]
  go_wp2_with fail
  refine (entry_any G k hk f Cl hd HCL.out _ HT.out).mono ?_
  rintro e w1 ⟨c, G1, rfl, ha1, hc1⟩
  unfold entryV
  have HA2 := Lib.hid (ha1.alloc (.cells #[.int .i64 k, .string (nameB k), .int .i64 (takesN k), .int .i64 (leavesN k), .int .i64 (costsN k), .bool (operandB k), .func (.func f) #[] c] 174) 1000)
  have HP2 := Lib.hid (HP.out.adv HA2.out id)
  have HR2 := Lib.hid (HR.out.adv HA2.out id)
  clear ha1 hc1
  go_wp2_with fail
  refine (needPU _ i D l (takesN k) (leavesN k) _ HP2.out (by omega) (by omega) (by omega)).mono ?_
  rintro e w' ⟨rfl, rfl⟩
  rw [HN.out]
  go_wp2_with fail
  refine (looks_any _ j R rl k _ HR2.out (by omega)).mono ?_
  rintro e w' ⟨rfl, d, rfl⟩
  rw [← HF.out]
  go_wp2_with fail
  go_ret
  exact ⟨rfl, _, HA2.out.drewN d⟩
set_option maxRecDepth 100000 in
/-- No room on the return stack. -/
theorem do_full (G : Nat → Nat) (k : Nat) (hk : k < 64) (hpl : plainB k = true) (f : Nat) (Cl : World → (Nat → Nat) → Array Value → Prop) (hd : DoesIs k f Cl) (hcl : Keeps Cl)
    (i j D R : Nat) (M : Addr) (l : List Int) (rl : List (Int × Int)) (hl : l.length ≤ 256) (hrl : rl.length ≤ 128) (hneed : needF l.length (takesN k) (leavesN k) = 0) (hlooks : looksF k rl = 0) (hadds : 128 < (rl.length : Int) + addsF k) (w : World) (ht : Tabs w G) (hp : PU w G i D l) (hr : PR w G j R rl) :
    Calls Tryz.prog 23 #[.int .i64 k, .pointer (some ⟨D, 0, none⟩), .pointer (some ⟨R, 0, none⟩), .pointer (some M)] w fun e w' => e = .returned (.int .i64 4) ∧ ∃ G', Adv (fun _ => False) w G w' G' := by
  have b1 := takes_le k hk
  have b2 := leaves_le k hk
  have HPL := Lib.hid hpl
  have HT := Lib.hid ht
  have HP := Lib.hid hp
  have HR := Lib.hid hr
  have HN := Lib.hid hneed
  have HL := Lib.hid hlooks
  have HAD := Lib.hid hadds
  have HCL := Lib.hid hcl
  clear ht hp hr hcl hpl hneed hlooks hadds
  go_enter Tryz.func23, Tryz.ntmps23
  go_wp2_with fail
  refine (plain_any k _).mono ?_
  rintro e w' ⟨rfl, rfl⟩
  rw [HPL.out]
  go_wp2_with fail
  refine (entry_any G k hk f Cl hd HCL.out _ HT.out).mono ?_
  rintro e w1 ⟨c, G1, rfl, ha1, hc1⟩
  unfold entryV
  have HA2 := Lib.hid (ha1.alloc (.cells #[.int .i64 k, .string (nameB k), .int .i64 (takesN k), .int .i64 (leavesN k), .int .i64 (costsN k), .bool (operandB k), .func (.func f) #[] c] 174) 1000)
  have HP2 := Lib.hid (HP.out.adv HA2.out id)
  have HR2 := Lib.hid (HR.out.adv HA2.out id)
  clear ha1 hc1
  go_wp2_with fail
  refine (needPU _ i D l (takesN k) (leavesN k) _ HP2.out (by omega) (by omega) (by omega)).mono ?_
  rintro e w' ⟨rfl, rfl⟩
  rw [HN.out]
  go_wp2_with fail
  refine (looks_any _ j R rl k _ HR2.out (by omega)).mono ?_
  rintro e w' ⟨rfl, d, rfl⟩
  rw [HL.out]
  go_wp2_with fail
  refine (lenPR _ j R rl _ (HR2.out.drewN d)).mono ?_
  rintro e w' ⟨rfl, rfl⟩
  go_wp2_with fail
  refine (adds_any k _).mono ?_
  rintro e w' ⟨rfl, rfl⟩
  have hadd := HAD.out
  have hadd0 : 0 ≤ addsF k ∧ addsF k ≤ 2 := by unfold addsF; constructor <;> (repeat' split) <;> omega
  have hgt : decide (128 < (rl.length : Int) + addsF k) = true := by simp; omega
  go_wp2_with fail
  go_ret
  exact ⟨rfl, _, HA2.out.drewN d⟩
set_option maxRecDepth 100000 in
/-- No plain primitive, whatever the stacks. -/
theorem do_odd (x : Int) (hpl : plainB x = false) (d r m : Value) (w : World) :
    Calls Tryz.prog 23 #[.int .i64 x, d, r, m] w fun e w' => e = .returned (.int .i64 6) ∧ w = w' := by
  have HPL := Lib.hid hpl
  clear hpl
  go_enter Tryz.func23, Tryz.ntmps23
  go_wp2_with fail
  refine (plain_any x _).mono ?_
  rintro e w' ⟨rfl, rfl⟩
  rw [HPL.out]
  go_wp2_with fail
  go_ret
  exact ⟨rfl, rfl⟩
end Go.Proofs.YtdnalhjdmlkbmaaGreatDoor
namespace Go.Proofs.YtdnalhjdmlkbmaaGreatDoor
open Go.RowKit

def shufP (k : Nat) : List Nat :=
  match k with
  | 12 => [0, 0] | 14 => [1, 0] | 15 => [0, 1, 0] | 16 => [1, 2, 0] | 17 => [1] | 18 => [1, 0, 1] | 19 => [0, 1, 0, 1] | _ => []
/-- What a plain primitive does with the cells x that it has taken, b those below. -/
def actF (k : Nat) (b x : List Int) (r : List (Int × Int)) (m : MemS) : List Int × List (Int × Int) × MemS :=
  match k with
  | 6 => (b, r ++ [(2, x.getD 0 0), (3, x.getD 1 0)], m)
  | 9 => (b, r, m)
  | 12 => (b ++ picks x (shufP 12), r, m)
  | 13 => (b ++ picks x (shufP 13), r, m)
  | 14 => (b ++ picks x (shufP 14), r, m)
  | 15 => (b ++ picks x (shufP 15), r, m)
  | 16 => (b ++ picks x (shufP 16), r, m)
  | 17 => (b ++ picks x (shufP 17), r, m)
  | 18 => (b ++ picks x (shufP 18), r, m)
  | 19 => (b ++ picks x (shufP 19), r, m)
  | 20 => (b ++ picks x (shufP 20), r, m)
  | 21 => (b ++ [binF 21 (x.getD 0 0) (x.getD 1 0)], r, m)
  | 22 => (b ++ [binF 22 (x.getD 0 0) (x.getD 1 0)], r, m)
  | 23 => (b ++ [binF 23 (x.getD 0 0) (x.getD 1 0)], r, m)
  | 24 => (b ++ [binF 24 (x.getD 0 0) (x.getD 1 0)], r, m)
  | 25 => (b ++ [binF 25 (x.getD 0 0) (x.getD 1 0)], r, m)
  | 26 => (b ++ [binF 26 (x.getD 0 0) (x.getD 1 0)], r, m)
  | 27 => (b ++ [binF 27 (x.getD 0 0) (x.getD 1 0)], r, m)
  | 28 => (b ++ [unF 28 (x.getD 0 0)], r, m)
  | 29 => (b ++ [unF 29 (x.getD 0 0)], r, m)
  | 30 => (b ++ [binF 30 (x.getD 0 0) (x.getD 1 0)], r, m)
  | 31 => (b ++ [binF 31 (x.getD 0 0) (x.getD 1 0)], r, m)
  | 32 => (b ++ [unF 32 (x.getD 0 0)], r, m)
  | 33 => (b ++ [unF 33 (x.getD 0 0)], r, m)
  | 34 => (b ++ [unF 34 (x.getD 0 0)], r, m)
  | 35 => (b ++ [unF 35 (x.getD 0 0)], r, m)
  | 36 => (b ++ [binF 36 (x.getD 0 0) (x.getD 1 0)], r, m)
  | 37 => (b ++ [binF 37 (x.getD 0 0) (x.getD 1 0)], r, m)
  | 38 => (b ++ [binF 38 (x.getD 0 0) (x.getD 1 0)], r, m)
  | 39 => (b ++ [unF 39 (x.getD 0 0)], r, m)
  | 40 => (b ++ [binF 40 (x.getD 0 0) (x.getD 1 0)], r, m)
  | 41 => (b ++ [binF 41 (x.getD 0 0) (x.getD 1 0)], r, m)
  | 42 => (b ++ [binF 42 (x.getD 0 0) (x.getD 1 0)], r, m)
  | 43 => (b ++ [binF 43 (x.getD 0 0) (x.getD 1 0)], r, m)
  | 44 => (b ++ [binF 44 (x.getD 0 0) (x.getD 1 0)], r, m)
  | 45 => (b ++ [binF 45 (x.getD 0 0) (x.getD 1 0)], r, m)
  | 46 => (b ++ [binF 46 (x.getD 0 0) (x.getD 1 0)], r, m)
  | 47 => (b ++ [binF 47 (x.getD 0 0) (x.getD 1 0)], r, m)
  | 48 => (b ++ [unF 48 (x.getD 0 0)], r, m)
  | 49 => (b ++ [unF 49 (x.getD 0 0)], r, m)
  | 50 => (b ++ [cellF m (x.getD 0 0)], r, m)
  | 51 => (b, r, setCellF m (x.getD 1 0) (x.getD 0 0))
  | 52 => (b ++ [loadF m (x.getD 0 0)], r, m)
  | 53 => (b, r, storeF m (x.getD 1 0) (x.getD 0 0 % 256))
  | 54 => (b, r, setCellF m (x.getD 1 0) ((cellF m (x.getD 1 0) + x.getD 0 0) % 65536))
  | 55 => (b, r ++ [(4, x.getD 0 0)], m)
  | 56 => (b ++ [atV r 0 4], r.dropLast, m)
  | 57 => (b ++ [atV r 0 4], r, m)
  | 58 => (b ++ [atV r 0 3], r, m)
  | 59 => (b ++ [atV r 2 3], r, m)
  | 60 => (b, r, plotF m (x.getD 0 0) (x.getD 1 0) (x.getD 2 0))
  | 61 => (b ++ [m.pad], r, m)
  | 62 => (b, r, playF m (x.getD 0 0) (x.getD 1 0 % 256))
  | 63 => (b, r, storeF m 65280 (x.getD 0 0 % 256))
  | _ => (b, r, m)
/-- The fault of a primitive; 0: there is none. -/
def faultF (k : Nat) (d : List Int) (r : List (Int × Int)) : Int :=
  if needF d.length (takesN k) (leavesN k) ≠ 0 then needF d.length (takesN k) (leavesN k)
  else if looksF k r ≠ 0 then looksF k r else if 128 < (r.length : Int) + addsF k then 4 else 0
/-- Do, of a plain primitive. -/
def doF (k : Nat) (d : List Int) (r : List (Int × Int)) (m : MemS) : List Int × List (Int × Int) × MemS :=
  if faultF k d r ≠ 0 then (d, r, m) else actF k (d.take (d.length - (takesN k).toNat)) (d.drop (d.length - (takesN k).toNat)) r m
/-- Stacks and a memory that may be. -/
structure Good3 (d : List Int) (r : List (Int × Int)) (m : MemS) : Prop where
  d16 : D16 d
  r16 : R16 r
  dl : d.length ≤ 256
  rl : r.length ≤ 128
  mo : MemOk m
  mr : MemR m
theorem needF_ok {d : List Int} {p q : Int} (h : needF d.length p q = 0) (hp : 0 ≤ p) (hq : 0 ≤ q) : p ≤ d.length ∧ (d.length : Int) - p + q ≤ 256 := by
  unfold needF at h
  split at h
  · exact absurd h (by decide)
  · split at h
    · exact absurd h (by decide)
    · omega
theorem takes_len {d : List Int} {k : Nat} (hk : k < 64) (h : needF d.length (takesN k) (leavesN k) = 0) : (d.drop (d.length - (takesN k).toNat)).length = (takesN k).toNat ∧ ((d.take (d.length - (takesN k).toNat)).length : Int) + leavesN k ≤ 256 := by
  have h1 := takes_le k hk
  have h2 := leaves_le k hk
  have h3 := needF_ok h h1.1 h2.1
  rw [List.length_drop, List.length_take]
  omega
theorem atV_rng {r : List (Int × Int)} (h : R16 r) (n kind : Int) : 0 ≤ atV r n kind ∧ atV r n kind < 65536 := by
  unfold atV
  repeat' split
  · rename_i h1 _
    have hl : r.length - 1 - n.toNat < r.length := by omega
    have hm : r.getD (r.length - 1 - n.toNat) (0, 0) ∈ r := by rw [List.getD_eq_getElem?_getD, List.getElem?_eq_getElem hl]; exact List.getElem_mem hl
    exact h _ hm
  · exact ⟨Int.le_refl _, by decide⟩
  · exact ⟨Int.le_refl _, by decide⟩
theorem picks_rng {t : List Int} (h : D16 t) (ps : List Nat) : D16 (picks t ps) := by
  intro x hx
  unfold picks at hx
  obtain ⟨p, _, rfl⟩ := List.mem_map.1 hx
  rw [List.getD_eq_getElem?_getD]
  cases e : t[p]? with
  | none => exact ⟨Int.le_refl _, by decide⟩
  | some y => exact h y (List.mem_of_getElem? e)
theorem D16.getD {t : List Int} (h : D16 t) (k : Nat) : 0 ≤ t.getD k 0 ∧ t.getD k 0 < 65536 := by
  rw [List.getD_eq_getElem?_getD]
  cases e : t[k]? with
  | none => exact ⟨Int.le_refl _, by decide⟩
  | some y => exact h y (List.mem_of_getElem? e)
theorem D16.take {d : List Int} (h : D16 d) (n : Nat) : D16 (d.take n) := fun x hx => h x (List.mem_of_mem_take hx)
theorem D16.drop {d : List Int} (h : D16 d) (n : Nat) : D16 (d.drop n) := fun x hx => h x (List.mem_of_mem_drop hx)
theorem R16.init {r : List (Int × Int)} (h : R16 r) : R16 r.dropLast := fun x hx => h x (List.dropLast_subset _ hx)
theorem len1 {α : Type} {x : List α} (h : x.length = 1) : ∃ a, x = [a] := by
  match x, h with
  | [a], _ => exact ⟨a, rfl⟩
theorem len2 {α : Type} {x : List α} (h : x.length = 2) : ∃ a b, x = [a, b] := by
  match x, h with
  | [a, b], _ => exact ⟨a, b, rfl⟩
theorem len3 {α : Type} {x : List α} (h : x.length = 3) : ∃ a b c, x = [a, b, c] := by
  match x, h with
  | [a, b, c], _ => exact ⟨a, b, c, rfl⟩
theorem len0 {α : Type} {x : List α} (h : x.length = 0) : x = [] := List.eq_nil_of_length_eq_zero h
end Go.Proofs.YtdnalhjdmlkbmaaGreatDoor
namespace Go.Proofs.YtdnalhjdmlkbmaaGreatDoor
open Go.RowKit

/-- Do of this number is doF. -/
def DoIs (k : Nat) : Prop := ∀ (G : Nat → Nat) (i j q D R M : Nat) (d : List Int) (r : List (Int × Int)) (m : MemS) (_ : Own3 i j q) (_ : Good3 d r m) (_ : m.tones.length ≤ 99999) (w : World) (_ : Tabs w G) (_ : Trio w G i j q D R M d r m),
  Calls Tryz.prog 23 #[.int .i64 k, .pointer (some ⟨D, 0, none⟩), .pointer (some ⟨R, 0, none⟩), .pointer (some ⟨M, 0, none⟩)] w
    (Left3 i j q D R M w G (doF k d r m).1 (doF k d r m).2.1 (doF k d r m).2.2 (.int .i64 (faultF k d r)))
theorem nil_r {w : World} {G : Nat → Nat} {i j q D R M : Nat} {b : List Int} {r : List (Int × Int)} {m : MemS} (h : Trio w G i j q D R M (b ++ []) r m) : Trio w G i j q D R M b r m := by rw [List.append_nil] at h; exact h
/-- What stands on top, where At found it. -/
theorem top_of {r : List (Int × Int)} {kind : Int} (h : atE r 0 kind = 0) : ∃ r0 c, r = r0 ++ [(kind, c)] ∧ atV r 0 kind = c := by
  rcases List.eq_nil_or_concat r with rfl | ⟨r0, p, rfl⟩
  · exact absurd h (by rw [(at_out (by simp)).2]; decide)
  · rw [List.concat_eq_append] at h ⊢
    have hp : (r0 ++ [p])[r0.length]? = some p := by simp
    have h1 := atE_in (l := r0 ++ [p]) (j := 0) (k := r0.length) (kind := kind) (by simp) hp
    have h2 := atV_in (l := r0 ++ [p]) (j := 0) (k := r0.length) (kind := kind) (by simp) hp
    rw [show ((0 : Nat) : Int) = 0 from rfl] at h1 h2
    by_cases e : p.1 = kind
    · rw [if_pos e] at h2
      exact ⟨r0, p.2, by rw [← e], h2⟩
    · rw [if_neg e] at h1
      rw [h1] at h; exact absurd h (by decide)
/-- What the act of a primitive's function is to be. -/
def ActIs (k f : Nat) (Cl : World → (Nat → Nat) → Array Value → Prop) : Prop := ∀ (G : Nat → Nat) (i j q K D R M : Nat) (b x : List Int) (r : List (Int × Int)) (m : MemS) (c : Array Value) (_ : Own3 i j q) (_ : D16 x) (_ : R16 r) (_ : MemOk m) (_ : MemR m) (_ : m.tones.length ≤ 99999)
  (_ : x.length = (takesN k).toNat) (_ : (b.length : Int) + leavesN k ≤ 256) (_ : r.length ≤ 128) (_ : looksF k r = 0) (_ : (r.length : Int) + addsF k ≤ 128) (w : World) (_ : Cl w G c) (_ : Trio w G i j q D R M (b ++ x) r m) (_ : Desk w G K D R (some ⟨M, 0, none⟩)),
  Calls Tryz.prog f (#[.pointer (some ⟨K, 0, none⟩)] ++ c) w (Left3 i j q D R M w G (actF k b x r m).1 (actF k b x r m).2.1 (actF k b x r m).2.2 (.tuple #[]))
theorem do_is (k : Nat) (hk : k < 64) (hpl : plainB k = true) (f : Nat) (he : ∀ (args : Array Value) (w : World), (callFunc f args).run Tryz.prog w = .ok (.enter f args) w) (Cl : World → (Nat → Nat) → Array Value → Prop) (hd : DoesIs k f Cl) (hcl : Keeps Cl) (ha : ActIs k f Cl) : DoIs k := by
  intro G i j q D R M d r m o hg hn w ht h
  have hz := o.zero
  by_cases h1 : needF d.length (takesN k) (leavesN k) = 0
  · by_cases h2 : looksF k r = 0
    · by_cases h3 : 128 < (r.length : Int) + addsF k
      · have e : faultF k d r = 4 := by unfold faultF; rw [if_neg (by simpa using h1), if_neg (by simpa using h2), if_pos h3]
        have e2 : doF k d r m = (d, r, m) := by unfold doF; rw [if_pos (by rw [e]; decide)]
        rw [e, e2]
        refine (do_full G k hk hpl f Cl hd hcl i j D R ⟨M, 0, none⟩ d r hg.dl hg.rl h1 h2 h3 w ht h.pu h.pr).mono fun e w' k => ?_
        obtain ⟨k1, G', k2⟩ := k
        exact ⟨k1, G', k2.mono fun _ h => h.elim, h.still k2⟩
      · have e : faultF k d r = 0 := by unfold faultF; rw [if_neg (by simpa using h1), if_neg (by simpa using h2), if_neg h3]
        have e2 : doF k d r m = actF k (d.take (d.length - (takesN k).toNat)) (d.drop (d.length - (takesN k).toNat)) r m := by unfold doF; rw [if_neg (by rw [e]; simp)]
        have hl := takes_len hk h1
        rw [e, e2]
        refine do_ok G k hk hpl f he Cl hd hcl i j D R ⟨M, 0, none⟩ d r o.i0 o.j0 (S3 i j q) _ hg.dl hg.rl h1 h2 (by omega) w ht h.pu h.pr ?_
        intro w1 G1 K c a1 c1 k1
        refine ha G1 i j q K D R M _ _ r m c o (hg.d16.drop _) hg.r16 hg.mo hg.mr hn hl.1 hl.2 hg.rl h2 (by omega) w1 c1 ?_ k1
        rw [List.take_append_drop]
        exact h.still a1
    · have e : faultF k d r = looksF k r := by unfold faultF; rw [if_neg (by simpa using h1), if_pos h2]
      have e2 : doF k d r m = (d, r, m) := by unfold doF; rw [if_pos (by rw [e]; exact h2)]
      rw [e, e2]
      refine (do_looks G k hk hpl f Cl hd hcl i j D R ⟨M, 0, none⟩ d r hg.dl hg.rl h1 (by simpa using h2) w ht h.pu h.pr).mono fun e w' k => ?_
      obtain ⟨k1, G', k2⟩ := k
      exact ⟨k1, G', k2.mono fun _ h => h.elim, h.still k2⟩
  · have e : faultF k d r = needF d.length (takesN k) (leavesN k) := by unfold faultF; rw [if_pos h1]
    have e2 : doF k d r m = (d, r, m) := by unfold doF; rw [if_pos (by rw [e]; exact h1)]
    rw [e, e2]
    refine (do_need G k hk hpl f Cl hd hcl i D ⟨R, 0, none⟩ ⟨M, 0, none⟩ d hg.dl (by simpa using h1) w ht h.pu).mono fun e w' k => ?_
    obtain ⟨k1, G', k2⟩ := k
    exact ⟨k1, G', k2.mono fun _ h => h.elim, h.still k2⟩

theorem act_6 : ActIs 6 180 (fun _ _ c => c = #[]) := by
  intro G i j q K D R M b x r m c o hd hr hm hR hn hx hb hl hlook hadd w hc h hk
  subst hc
  obtain ⟨x, y, rfl⟩ := len2 hx
  have h0 := hd x (by simp)
  have h1 := hd y (by simp)
  exact doDo_act x y o (by have ha' : (r.length : Int) + 2 ≤ 128 := hadd; omega) h hk
theorem do_6 : DoIs 6 := do_is 6 (by decide) (by decide) 180 (enters_of Tryz.func180 (by kernel_rfl) rfl) (fun _ _ c => c = #[]) (fun G w => (does_6 w).mono fun e w' h => ⟨#[], G, h.1, by rw [← h.2]; exact Adv.refl _ _ _, rfl⟩) (fun _ _ _ _ _ _ h _ _ => h) act_6
theorem act_9 : ActIs 9 159 (fun _ _ c => c = #[]) := by
  intro G i j q K D R M b x r m c o hd hr hm hR hn hx hb hl hlook hadd w hc h hk
  subst hc
  obtain rfl := len0 hx
  exact doNothing_act o (nil_r h) hk
theorem do_9 : DoIs 9 := do_is 9 (by decide) (by decide) 159 (enters_of Tryz.func159 (by kernel_rfl) rfl) (fun _ _ c => c = #[]) (fun G w => (does_9 w).mono fun e w' h => ⟨#[], G, h.1, by rw [← h.2]; exact Adv.refl _ _ _, rfl⟩) (fun _ _ _ _ _ _ h _ _ => h) act_9
theorem act_50 : ActIs 50 181 (fun _ _ c => c = #[]) := by
  intro G i j q K D R M b x r m c o hd hr hm hR hn hx hb hl hlook hadd w hc h hk
  subst hc
  obtain ⟨x, rfl⟩ := len1 hx
  have h0 := hd x (by simp)
  exact doFetch_act x o hm h0.1 h0.2 (by have hb' : (b.length : Int) + 1 ≤ 256 := hb; omega) h hk
theorem do_50 : DoIs 50 := do_is 50 (by decide) (by decide) 181 (enters_of Tryz.func181 (by kernel_rfl) rfl) (fun _ _ c => c = #[]) (fun G w => (does_50 w).mono fun e w' h => ⟨#[], G, h.1, by rw [← h.2]; exact Adv.refl _ _ _, rfl⟩) (fun _ _ _ _ _ _ h _ _ => h) act_50
theorem act_51 : ActIs 51 182 (fun _ _ c => c = #[]) := by
  intro G i j q K D R M b x r m c o hd hr hm hR hn hx hb hl hlook hadd w hc h hk
  subst hc
  obtain ⟨x, y, rfl⟩ := len2 hx
  have h0 := hd x (by simp)
  have h1 := hd y (by simp)
  exact doStore_act x y o hm hn h1.1 h1.2 h hk
theorem do_51 : DoIs 51 := do_is 51 (by decide) (by decide) 182 (enters_of Tryz.func182 (by kernel_rfl) rfl) (fun _ _ c => c = #[]) (fun G w => (does_51 w).mono fun e w' h => ⟨#[], G, h.1, by rw [← h.2]; exact Adv.refl _ _ _, rfl⟩) (fun _ _ _ _ _ _ h _ _ => h) act_51
theorem act_52 : ActIs 52 183 (fun _ _ c => c = #[]) := by
  intro G i j q K D R M b x r m c o hd hr hm hR hn hx hb hl hlook hadd w hc h hk
  subst hc
  obtain ⟨x, rfl⟩ := len1 hx
  have h0 := hd x (by simp)
  exact doByte_act x o hm hR h0.1 h0.2 (by have hb' : (b.length : Int) + 1 ≤ 256 := hb; omega) h hk
theorem do_52 : DoIs 52 := do_is 52 (by decide) (by decide) 183 (enters_of Tryz.func183 (by kernel_rfl) rfl) (fun _ _ c => c = #[]) (fun G w => (does_52 w).mono fun e w' h => ⟨#[], G, h.1, by rw [← h.2]; exact Adv.refl _ _ _, rfl⟩) (fun _ _ _ _ _ _ h _ _ => h) act_52
theorem act_53 : ActIs 53 184 (fun _ _ c => c = #[]) := by
  intro G i j q K D R M b x r m c o hd hr hm hR hn hx hb hl hlook hadd w hc h hk
  subst hc
  obtain ⟨x, y, rfl⟩ := len2 hx
  have h0 := hd x (by simp)
  have h1 := hd y (by simp)
  exact doPut_act x y o hm hn h1.1 h1.2 h0.1 h0.2 h hk
theorem do_53 : DoIs 53 := do_is 53 (by decide) (by decide) 184 (enters_of Tryz.func184 (by kernel_rfl) rfl) (fun _ _ c => c = #[]) (fun G w => (does_53 w).mono fun e w' h => ⟨#[], G, h.1, by rw [← h.2]; exact Adv.refl _ _ _, rfl⟩) (fun _ _ _ _ _ _ h _ _ => h) act_53
theorem act_54 : ActIs 54 185 (fun _ _ c => c = #[]) := by
  intro G i j q K D R M b x r m c o hd hr hm hR hn hx hb hl hlook hadd w hc h hk
  subst hc
  obtain ⟨x, y, rfl⟩ := len2 hx
  have h0 := hd x (by simp)
  have h1 := hd y (by simp)
  exact doMore_act x y o hm hn h1.1 h1.2 h hk
theorem do_54 : DoIs 54 := do_is 54 (by decide) (by decide) 185 (enters_of Tryz.func185 (by kernel_rfl) rfl) (fun _ _ c => c = #[]) (fun G w => (does_54 w).mono fun e w' h => ⟨#[], G, h.1, by rw [← h.2]; exact Adv.refl _ _ _, rfl⟩) (fun _ _ _ _ _ _ h _ _ => h) act_54
theorem act_55 : ActIs 55 186 (fun _ _ c => c = #[]) := by
  intro G i j q K D R M b x r m c o hd hr hm hR hn hx hb hl hlook hadd w hc h hk
  subst hc
  obtain ⟨x, rfl⟩ := len1 hx
  have h0 := hd x (by simp)
  exact doSave_act x o (by have ha' : (r.length : Int) + 1 ≤ 128 := hadd; omega) h hk
theorem do_55 : DoIs 55 := do_is 55 (by decide) (by decide) 186 (enters_of Tryz.func186 (by kernel_rfl) rfl) (fun _ _ c => c = #[]) (fun G w => (does_55 w).mono fun e w' h => ⟨#[], G, h.1, by rw [← h.2]; exact Adv.refl _ _ _, rfl⟩) (fun _ _ _ _ _ _ h _ _ => h) act_55
theorem act_56 : ActIs 56 187 (fun _ _ c => c = #[]) := by
  intro G i j q K D R M b x r m c o hd hr hm hR hn hx hb hl hlook hadd w hc h hk
  subst hc
  obtain rfl := len0 hx
  obtain ⟨r0, c, rfl, e⟩ := top_of (show atE r 0 4 = 0 from hlook)
  show Calls _ _ _ _ (Left3 _ _ _ _ _ _ _ _ (b ++ [atV (r0 ++ [(4, c)]) 0 4]) (r0 ++ [(4, c)]).dropLast m _)
  rw [e, List.dropLast_concat]
  exact doBack_act c o (by simp at hl; omega) (by have hb' : (b.length : Int) + 1 ≤ 256 := hb; omega) (nil_r h) hk
theorem do_56 : DoIs 56 := do_is 56 (by decide) (by decide) 187 (enters_of Tryz.func187 (by kernel_rfl) rfl) (fun _ _ c => c = #[]) (fun G w => (does_56 w).mono fun e w' h => ⟨#[], G, h.1, by rw [← h.2]; exact Adv.refl _ _ _, rfl⟩) (fun _ _ _ _ _ _ h _ _ => h) act_56
theorem act_57 : ActIs 57 188 (fun _ _ c => c = #[]) := by
  intro G i j q K D R M b x r m c o hd hr hm hR hn hx hb hl hlook hadd w hc h hk
  subst hc
  obtain rfl := len0 hx
  exact doSee_act o hl (by have hb' : (b.length : Int) + 1 ≤ 256 := hb; omega) (nil_r h) hk
theorem do_57 : DoIs 57 := do_is 57 (by decide) (by decide) 188 (enters_of Tryz.func188 (by kernel_rfl) rfl) (fun _ _ c => c = #[]) (fun G w => (does_57 w).mono fun e w' h => ⟨#[], G, h.1, by rw [← h.2]; exact Adv.refl _ _ _, rfl⟩) (fun _ _ _ _ _ _ h _ _ => h) act_57
theorem act_58 : ActIs 58 189 (fun _ _ c => c = #[]) := by
  intro G i j q K D R M b x r m c o hd hr hm hR hn hx hb hl hlook hadd w hc h hk
  subst hc
  obtain rfl := len0 hx
  exact doIndex_act o hl (by have hb' : (b.length : Int) + 1 ≤ 256 := hb; omega) (nil_r h) hk
theorem do_58 : DoIs 58 := do_is 58 (by decide) (by decide) 189 (enters_of Tryz.func189 (by kernel_rfl) rfl) (fun _ _ c => c = #[]) (fun G w => (does_58 w).mono fun e w' h => ⟨#[], G, h.1, by rw [← h.2]; exact Adv.refl _ _ _, rfl⟩) (fun _ _ _ _ _ _ h _ _ => h) act_58
theorem act_59 : ActIs 59 190 (fun _ _ c => c = #[]) := by
  intro G i j q K D R M b x r m c o hd hr hm hR hn hx hb hl hlook hadd w hc h hk
  subst hc
  obtain rfl := len0 hx
  exact doOuter_act o hl (by have hb' : (b.length : Int) + 1 ≤ 256 := hb; omega) (nil_r h) hk
theorem do_59 : DoIs 59 := do_is 59 (by decide) (by decide) 190 (enters_of Tryz.func190 (by kernel_rfl) rfl) (fun _ _ c => c = #[]) (fun G w => (does_59 w).mono fun e w' h => ⟨#[], G, h.1, by rw [← h.2]; exact Adv.refl _ _ _, rfl⟩) (fun _ _ _ _ _ _ h _ _ => h) act_59
theorem act_60 : ActIs 60 191 (fun _ _ c => c = #[]) := by
  intro G i j q K D R M b x r m c o hd hr hm hR hn hx hb hl hlook hadd w hc h hk
  subst hc
  obtain ⟨x, y, z, rfl⟩ := len3 hx
  have h0 := hd x (by simp)
  have h1 := hd y (by simp)
  have h2 := hd z (by simp)
  exact doPlot_act x y z o hm hn h0.1 h1.1 h2.1 h2.2 h hk
theorem do_60 : DoIs 60 := do_is 60 (by decide) (by decide) 191 (enters_of Tryz.func191 (by kernel_rfl) rfl) (fun _ _ c => c = #[]) (fun G w => (does_60 w).mono fun e w' h => ⟨#[], G, h.1, by rw [← h.2]; exact Adv.refl _ _ _, rfl⟩) (fun _ _ _ _ _ _ h _ _ => h) act_60
theorem act_61 : ActIs 61 192 (fun _ _ c => c = #[]) := by
  intro G i j q K D R M b x r m c o hd hr hm hR hn hx hb hl hlook hadd w hc h hk
  subst hc
  obtain rfl := len0 hx
  exact doPad_act o hm hR (by have hb' : (b.length : Int) + 1 ≤ 256 := hb; omega) (nil_r h) hk
theorem do_61 : DoIs 61 := do_is 61 (by decide) (by decide) 192 (enters_of Tryz.func192 (by kernel_rfl) rfl) (fun _ _ c => c = #[]) (fun G w => (does_61 w).mono fun e w' h => ⟨#[], G, h.1, by rw [← h.2]; exact Adv.refl _ _ _, rfl⟩) (fun _ _ _ _ _ _ h _ _ => h) act_61
theorem act_62 : ActIs 62 193 (fun _ _ c => c = #[]) := by
  intro G i j q K D R M b x r m c o hd hr hm hR hn hx hb hl hlook hadd w hc h hk
  subst hc
  obtain ⟨x, y, rfl⟩ := len2 hx
  have h0 := hd x (by simp)
  have h1 := hd y (by simp)
  exact doTone_act x y o hm hn h0.1 h0.2 h1.1 h1.2 h hk
theorem do_62 : DoIs 62 := do_is 62 (by decide) (by decide) 193 (enters_of Tryz.func193 (by kernel_rfl) rfl) (fun _ _ c => c = #[]) (fun G w => (does_62 w).mono fun e w' h => ⟨#[], G, h.1, by rw [← h.2]; exact Adv.refl _ _ _, rfl⟩) (fun _ _ _ _ _ _ h _ _ => h) act_62
theorem act_63 : ActIs 63 194 (fun _ _ c => c = #[]) := by
  intro G i j q K D R M b x r m c o hd hr hm hR hn hx hb hl hlook hadd w hc h hk
  subst hc
  obtain ⟨x, rfl⟩ := len1 hx
  have h0 := hd x (by simp)
  exact doBank_act x o hm hn h0.1 h0.2 h hk
theorem do_63 : DoIs 63 := do_is 63 (by decide) (by decide) 194 (enters_of Tryz.func194 (by kernel_rfl) rfl) (fun _ _ c => c = #[]) (fun G w => (does_63 w).mono fun e w' h => ⟨#[], G, h.1, by rw [← h.2]; exact Adv.refl _ _ _, rfl⟩) (fun _ _ _ _ _ _ h _ _ => h) act_63
theorem act_12 : ActIs 12 178 (ShufCl 1 [0, 0]) := by
  intro G i j q K D R M b x r m c o hd hr hm hR hn hx hb hl hlook hadd w hc h hk
  exact shuf_act 1 [0, 0] x c hx (by decide) (by decide) (by decide) o (by have hb' : (b.length : Int) + 2 ≤ 256 := hb; simp; omega) hc h hk
theorem do_12 : DoIs 12 := do_is 12 (by decide) (by decide) 178 (enters_of Tryz.func178 (by kernel_rfl) rfl) (ShufCl 1 [0, 0]) (shuf_is 12 1 [0, 0] does_12) (shuf_keeps 1 [0, 0]) act_12
theorem act_13 : ActIs 13 178 (ShufCl 1 []) := by
  intro G i j q K D R M b x r m c o hd hr hm hR hn hx hb hl hlook hadd w hc h hk
  exact shuf_act 1 [] x c hx (by decide) (by decide) (by decide) o (by have hb' : (b.length : Int) + 0 ≤ 256 := hb; simp; omega) hc h hk
theorem do_13 : DoIs 13 := do_is 13 (by decide) (by decide) 178 (enters_of Tryz.func178 (by kernel_rfl) rfl) (ShufCl 1 []) (shuf_is 13 1 [] does_13) (shuf_keeps 1 []) act_13
theorem act_14 : ActIs 14 178 (ShufCl 2 [1, 0]) := by
  intro G i j q K D R M b x r m c o hd hr hm hR hn hx hb hl hlook hadd w hc h hk
  exact shuf_act 2 [1, 0] x c hx (by decide) (by decide) (by decide) o (by have hb' : (b.length : Int) + 2 ≤ 256 := hb; simp; omega) hc h hk
theorem do_14 : DoIs 14 := do_is 14 (by decide) (by decide) 178 (enters_of Tryz.func178 (by kernel_rfl) rfl) (ShufCl 2 [1, 0]) (shuf_is 14 2 [1, 0] does_14) (shuf_keeps 2 [1, 0]) act_14
theorem act_15 : ActIs 15 178 (ShufCl 2 [0, 1, 0]) := by
  intro G i j q K D R M b x r m c o hd hr hm hR hn hx hb hl hlook hadd w hc h hk
  exact shuf_act 2 [0, 1, 0] x c hx (by decide) (by decide) (by decide) o (by have hb' : (b.length : Int) + 3 ≤ 256 := hb; simp; omega) hc h hk
theorem do_15 : DoIs 15 := do_is 15 (by decide) (by decide) 178 (enters_of Tryz.func178 (by kernel_rfl) rfl) (ShufCl 2 [0, 1, 0]) (shuf_is 15 2 [0, 1, 0] does_15) (shuf_keeps 2 [0, 1, 0]) act_15
theorem act_16 : ActIs 16 178 (ShufCl 3 [1, 2, 0]) := by
  intro G i j q K D R M b x r m c o hd hr hm hR hn hx hb hl hlook hadd w hc h hk
  exact shuf_act 3 [1, 2, 0] x c hx (by decide) (by decide) (by decide) o (by have hb' : (b.length : Int) + 3 ≤ 256 := hb; simp; omega) hc h hk
theorem do_16 : DoIs 16 := do_is 16 (by decide) (by decide) 178 (enters_of Tryz.func178 (by kernel_rfl) rfl) (ShufCl 3 [1, 2, 0]) (shuf_is 16 3 [1, 2, 0] does_16) (shuf_keeps 3 [1, 2, 0]) act_16
theorem act_17 : ActIs 17 178 (ShufCl 2 [1]) := by
  intro G i j q K D R M b x r m c o hd hr hm hR hn hx hb hl hlook hadd w hc h hk
  exact shuf_act 2 [1] x c hx (by decide) (by decide) (by decide) o (by have hb' : (b.length : Int) + 1 ≤ 256 := hb; simp; omega) hc h hk
theorem do_17 : DoIs 17 := do_is 17 (by decide) (by decide) 178 (enters_of Tryz.func178 (by kernel_rfl) rfl) (ShufCl 2 [1]) (shuf_is 17 2 [1] does_17) (shuf_keeps 2 [1]) act_17
theorem act_18 : ActIs 18 178 (ShufCl 2 [1, 0, 1]) := by
  intro G i j q K D R M b x r m c o hd hr hm hR hn hx hb hl hlook hadd w hc h hk
  exact shuf_act 2 [1, 0, 1] x c hx (by decide) (by decide) (by decide) o (by have hb' : (b.length : Int) + 3 ≤ 256 := hb; simp; omega) hc h hk
theorem do_18 : DoIs 18 := do_is 18 (by decide) (by decide) 178 (enters_of Tryz.func178 (by kernel_rfl) rfl) (ShufCl 2 [1, 0, 1]) (shuf_is 18 2 [1, 0, 1] does_18) (shuf_keeps 2 [1, 0, 1]) act_18
theorem act_19 : ActIs 19 178 (ShufCl 2 [0, 1, 0, 1]) := by
  intro G i j q K D R M b x r m c o hd hr hm hR hn hx hb hl hlook hadd w hc h hk
  exact shuf_act 2 [0, 1, 0, 1] x c hx (by decide) (by decide) (by decide) o (by have hb' : (b.length : Int) + 4 ≤ 256 := hb; simp; omega) hc h hk
theorem do_19 : DoIs 19 := do_is 19 (by decide) (by decide) 178 (enters_of Tryz.func178 (by kernel_rfl) rfl) (ShufCl 2 [0, 1, 0, 1]) (shuf_is 19 2 [0, 1, 0, 1] does_19) (shuf_keeps 2 [0, 1, 0, 1]) act_19
theorem act_20 : ActIs 20 178 (ShufCl 2 []) := by
  intro G i j q K D R M b x r m c o hd hr hm hR hn hx hb hl hlook hadd w hc h hk
  exact shuf_act 2 [] x c hx (by decide) (by decide) (by decide) o (by have hb' : (b.length : Int) + 0 ≤ 256 := hb; simp; omega) hc h hk
theorem do_20 : DoIs 20 := do_is 20 (by decide) (by decide) 178 (enters_of Tryz.func178 (by kernel_rfl) rfl) (ShufCl 2 []) (shuf_is 20 2 [] does_20) (shuf_keeps 2 []) act_20
theorem act_28 : ActIs 28 174 (OpCl 28) := by
  intro G i j q K D R M b x r m c o hd hr hm hR hn hx hb hl hlook hadd w hc h hk
  obtain ⟨x, rfl⟩ := len1 hx
  have h0 := hd x (by simp)
  obtain ⟨B, rfl, hB, hG⟩ := hc
  exact one_act 28 x (unF 28 x) B (fun w => unary_28 x h0.1 h0.2 w) o (by have hb' : (b.length : Int) + 1 ≤ 256 := hb; omega) hB hG h hk
theorem do_28 : DoIs 28 := do_is 28 (by decide) (by decide) 174 (enters_of Tryz.func174 (by kernel_rfl) rfl) (OpCl 28) does_28 (op_keeps 28) act_28
theorem act_29 : ActIs 29 174 (OpCl 29) := by
  intro G i j q K D R M b x r m c o hd hr hm hR hn hx hb hl hlook hadd w hc h hk
  obtain ⟨x, rfl⟩ := len1 hx
  have h0 := hd x (by simp)
  obtain ⟨B, rfl, hB, hG⟩ := hc
  exact one_act 29 x (unF 29 x) B (fun w => unary_29 x h0.1 h0.2 w) o (by have hb' : (b.length : Int) + 1 ≤ 256 := hb; omega) hB hG h hk
theorem do_29 : DoIs 29 := do_is 29 (by decide) (by decide) 174 (enters_of Tryz.func174 (by kernel_rfl) rfl) (OpCl 29) does_29 (op_keeps 29) act_29
theorem act_32 : ActIs 32 174 (OpCl 32) := by
  intro G i j q K D R M b x r m c o hd hr hm hR hn hx hb hl hlook hadd w hc h hk
  obtain ⟨x, rfl⟩ := len1 hx
  have h0 := hd x (by simp)
  obtain ⟨B, rfl, hB, hG⟩ := hc
  exact one_act 32 x (unF 32 x) B (fun w => unary_32 x h0.1 h0.2 w) o (by have hb' : (b.length : Int) + 1 ≤ 256 := hb; omega) hB hG h hk
theorem do_32 : DoIs 32 := do_is 32 (by decide) (by decide) 174 (enters_of Tryz.func174 (by kernel_rfl) rfl) (OpCl 32) does_32 (op_keeps 32) act_32
theorem act_33 : ActIs 33 174 (OpCl 33) := by
  intro G i j q K D R M b x r m c o hd hr hm hR hn hx hb hl hlook hadd w hc h hk
  obtain ⟨x, rfl⟩ := len1 hx
  have h0 := hd x (by simp)
  obtain ⟨B, rfl, hB, hG⟩ := hc
  exact one_act 33 x (unF 33 x) B (fun w => unary_33 x h0.1 h0.2 w) o (by have hb' : (b.length : Int) + 1 ≤ 256 := hb; omega) hB hG h hk
theorem do_33 : DoIs 33 := do_is 33 (by decide) (by decide) 174 (enters_of Tryz.func174 (by kernel_rfl) rfl) (OpCl 33) does_33 (op_keeps 33) act_33
theorem act_34 : ActIs 34 174 (OpCl 34) := by
  intro G i j q K D R M b x r m c o hd hr hm hR hn hx hb hl hlook hadd w hc h hk
  obtain ⟨x, rfl⟩ := len1 hx
  have h0 := hd x (by simp)
  obtain ⟨B, rfl, hB, hG⟩ := hc
  exact one_act 34 x (unF 34 x) B (fun w => unary_34 x h0.1 h0.2 w) o (by have hb' : (b.length : Int) + 1 ≤ 256 := hb; omega) hB hG h hk
theorem do_34 : DoIs 34 := do_is 34 (by decide) (by decide) 174 (enters_of Tryz.func174 (by kernel_rfl) rfl) (OpCl 34) does_34 (op_keeps 34) act_34
theorem act_35 : ActIs 35 174 (OpCl 35) := by
  intro G i j q K D R M b x r m c o hd hr hm hR hn hx hb hl hlook hadd w hc h hk
  obtain ⟨x, rfl⟩ := len1 hx
  have h0 := hd x (by simp)
  obtain ⟨B, rfl, hB, hG⟩ := hc
  exact one_act 35 x (unF 35 x) B (fun w => unary_35 x h0.1 h0.2 w) o (by have hb' : (b.length : Int) + 1 ≤ 256 := hb; omega) hB hG h hk
theorem do_35 : DoIs 35 := do_is 35 (by decide) (by decide) 174 (enters_of Tryz.func174 (by kernel_rfl) rfl) (OpCl 35) does_35 (op_keeps 35) act_35
theorem act_39 : ActIs 39 174 (OpCl 39) := by
  intro G i j q K D R M b x r m c o hd hr hm hR hn hx hb hl hlook hadd w hc h hk
  obtain ⟨x, rfl⟩ := len1 hx
  have h0 := hd x (by simp)
  obtain ⟨B, rfl, hB, hG⟩ := hc
  exact one_act 39 x (unF 39 x) B (fun w => unary_39 x h0.1 h0.2 w) o (by have hb' : (b.length : Int) + 1 ≤ 256 := hb; omega) hB hG h hk
theorem do_39 : DoIs 39 := do_is 39 (by decide) (by decide) 174 (enters_of Tryz.func174 (by kernel_rfl) rfl) (OpCl 39) does_39 (op_keeps 39) act_39
theorem act_48 : ActIs 48 174 (OpCl 48) := by
  intro G i j q K D R M b x r m c o hd hr hm hR hn hx hb hl hlook hadd w hc h hk
  obtain ⟨x, rfl⟩ := len1 hx
  have h0 := hd x (by simp)
  obtain ⟨B, rfl, hB, hG⟩ := hc
  exact one_act 48 x (unF 48 x) B (fun w => unary_48 x h0.1 h0.2 w) o (by have hb' : (b.length : Int) + 1 ≤ 256 := hb; omega) hB hG h hk
theorem do_48 : DoIs 48 := do_is 48 (by decide) (by decide) 174 (enters_of Tryz.func174 (by kernel_rfl) rfl) (OpCl 48) does_48 (op_keeps 48) act_48
theorem act_49 : ActIs 49 174 (OpCl 49) := by
  intro G i j q K D R M b x r m c o hd hr hm hR hn hx hb hl hlook hadd w hc h hk
  obtain ⟨x, rfl⟩ := len1 hx
  have h0 := hd x (by simp)
  obtain ⟨B, rfl, hB, hG⟩ := hc
  exact one_act 49 x (unF 49 x) B (fun w => unary_49 x h0.1 h0.2 w) o (by have hb' : (b.length : Int) + 1 ≤ 256 := hb; omega) hB hG h hk
theorem do_49 : DoIs 49 := do_is 49 (by decide) (by decide) 174 (enters_of Tryz.func174 (by kernel_rfl) rfl) (OpCl 49) does_49 (op_keeps 49) act_49
theorem act_21 : ActIs 21 177 (OpCl 21) := by
  intro G i j q K D R M b x r m c o hd hr hm hR hn hx hb hl hlook hadd w hc h hk
  obtain ⟨x, y, rfl⟩ := len2 hx
  have h0 := hd x (by simp)
  have h1 := hd y (by simp)
  obtain ⟨B, rfl, hB, hG⟩ := hc
  exact two_act 21 x y (binF 21 x y) B (fun w => binary_21 x y h0.1 h0.2 h1.1 h1.2 w) o (by have hb' : (b.length : Int) + 1 ≤ 256 := hb; omega) hB hG h hk
theorem do_21 : DoIs 21 := do_is 21 (by decide) (by decide) 177 (enters_of Tryz.func177 (by kernel_rfl) rfl) (OpCl 21) does_21 (op_keeps 21) act_21
theorem act_22 : ActIs 22 177 (OpCl 22) := by
  intro G i j q K D R M b x r m c o hd hr hm hR hn hx hb hl hlook hadd w hc h hk
  obtain ⟨x, y, rfl⟩ := len2 hx
  have h0 := hd x (by simp)
  have h1 := hd y (by simp)
  obtain ⟨B, rfl, hB, hG⟩ := hc
  exact two_act 22 x y (binF 22 x y) B (fun w => binary_22 x y h0.1 h0.2 h1.1 h1.2 w) o (by have hb' : (b.length : Int) + 1 ≤ 256 := hb; omega) hB hG h hk
theorem do_22 : DoIs 22 := do_is 22 (by decide) (by decide) 177 (enters_of Tryz.func177 (by kernel_rfl) rfl) (OpCl 22) does_22 (op_keeps 22) act_22
theorem act_23 : ActIs 23 177 (OpCl 23) := by
  intro G i j q K D R M b x r m c o hd hr hm hR hn hx hb hl hlook hadd w hc h hk
  obtain ⟨x, y, rfl⟩ := len2 hx
  have h0 := hd x (by simp)
  have h1 := hd y (by simp)
  obtain ⟨B, rfl, hB, hG⟩ := hc
  exact two_act 23 x y (binF 23 x y) B (fun w => binary_23 x y h0.1 h0.2 h1.1 h1.2 w) o (by have hb' : (b.length : Int) + 1 ≤ 256 := hb; omega) hB hG h hk
theorem do_23 : DoIs 23 := do_is 23 (by decide) (by decide) 177 (enters_of Tryz.func177 (by kernel_rfl) rfl) (OpCl 23) does_23 (op_keeps 23) act_23
theorem act_24 : ActIs 24 177 (OpCl 24) := by
  intro G i j q K D R M b x r m c o hd hr hm hR hn hx hb hl hlook hadd w hc h hk
  obtain ⟨x, y, rfl⟩ := len2 hx
  have h0 := hd x (by simp)
  have h1 := hd y (by simp)
  obtain ⟨B, rfl, hB, hG⟩ := hc
  exact two_act 24 x y (binF 24 x y) B (fun w => binary_24 x y h0.1 h0.2 h1.1 h1.2 w) o (by have hb' : (b.length : Int) + 1 ≤ 256 := hb; omega) hB hG h hk
theorem do_24 : DoIs 24 := do_is 24 (by decide) (by decide) 177 (enters_of Tryz.func177 (by kernel_rfl) rfl) (OpCl 24) does_24 (op_keeps 24) act_24
theorem act_25 : ActIs 25 177 (OpCl 25) := by
  intro G i j q K D R M b x r m c o hd hr hm hR hn hx hb hl hlook hadd w hc h hk
  obtain ⟨x, y, rfl⟩ := len2 hx
  have h0 := hd x (by simp)
  have h1 := hd y (by simp)
  obtain ⟨B, rfl, hB, hG⟩ := hc
  exact two_act 25 x y (binF 25 x y) B (fun w => binary_25 x y h0.1 h0.2 h1.1 h1.2 w) o (by have hb' : (b.length : Int) + 1 ≤ 256 := hb; omega) hB hG h hk
theorem do_25 : DoIs 25 := do_is 25 (by decide) (by decide) 177 (enters_of Tryz.func177 (by kernel_rfl) rfl) (OpCl 25) does_25 (op_keeps 25) act_25
theorem act_26 : ActIs 26 177 (OpCl 26) := by
  intro G i j q K D R M b x r m c o hd hr hm hR hn hx hb hl hlook hadd w hc h hk
  obtain ⟨x, y, rfl⟩ := len2 hx
  have h0 := hd x (by simp)
  have h1 := hd y (by simp)
  obtain ⟨B, rfl, hB, hG⟩ := hc
  exact two_act 26 x y (binF 26 x y) B (fun w => binary_26 x y h0.1 h0.2 h1.1 h1.2 w) o (by have hb' : (b.length : Int) + 1 ≤ 256 := hb; omega) hB hG h hk
theorem do_26 : DoIs 26 := do_is 26 (by decide) (by decide) 177 (enters_of Tryz.func177 (by kernel_rfl) rfl) (OpCl 26) does_26 (op_keeps 26) act_26
theorem act_27 : ActIs 27 177 (OpCl 27) := by
  intro G i j q K D R M b x r m c o hd hr hm hR hn hx hb hl hlook hadd w hc h hk
  obtain ⟨x, y, rfl⟩ := len2 hx
  have h0 := hd x (by simp)
  have h1 := hd y (by simp)
  obtain ⟨B, rfl, hB, hG⟩ := hc
  exact two_act 27 x y (binF 27 x y) B (fun w => binary_27 x y h0.1 h0.2 h1.1 h1.2 w) o (by have hb' : (b.length : Int) + 1 ≤ 256 := hb; omega) hB hG h hk
theorem do_27 : DoIs 27 := do_is 27 (by decide) (by decide) 177 (enters_of Tryz.func177 (by kernel_rfl) rfl) (OpCl 27) does_27 (op_keeps 27) act_27
theorem act_30 : ActIs 30 177 (OpCl 30) := by
  intro G i j q K D R M b x r m c o hd hr hm hR hn hx hb hl hlook hadd w hc h hk
  obtain ⟨x, y, rfl⟩ := len2 hx
  have h0 := hd x (by simp)
  have h1 := hd y (by simp)
  obtain ⟨B, rfl, hB, hG⟩ := hc
  exact two_act 30 x y (binF 30 x y) B (fun w => binary_30 x y h0.1 h0.2 h1.1 h1.2 w) o (by have hb' : (b.length : Int) + 1 ≤ 256 := hb; omega) hB hG h hk
theorem do_30 : DoIs 30 := do_is 30 (by decide) (by decide) 177 (enters_of Tryz.func177 (by kernel_rfl) rfl) (OpCl 30) does_30 (op_keeps 30) act_30
theorem act_31 : ActIs 31 177 (OpCl 31) := by
  intro G i j q K D R M b x r m c o hd hr hm hR hn hx hb hl hlook hadd w hc h hk
  obtain ⟨x, y, rfl⟩ := len2 hx
  have h0 := hd x (by simp)
  have h1 := hd y (by simp)
  obtain ⟨B, rfl, hB, hG⟩ := hc
  exact two_act 31 x y (binF 31 x y) B (fun w => binary_31 x y h0.1 h0.2 h1.1 h1.2 w) o (by have hb' : (b.length : Int) + 1 ≤ 256 := hb; omega) hB hG h hk
theorem do_31 : DoIs 31 := do_is 31 (by decide) (by decide) 177 (enters_of Tryz.func177 (by kernel_rfl) rfl) (OpCl 31) does_31 (op_keeps 31) act_31
theorem act_36 : ActIs 36 177 (OpCl 36) := by
  intro G i j q K D R M b x r m c o hd hr hm hR hn hx hb hl hlook hadd w hc h hk
  obtain ⟨x, y, rfl⟩ := len2 hx
  have h0 := hd x (by simp)
  have h1 := hd y (by simp)
  obtain ⟨B, rfl, hB, hG⟩ := hc
  exact two_act 36 x y (binF 36 x y) B (fun w => binary_36 x y h0.1 h0.2 h1.1 h1.2 w) o (by have hb' : (b.length : Int) + 1 ≤ 256 := hb; omega) hB hG h hk
theorem do_36 : DoIs 36 := do_is 36 (by decide) (by decide) 177 (enters_of Tryz.func177 (by kernel_rfl) rfl) (OpCl 36) does_36 (op_keeps 36) act_36
theorem act_37 : ActIs 37 177 (OpCl 37) := by
  intro G i j q K D R M b x r m c o hd hr hm hR hn hx hb hl hlook hadd w hc h hk
  obtain ⟨x, y, rfl⟩ := len2 hx
  have h0 := hd x (by simp)
  have h1 := hd y (by simp)
  obtain ⟨B, rfl, hB, hG⟩ := hc
  exact two_act 37 x y (binF 37 x y) B (fun w => binary_37 x y h0.1 h0.2 h1.1 h1.2 w) o (by have hb' : (b.length : Int) + 1 ≤ 256 := hb; omega) hB hG h hk
theorem do_37 : DoIs 37 := do_is 37 (by decide) (by decide) 177 (enters_of Tryz.func177 (by kernel_rfl) rfl) (OpCl 37) does_37 (op_keeps 37) act_37
theorem act_38 : ActIs 38 177 (OpCl 38) := by
  intro G i j q K D R M b x r m c o hd hr hm hR hn hx hb hl hlook hadd w hc h hk
  obtain ⟨x, y, rfl⟩ := len2 hx
  have h0 := hd x (by simp)
  have h1 := hd y (by simp)
  obtain ⟨B, rfl, hB, hG⟩ := hc
  exact two_act 38 x y (binF 38 x y) B (fun w => binary_38 x y h0.1 h0.2 h1.1 h1.2 w) o (by have hb' : (b.length : Int) + 1 ≤ 256 := hb; omega) hB hG h hk
theorem do_38 : DoIs 38 := do_is 38 (by decide) (by decide) 177 (enters_of Tryz.func177 (by kernel_rfl) rfl) (OpCl 38) does_38 (op_keeps 38) act_38
theorem act_40 : ActIs 40 177 (OpCl 40) := by
  intro G i j q K D R M b x r m c o hd hr hm hR hn hx hb hl hlook hadd w hc h hk
  obtain ⟨x, y, rfl⟩ := len2 hx
  have h0 := hd x (by simp)
  have h1 := hd y (by simp)
  obtain ⟨B, rfl, hB, hG⟩ := hc
  exact two_act 40 x y (binF 40 x y) B (fun w => binary_40 x y h0.1 h0.2 h1.1 h1.2 w) o (by have hb' : (b.length : Int) + 1 ≤ 256 := hb; omega) hB hG h hk
theorem do_40 : DoIs 40 := do_is 40 (by decide) (by decide) 177 (enters_of Tryz.func177 (by kernel_rfl) rfl) (OpCl 40) does_40 (op_keeps 40) act_40
theorem act_41 : ActIs 41 177 (OpCl 41) := by
  intro G i j q K D R M b x r m c o hd hr hm hR hn hx hb hl hlook hadd w hc h hk
  obtain ⟨x, y, rfl⟩ := len2 hx
  have h0 := hd x (by simp)
  have h1 := hd y (by simp)
  obtain ⟨B, rfl, hB, hG⟩ := hc
  exact two_act 41 x y (binF 41 x y) B (fun w => binary_41 x y h0.1 h0.2 h1.1 h1.2 w) o (by have hb' : (b.length : Int) + 1 ≤ 256 := hb; omega) hB hG h hk
theorem do_41 : DoIs 41 := do_is 41 (by decide) (by decide) 177 (enters_of Tryz.func177 (by kernel_rfl) rfl) (OpCl 41) does_41 (op_keeps 41) act_41
theorem act_42 : ActIs 42 177 (OpCl 42) := by
  intro G i j q K D R M b x r m c o hd hr hm hR hn hx hb hl hlook hadd w hc h hk
  obtain ⟨x, y, rfl⟩ := len2 hx
  have h0 := hd x (by simp)
  have h1 := hd y (by simp)
  obtain ⟨B, rfl, hB, hG⟩ := hc
  exact two_act 42 x y (binF 42 x y) B (fun w => binary_42 x y h0.1 h0.2 h1.1 h1.2 w) o (by have hb' : (b.length : Int) + 1 ≤ 256 := hb; omega) hB hG h hk
theorem do_42 : DoIs 42 := do_is 42 (by decide) (by decide) 177 (enters_of Tryz.func177 (by kernel_rfl) rfl) (OpCl 42) does_42 (op_keeps 42) act_42
theorem act_43 : ActIs 43 177 (OpCl 43) := by
  intro G i j q K D R M b x r m c o hd hr hm hR hn hx hb hl hlook hadd w hc h hk
  obtain ⟨x, y, rfl⟩ := len2 hx
  have h0 := hd x (by simp)
  have h1 := hd y (by simp)
  obtain ⟨B, rfl, hB, hG⟩ := hc
  exact two_act 43 x y (binF 43 x y) B (fun w => binary_43 x y h0.1 h0.2 h1.1 h1.2 w) o (by have hb' : (b.length : Int) + 1 ≤ 256 := hb; omega) hB hG h hk
theorem do_43 : DoIs 43 := do_is 43 (by decide) (by decide) 177 (enters_of Tryz.func177 (by kernel_rfl) rfl) (OpCl 43) does_43 (op_keeps 43) act_43
theorem act_44 : ActIs 44 177 (OpCl 44) := by
  intro G i j q K D R M b x r m c o hd hr hm hR hn hx hb hl hlook hadd w hc h hk
  obtain ⟨x, y, rfl⟩ := len2 hx
  have h0 := hd x (by simp)
  have h1 := hd y (by simp)
  obtain ⟨B, rfl, hB, hG⟩ := hc
  exact two_act 44 x y (binF 44 x y) B (fun w => binary_44 x y h0.1 h0.2 h1.1 h1.2 w) o (by have hb' : (b.length : Int) + 1 ≤ 256 := hb; omega) hB hG h hk
theorem do_44 : DoIs 44 := do_is 44 (by decide) (by decide) 177 (enters_of Tryz.func177 (by kernel_rfl) rfl) (OpCl 44) does_44 (op_keeps 44) act_44
theorem act_45 : ActIs 45 177 (OpCl 45) := by
  intro G i j q K D R M b x r m c o hd hr hm hR hn hx hb hl hlook hadd w hc h hk
  obtain ⟨x, y, rfl⟩ := len2 hx
  have h0 := hd x (by simp)
  have h1 := hd y (by simp)
  obtain ⟨B, rfl, hB, hG⟩ := hc
  exact two_act 45 x y (binF 45 x y) B (fun w => binary_45 x y h0.1 h0.2 h1.1 h1.2 w) o (by have hb' : (b.length : Int) + 1 ≤ 256 := hb; omega) hB hG h hk
theorem do_45 : DoIs 45 := do_is 45 (by decide) (by decide) 177 (enters_of Tryz.func177 (by kernel_rfl) rfl) (OpCl 45) does_45 (op_keeps 45) act_45
theorem act_46 : ActIs 46 177 (OpCl 46) := by
  intro G i j q K D R M b x r m c o hd hr hm hR hn hx hb hl hlook hadd w hc h hk
  obtain ⟨x, y, rfl⟩ := len2 hx
  have h0 := hd x (by simp)
  have h1 := hd y (by simp)
  obtain ⟨B, rfl, hB, hG⟩ := hc
  exact two_act 46 x y (binF 46 x y) B (fun w => binary_46 x y h0.1 h0.2 h1.1 h1.2 w) o (by have hb' : (b.length : Int) + 1 ≤ 256 := hb; omega) hB hG h hk
theorem do_46 : DoIs 46 := do_is 46 (by decide) (by decide) 177 (enters_of Tryz.func177 (by kernel_rfl) rfl) (OpCl 46) does_46 (op_keeps 46) act_46
theorem act_47 : ActIs 47 177 (OpCl 47) := by
  intro G i j q K D R M b x r m c o hd hr hm hR hn hx hb hl hlook hadd w hc h hk
  obtain ⟨x, y, rfl⟩ := len2 hx
  have h0 := hd x (by simp)
  have h1 := hd y (by simp)
  obtain ⟨B, rfl, hB, hG⟩ := hc
  exact two_act 47 x y (binF 47 x y) B (fun w => binary_47 x y h0.1 h0.2 h1.1 h1.2 w) o (by have hb' : (b.length : Int) + 1 ≤ 256 := hb; omega) hB hG h hk
theorem do_47 : DoIs 47 := do_is 47 (by decide) (by decide) 177 (enters_of Tryz.func177 (by kernel_rfl) rfl) (OpCl 47) does_47 (op_keeps 47) act_47
theorem do_any (k : Nat) (hk : k < 64) (hpl : plainB k = true) : DoIs k := by
  match k, hk, hpl with
  | 0, _, hpl => exact absurd hpl (by decide)
  | 1, _, hpl => exact absurd hpl (by decide)
  | 2, _, hpl => exact absurd hpl (by decide)
  | 3, _, hpl => exact absurd hpl (by decide)
  | 4, _, hpl => exact absurd hpl (by decide)
  | 5, _, hpl => exact absurd hpl (by decide)
  | 6, _, _ => exact do_6
  | 7, _, hpl => exact absurd hpl (by decide)
  | 8, _, hpl => exact absurd hpl (by decide)
  | 9, _, _ => exact do_9
  | 10, _, hpl => exact absurd hpl (by decide)
  | 11, _, hpl => exact absurd hpl (by decide)
  | 12, _, _ => exact do_12
  | 13, _, _ => exact do_13
  | 14, _, _ => exact do_14
  | 15, _, _ => exact do_15
  | 16, _, _ => exact do_16
  | 17, _, _ => exact do_17
  | 18, _, _ => exact do_18
  | 19, _, _ => exact do_19
  | 20, _, _ => exact do_20
  | 21, _, _ => exact do_21
  | 22, _, _ => exact do_22
  | 23, _, _ => exact do_23
  | 24, _, _ => exact do_24
  | 25, _, _ => exact do_25
  | 26, _, _ => exact do_26
  | 27, _, _ => exact do_27
  | 28, _, _ => exact do_28
  | 29, _, _ => exact do_29
  | 30, _, _ => exact do_30
  | 31, _, _ => exact do_31
  | 32, _, _ => exact do_32
  | 33, _, _ => exact do_33
  | 34, _, _ => exact do_34
  | 35, _, _ => exact do_35
  | 36, _, _ => exact do_36
  | 37, _, _ => exact do_37
  | 38, _, _ => exact do_38
  | 39, _, _ => exact do_39
  | 40, _, _ => exact do_40
  | 41, _, _ => exact do_41
  | 42, _, _ => exact do_42
  | 43, _, _ => exact do_43
  | 44, _, _ => exact do_44
  | 45, _, _ => exact do_45
  | 46, _, _ => exact do_46
  | 47, _, _ => exact do_47
  | 48, _, _ => exact do_48
  | 49, _, _ => exact do_49
  | 50, _, _ => exact do_50
  | 51, _, _ => exact do_51
  | 52, _, _ => exact do_52
  | 53, _, _ => exact do_53
  | 54, _, _ => exact do_54
  | 55, _, _ => exact do_55
  | 56, _, _ => exact do_56
  | 57, _, _ => exact do_57
  | 58, _, _ => exact do_58
  | 59, _, _ => exact do_59
  | 60, _, _ => exact do_60
  | 61, _, _ => exact do_61
  | 62, _, _ => exact do_62
  | 63, _, _ => exact do_63
  | k + 64, hk, _ => exact absurd hk (by omega)
end Go.Proofs.YtdnalhjdmlkbmaaGreatDoor
