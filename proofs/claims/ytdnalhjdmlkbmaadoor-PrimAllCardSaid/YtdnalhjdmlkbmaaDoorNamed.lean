/- prim.Named. -/
import Derived.Test.YtdnalhjdmlkbmaaDoorIter
namespace Go.Proofs.YtdnalhjdmlkbmaaDoor
open Go.RowKit Go.Shelf
attribute [local go_sem] Oper.semAt_some

/-- Block B holds these cells, all of them. -/
def BoxN (W : World) (B : Nat) (T : TypeId) (C : Array Value) : Prop := W.heap[B]? = some (.cells C T (0, 0))
theorem boxN_own {β : Type} (B : Nat) (T : TypeId) (f : β → Array Value) : Own (fun s W => BoxN W B T (f s)) := fun s X Y row hs hg hrow => by
  have hs' : X.heap[B]? = some (.cells (f s) T (0, 0)) := hs
  exact (hg.block B (Array.getElem?_eq_some_iff.1 hs').1 (fun e => by
    obtain ⟨o, ho, hc⟩ := hrow B e.symm
    rw [hs'] at ho; cases ho; cases hc)).trans hs'
theorem BoxN.new (W : World) (T : TypeId) (C : Array Value) : BoxN (W.alloc (.cells C T)) W.heap.size T C := heap_alloc_new W _
theorem BoxN.alloc {W : World} {B : Nat} {T : TypeId} {C : Array Value} (h : BoxN W B T C) (o : Obj) : BoxN (W.alloc o) B T C :=
  (heap_past W o B (Array.getElem?_eq_some_iff.1 (show W.heap[B]? = _ from h)).1).trans h
theorem BoxN.lt {W : World} {B : Nat} {T : TypeId} {C : Array Value} (h : BoxN W B T C) : B < W.heap.size := (Array.getElem?_eq_some_iff.1 (show W.heap[B]? = _ from h)).1
theorem BoxN.set {W : World} {B : Nat} {T : TypeId} {C : Array Value} (h : BoxN W B T C) (j : Nat) (v : Value) : BoxN (W.setCell ⟨B, j, none⟩ v) B T (C.setIfInBounds j v) := by
  unfold BoxN at h ⊢
  simp only [World.setCell, Array.getElem?_modify, h]; simp
theorem BoxN.other {W : World} {B B' : Nat} {T : TypeId} {C : Array Value} (h : BoxN W B T C) (hne : B ≠ B') (j : Nat) (v : Value) : BoxN (W.setCell ⟨B', j, none⟩ v) B T C :=
  (Below.heap_setCell _ _ _ _ hne).trans h
theorem BoxN.putObj {W : World} {B D : Nat} {T : TypeId} {C : Array Value} (h : BoxN W B T C) (o : Obj) (hne : B ≠ D) : BoxN (W.putObj D o) B T C := (World.putObj_heap_other hne).trans h

/-- The place of a name in the table; 64: it has none. -/
def nameIx (s : ByteArray) : Nat := 9 + (List.range 55).findIdx (fun d => nameB (9 + d) == s)
def primC (k : Nat) : Array Value := #[.int .i64 k, .string (nameB k), .int .i64 (takesN k), .int .i64 (leavesN k), .int .i64 (costsN k), .bool (operandB k)]
def primC0 : Array Value := #[.int .i64 0, .string ⟨#[]⟩, .int .i64 0, .int .i64 0, .int .i64 0, .bool false]
/-- Is this row the one that is asked for? -/
def hitB (s : ByteArray) (k : Nat) : Bool := !s.toList.isEmpty && ((nameB k).toList == s.toList)
set_option maxRecDepth 100000 in
set_option maxHeartbeats 1000000 in
theorem named_in (s : ByteArray) (w : World) (ht : Tabs w (fun _ => 0)) :
    CallsIn Fence.wide 6 Tryd.prog 16 #[.string s] w fun e w' =>
      ((∃ pre k, pre ++ [k] <+: upTo 63 ∧ (∀ j ∈ pre, hitB s j = false) ∧ hitB s k = true ∧ e = .returned (.tuple #[primV k, .bool true])) ∨ ((∀ j ∈ upTo 63, hitB s j = false) ∧ e = .returned (.tuple #[primV0, .bool false]))) ∧ Below w.heap.size w w' := by
  refine callsIn_of_wp_marks Tryd.func16 rfl trivial ?_ rfl
  simp only [Tryd.ntmps16, List.size_toArray, List.length_cons, List.length_nil, Nat.reduceAdd, Nat.reduceSub, Array.replicate_succ, Array.replicate_zero, List.push_toArray, List.append_toArray, List.nil_append, List.cons_append]
  gi_wp2_with (fail)
  refine ⟨trivial, ?_⟩
  refine (callsIn_wide.2 (all_any _)).mono ?_
  rintro e w' ⟨rfl, rfl⟩
  gi_wp2_with (fail)
  have b1 := ((BoxN.new w 9 #[.string s]).alloc (.cells primC0 25)).alloc (.cells #[.bool false] 4)
  have b2 := (BoxN.new (w.alloc (.cells #[.string s] 9)) 25 primC0).alloc (.cells #[.bool false] 4)
  have b3 := BoxN.new ((w.alloc (.cells #[.string s] 9)).alloc (.cells primC0 25)) 4 #[.bool false]
  simp only [World.size_alloc] at b2 b3
  have hB0 : Below w.heap.size w (((w.alloc (.cells #[.string s] 9)).alloc (.cells primC0 25)).alloc (.cells #[.bool false] 4)) := (((Below.refl _ w).alloc (Nat.le_refl _) _).alloc (by simp) _).alloc (by simp; omega) _
  have h4 : 4 ≤ w.heap.size := by
    have := World.block_lt_of_cell? w _ (ht.names 0 (by omega)); have := World.block_lt_of_cell? w _ (ht.takes 0 (by omega)); have := World.block_lt_of_cell? w _ (ht.leaves 0 (by omega)); have := World.block_lt_of_cell? w _ (ht.costs 0 (by omega)); simp at *; omega
  have hsz : (((w.alloc (.cells #[.string s] 9)).alloc (.cells primC0 25)).alloc (.cells #[.bool false] 4)).heap.size = w.heap.size + 3 := by simp
  have hT0 := Tabs.below hB0 h4 ht
  change Code.wpIn _ _ _ _ _ _ (((w.alloc (.cells #[.string s] 9)).alloc (.cells primC0 25)).alloc (.cells #[.bool false] 4))
  obtain ⟨W0, hW0⟩ : ∃ W0, ((w.alloc (.cells #[.string s] 9)).alloc (.cells primC0 25)).alloc (.cells #[.bool false] 4) = W0 := ⟨_, rfl⟩
  rw [hW0] at b1 b2 b3 hB0 hsz hT0 ⊢
  clear hW0
  refine wpIn_rangeFunc_ownH rfl (by omega) (gf := 50) (lb := #[]) rfl trivial (enters_of Tryd.func50 (by kernel_rfl) rfl)
    (all_stops 5 (by omega) w.heap.size h4 W0 hT0) belowK_t (belowK_b (by omega)) (Below.refl _ _) (fun _ => rfl)
    (fun pre W => ((((∀ j ∈ pre, hitB s j = false) ∧ BoxN W w.heap.size 9 #[.string s]) ∧ BoxN W (w.heap.size + 1) 25 primC0) ∧ BoxN W (w.heap.size + 1 + 1) 4 #[.bool false]) ∧ Below w.heap.size w W)
    (fun c pre W => (((c = .ret ∧ ∃ pre' k, pre = pre' ++ [k] ∧ (∀ j ∈ pre', hitB s j = false) ∧ hitB s k = true) ∧ BoxN W (w.heap.size + 1) 25 (primC (pre.getLast?.getD 0))) ∧ BoxN W (w.heap.size + 1 + 1) 4 #[.bool true]) ∧ Below w.heap.size w W)
    (OwnFrom.and (OwnFrom.and (OwnFrom.and (OwnFrom.and (ownFrom_pure _ _) (Own.from (boxN_own _ _ _) _)) (Own.from (boxN_own _ _ _) _)) (Own.from (boxN_own _ _ _) _)) (ownFrom_below (Nat.le_refl _) (by omega)))
    (fun c => OwnFrom.and (OwnFrom.and (OwnFrom.and (ownFrom_pure _ _) (Own.from (boxN_own _ _ _) _)) (Own.from (boxN_own _ _ _) _)) (ownFrom_below (Nat.le_refl _) (by omega)))
    ⟨⟨⟨⟨by simp, b1⟩, b2⟩, b3⟩, hB0⟩
    (fun x a' W => ∃ Bx, w.heap.size + 2 < Bx ∧ BoxN W Bx 25 (primC x) ∧ a' = { tmps := #[.string s, .pointer (some ⟨w.heap.size, 0, none⟩), .pointer (some ⟨w.heap.size + 1, 0, none⟩), .pointer (some ⟨w.heap.size + 1 + 1, 0, none⟩), .pointer (some ⟨Bx, 0, none⟩), .func (.func 50) #[] #[], primV x, undef, undef, undef, undef, undef, undef, undef, undef, undef, undef], defers := [] })
    (fun x a' _ X Y row hs hg hr => by obtain ⟨Bx, e1, e2, e3⟩ := hs; exact ⟨Bx, e1, boxN_own Bx 25 (fun (_ : Unit) => primC x) () X Y row e2 hg (fun r e => (hr r e).2), e3⟩)
    ?assign ?body ?done ?stop
  case assign =>
    rintro l pre x W K ⟨⟨⟨⟨hp, c1⟩, c2⟩, c3⟩, hB1⟩ hK
    have hz3 := c3.lt
    unfold primV at hK ⊢
    gi_wp2
    exact hK _ _ ((KeepsOthers.alloc _ _).from _) ((Below.refl _ W).alloc hB1.size _) ⟨⟨⟨⟨hp, c1.alloc _⟩, c2.alloc _⟩, c3.alloc _⟩, hB1.alloc hB1.size _⟩ ⟨W.heap.size, by omega, BoxN.new W _ _, rfl⟩
  case body =>
    rintro l pre x a' W hl ⟨r, hr⟩ ⟨⟨⟨⟨hp, c1⟩, c2⟩, c3⟩, hB1⟩ ⟨Bx, hBx, bX, rfl⟩ hlt
    have d1 : W.cell? ⟨w.heap.size, 0, none⟩ = some (.string s) := block_cell c1 0 _ rfl
    have x0 : W.cell? ⟨Bx, 0, none⟩ = some (.int .i64 x) := block_cell bX 0 _ rfl
    have x1 : W.cell? ⟨Bx, 1, none⟩ = some (.string (nameB x)) := block_cell bX 1 _ rfl
    have x2 : W.cell? ⟨Bx, 2, none⟩ = some (.int .i64 (takesN x)) := block_cell bX 2 _ rfl
    have x3 : W.cell? ⟨Bx, 3, none⟩ = some (.int .i64 (leavesN x)) := block_cell bX 3 _ rfl
    have x4 : W.cell? ⟨Bx, 4, none⟩ = some (.int .i64 (costsN x)) := block_cell bX 4 _ rfl
    have x5 : W.cell? ⟨Bx, 5, none⟩ = some (.bool (operandB x)) := block_cell bX 5 _ rfl
    have y0 : W.cell? ⟨w.heap.size + 1, 0, none⟩ = some (.int .i64 0) := block_cell c2 0 _ rfl
    have y1 : W.cell? ⟨w.heap.size + 1, 1, none⟩ = some (.string ⟨#[]⟩) := block_cell c2 1 _ rfl
    have y2 : W.cell? ⟨w.heap.size + 1, 2, none⟩ = some (.int .i64 0) := block_cell c2 2 _ rfl
    have y3 : W.cell? ⟨w.heap.size + 1, 3, none⟩ = some (.int .i64 0) := block_cell c2 3 _ rfl
    have y4 : W.cell? ⟨w.heap.size + 1, 4, none⟩ = some (.int .i64 0) := block_cell c2 4 _ rfl
    have y5 : W.cell? ⟨w.heap.size + 1, 5, none⟩ = some (.bool false) := block_cell c2 5 _ rfl
    have z0 : W.cell? ⟨w.heap.size + 1 + 1, 0, none⟩ = some (.bool false) := block_cell c3 0 _ rfl
    have fy := block_free c2
    have fz := block_free c3
    have HC := Lib.hid (And.intro hp (And.intro c1 (And.intro c2 (And.intro c3 (And.intro hB1 bX)))))
    clear hp c1 c2 c3 hB1 bX hr hl hlt
    unfold primV
    have hno : hitB s x = false → ∀ j ∈ pre ++ [x], hitB s j = false := fun h j hj => (List.mem_append.1 hj).elim (HC.out.1 j) (fun e => by simp at e; subst e; exact h)
    have HNO := Lib.hid hno
    clear hno
    cases he : s.toList.isEmpty with
    | true =>
      have HH := Lib.hid (show hitB s x = false by unfold hitB; rw [he]; rfl)
      gi_wp2
      exact ⟨KeepsFrom.refl _ _, Below.refl _ _, ⟨⟨⟨⟨HNO.out HH.out, HC.out.2.1⟩, HC.out.2.2.1⟩, HC.out.2.2.2.1⟩, HC.out.2.2.2.2.1⟩⟩
    | false =>
      cases hq : (nameB x).toList == s.toList with
      | false =>
        have HH := Lib.hid (show hitB s x = false by unfold hitB; rw [he, hq]; rfl)
        gi_wp2
        exact ⟨KeepsFrom.refl _ _, Below.refl _ _, ⟨⟨⟨⟨HNO.out HH.out, HC.out.2.1⟩, HC.out.2.2.1⟩, HC.out.2.2.2.1⟩, HC.out.2.2.2.2.1⟩⟩
      | true =>
        have HH := Lib.hid (show hitB s x = true by unfold hitB; rw [he, hq]; rfl)
        gi_wp2
        have e : (pre ++ [x]).getLast?.getD 0 = x := by simp
        have b2 := ((((((HC.out.2.2.1.set 0 (.int .i64 x)).set 1 (.string (nameB x))).set 2 (.int .i64 (takesN x))).set 3 (.int .i64 (leavesN x))).set 4 (.int .i64 (costsN x))).set 5 (.bool (operandB x))).other (B' := w.heap.size + 1 + 1) (by omega) 0 (.bool true)
        have b3 := ((((((HC.out.2.2.2.1.other (B' := w.heap.size + 1) (by omega) 0 (.int .i64 x)).other (B' := w.heap.size + 1) (by omega) 1 (.string (nameB x))).other (B' := w.heap.size + 1) (by omega) 2 (.int .i64 (takesN x))).other (B' := w.heap.size + 1) (by omega) 3 (.int .i64 (leavesN x))).other (B' := w.heap.size + 1) (by omega) 4 (.int .i64 (costsN x))).other (B' := w.heap.size + 1) (by omega) 5 (.bool (operandB x))).set 0 (.bool true)
        have b4 := ((((((HC.out.2.2.2.2.1.setCell (p := ⟨w.heap.size + 1, 0, none⟩) (by simp) (.int .i64 x)).setCell (p := ⟨w.heap.size + 1, 1, none⟩) (by simp) (.string (nameB x))).setCell (p := ⟨w.heap.size + 1, 2, none⟩) (by simp) (.int .i64 (takesN x))).setCell (p := ⟨w.heap.size + 1, 3, none⟩) (by simp) (.int .i64 (leavesN x))).setCell (p := ⟨w.heap.size + 1, 4, none⟩) (by simp) (.int .i64 (costsN x))).setCell (p := ⟨w.heap.size + 1, 5, none⟩) (by simp) (.bool (operandB x))).setCell (p := ⟨w.heap.size + 1 + 1, 0, none⟩) (by simp; omega) (.bool true)
        refine ⟨((((((KeepsOthers.setCell _ _ _).trans (KeepsOthers.setCell _ _ _)).trans (KeepsOthers.setCell _ _ _)).trans (KeepsOthers.setCell _ _ _)).trans (KeepsOthers.setCell _ _ _)).trans (KeepsOthers.setCell _ _ _)).trans (KeepsOthers.setCell _ _ _) |>.from _, ⟨⟨⟨⟨rfl, pre, x, rfl, HC.out.1, HH.out⟩, ?_⟩, b3⟩, b4⟩⟩
        rw [e]
        exact b2
  case done =>
    rintro D zs W hD rfl ⟨⟨⟨⟨hp, c1⟩, c2⟩, c3⟩, hB1⟩ hK
    have y0 : W.cell? ⟨w.heap.size + 1, 0, none⟩ = some (.int .i64 0) := block_cell c2 0 _ rfl
    have y1 : W.cell? ⟨w.heap.size + 1, 1, none⟩ = some (.string ⟨#[]⟩) := block_cell c2 1 _ rfl
    have y2 : W.cell? ⟨w.heap.size + 1, 2, none⟩ = some (.int .i64 0) := block_cell c2 2 _ rfl
    have y3 : W.cell? ⟨w.heap.size + 1, 3, none⟩ = some (.int .i64 0) := block_cell c2 3 _ rfl
    have y4 : W.cell? ⟨w.heap.size + 1, 4, none⟩ = some (.int .i64 0) := block_cell c2 4 _ rfl
    have y5 : W.cell? ⟨w.heap.size + 1, 5, none⟩ = some (.bool false) := block_cell c2 5 _ rfl
    have z0 : W.cell? ⟨w.heap.size + 1 + 1, 0, none⟩ = some (.bool false) := block_cell c3 0 _ rfl
    have fy := block_free c2
    have fz := block_free c3
    have HC := Lib.hid (And.intro hp (And.intro c2 (And.intro c3 (And.intro hB1 hK))))
    clear hp c1 c2 c3 hB1 hK
    gi_wp2
    have b2 : BoxN _ (w.heap.size + 1) 25 primC0 := ((((((HC.out.2.1.set 0 (.int .i64 0)).set 1 (.string ⟨#[]⟩)).set 2 (.int .i64 0)).set 3 (.int .i64 0)).set 4 (.int .i64 0)).set 5 (.bool false)).other (B' := w.heap.size + 1 + 1) (by omega) 0 (.bool false)
    have b3 : BoxN _ (w.heap.size + 1 + 1) 4 #[.bool false] := ((((((HC.out.2.2.1.other (B' := w.heap.size + 1) (by omega) 0 (.int .i64 0)).other (B' := w.heap.size + 1) (by omega) 1 (.string ⟨#[]⟩)).other (B' := w.heap.size + 1) (by omega) 2 (.int .i64 0)).other (B' := w.heap.size + 1) (by omega) 3 (.int .i64 0)).other (B' := w.heap.size + 1) (by omega) 4 (.int .i64 0)).other (B' := w.heap.size + 1) (by omega) 5 (.bool false)).set 0 (.bool false)
    have b4 := ((((((HC.out.2.2.2.1.setCell (p := ⟨w.heap.size + 1, 0, none⟩) (by simp) (.int .i64 0)).setCell (p := ⟨w.heap.size + 1, 1, none⟩) (by simp) (.string ⟨#[]⟩)).setCell (p := ⟨w.heap.size + 1, 2, none⟩) (by simp) (.int .i64 0)).setCell (p := ⟨w.heap.size + 1, 3, none⟩) (by simp) (.int .i64 0)).setCell (p := ⟨w.heap.size + 1, 4, none⟩) (by simp) (.int .i64 0)).setCell (p := ⟨w.heap.size + 1, 5, none⟩) (by simp) (.bool false)).setCell (p := ⟨w.heap.size + 1 + 1, 0, none⟩) (by simp; omega) (.bool false)
    have hK' := (((((((KeepsOthers.setCell W ⟨w.heap.size + 1, 0, none⟩ (.int .i64 0)).trans (KeepsOthers.setCell _ ⟨w.heap.size + 1, 1, none⟩ (.string ⟨#[]⟩))).trans (KeepsOthers.setCell _ ⟨w.heap.size + 1, 2, none⟩ (.int .i64 0))).trans (KeepsOthers.setCell _ ⟨w.heap.size + 1, 3, none⟩ (.int .i64 0))).trans (KeepsOthers.setCell _ ⟨w.heap.size + 1, 4, none⟩ (.int .i64 0))).trans (KeepsOthers.setCell _ ⟨w.heap.size + 1, 5, none⟩ (.bool false))).trans (KeepsOthers.setCell _ ⟨w.heap.size + 1 + 1, 0, none⟩ (.bool false))).same D _ HC.out.2.2.2.2 rfl
    refine ⟨by simp, .inl ⟨_, _, rfl, run_takeDeferred hK', ?_⟩⟩
    have q2 := b2.putObj (D := D) (.deferred none) (by omega)
    have q3 := b3.putObj (D := D) (.deferred none) (by omega)
    refine ⟨.tuple #[primV0, .bool false], ?_, .inr ⟨HC.out.1, rfl⟩, b4.trans (belowK_b (w := w) (Nat.le_refl _) _ D _ _ (by omega) hK' rfl rfl)⟩
    have e0 := block_cell q2 0 _ rfl
    have e1 := block_cell q2 1 _ rfl
    have e2 := block_cell q2 2 _ rfl
    have e3 := block_cell q2 3 _ rfl
    have e4 := block_cell q2 4 _ rfl
    have e5 := block_cell q2 5 _ rfl
    have e6 := block_cell q3 0 _ rfl
    simp [results, Tryd.f16, go_sem, e0, e1, e2, e3, e4, e5, e6, primV0, primC0]
  case stop =>
    rintro D c pre W hD hpre ⟨⟨⟨⟨rfl, pre', k, rfl, hp, hh⟩, c2⟩, c3⟩, hB1⟩ hK
    have e : (pre' ++ [k]).getLast?.getD 0 = k := by simp
    rw [e] at c2
    have HC := Lib.hid (And.intro hp (And.intro c2 (And.intro c3 (And.intro hB1 hK))))
    clear hp c2 c3 hB1 hK e
    gi_wp2
    have hK' := HC.out.2.2.2.2
    refine ⟨by simp, .inl ⟨_, _, rfl, run_takeDeferred hK', ?_⟩⟩
    have q2 := HC.out.2.1.putObj (D := D) (.deferred none) (by omega)
    have q3 := HC.out.2.2.1.putObj (D := D) (.deferred none) (by omega)
    refine ⟨.tuple #[primV k, .bool true], ?_, .inl ⟨pre', k, hpre, HC.out.1, hh, rfl⟩, HC.out.2.2.2.1.trans (belowK_b (w := w) (Nat.le_refl _) _ D _ _ (by omega) hK' rfl rfl)⟩
    have e0 := block_cell q2 0 _ rfl
    have e1 := block_cell q2 1 _ rfl
    have e2 := block_cell q2 2 _ rfl
    have e3 := block_cell q2 3 _ rfl
    have e4 := block_cell q2 4 _ rfl
    have e5 := block_cell q2 5 _ rfl
    have e6 := block_cell q3 0 _ rfl
    simp [results, Tryd.f16, go_sem, e0, e1, e2, e3, e4, e5, e6, primV, primC]
end Go.Proofs.YtdnalhjdmlkbmaaDoor
