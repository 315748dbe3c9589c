/- PrimAll's walk. -/
import Derived.Test.YtdnalhjdmlkbmaaDoorFixed
import Derived.IntWalk
namespace Go.Proofs.YtdnalhjdmlkbmaaDoor
open Go.RowKit Go.Shelf
attribute [local go_sem] Oper.semAt_some

/-- same of two rows of different numbers. -/
theorem same_no (G : Nat → Nat) (a b c d : Int) (s : ByteArray) (o : Bool) (a' b' c' d' : Int) (s' : ByteArray) (o' : Bool) (h : (a == a') = false) (w : World) :
    Calls Tryd.prog 13 #[.agg #[.int .i64 a, .string s, .int .i64 b, .int .i64 c, .int .i64 d, .bool o], .agg #[.int .i64 a', .string s', .int .i64 b', .int .i64 c', .int .i64 d', .bool o']] w fun r w' => r = .returned (.bool false) ∧ ∃ G', Adv (fun _ => False) w G w' G' := by
  have hE := eqlPrim
  have hT : sameB a b c d s o a' b' c' d' s' o' = false := by simp [sameB, h]
  go_enter Tryd.func13, Tryd.ntmps13
  go_wp2
  go_ret
  exact ⟨rfl, _, ((Adv.refl _ w G).alloc _ 0).alloc _ 0⟩
theorem Adv.keeps {w w' : World} {G G' : Nat → Nat} (B : Nat) (h : Adv (fun _ => False) w G w' G') : KeepsFrom B w w' := ⟨h.size, fun k o _ h0 _ => (h.keep k (Array.getElem?_eq_some_iff.1 h0).1 id).trans h0⟩
theorem upTo_next {pre : List Nat} {x : Nat} (h : pre ++ [x] <+: upTo 63) : x = pre.length + 1 := by
  obtain ⟨r, hr⟩ := h
  have h1 : (upTo 63)[pre.length]? = some x := by rw [← hr]; simp
  unfold upTo at h1
  rw [List.getElem?_map] at h1
  cases hq : (List.range 63)[pre.length]? with
  | none => rw [hq] at h1; cases h1
  | some q =>
    rw [hq] at h1
    have := (List.getElem?_eq_some_iff.1 hq).2
    simp at this h1
    omega
theorem upTo_push (pre : List Nat) (h : pre = upTo pre.length) : pre ++ [pre.length + 1] = upTo (pre.length + 1) := by
  rw [upTo_succ, ← h]
/-- The count behind the first loop's jump. -/
def nv (E : Nat) (c : Code) (pre : List Nat) : Int := match c with
  | .ret => pre.length
  | _ => E
/-- How the first loop is left. -/
def Hop (E : Nat) (c : Code) (pre : List Nat) : Prop := (c = .exit 0 ∧ ∃ pre' x, pre = pre' ++ [x] ∧ pre'.length = E) ∨ (c = .ret ∧ ∃ pre' x, pre = pre' ++ [x] ∧ x ≠ pre'.length + 1)
/-- A row has come that is not the next one. -/
def Bad (pre : List Nat) : Prop := ∃ pre' x, pre = pre' ++ [x] ∧ x ≠ pre'.length + 1
theorem Bad.no {pre : List Nat} (h : Bad pre) (hp : pre <+: upTo 63) : False := by
  obtain ⟨pre', x, rfl, hx⟩ := h
  exact hx (upTo_next hp)
theorem own_heap {β : Type} {B D : Nat} (o : Obj) (h : D < B) : OwnFrom B (fun (_ : β) W => W.heap[D]? = some o) := fun s X Y row hs hg hr =>
  (hg.block D (Array.getElem?_eq_some_iff.1 hs).1 (fun e => by have := (hr D e.symm).1; omega)).trans hs
theorem seqNil (w : World) : (binOp BinOp.eql 37 (.func (.func 50) #[] #[]) .nilFunc).run Tryd.prog w = .ok (.bool false) w := by kernel_rfl
attribute [local go_sem] seqNil
set_option maxRecDepth 100000 in
set_option maxHeartbeats 4000000 in
theorem allLaw_in (y : Int) (w : World) (ht : Tabs w (fun _ => 0)) :
    CallsIn Fence.wide 12 Tryd.prog 4 #[.int .i64 y] w fun e w' => e = .returned (.bool true) ∧ Below w.heap.size w w' := by
  refine callsIn_of_wp_marks Tryd.func4 rfl trivial ?_ rfl
  simp only [Tryd.ntmps4, List.size_toArray, List.length_cons, List.length_nil, Nat.reduceAdd, Nat.reduceSub, Array.replicate_succ, Array.replicate_zero, List.push_toArray, List.append_toArray, List.nil_append, List.cons_append]
  gi_wp2_with (fail)
  refine ⟨trivial, ?_⟩
  refine (callsIn_wide.2 (all_any _)).mono ?_
  rintro e w' ⟨rfl, rfl⟩
  gi_wp2_with (fail)
  refine ⟨trivial, ?_⟩
  have b1 := ((BoxN.new w 3 #[.int .i64 y]).alloc (.cells #[.bool false] 4)).alloc (.cells #[.func (.func 50) #[] #[]] 37)
  have b2 := (BoxN.new (w.alloc (.cells #[.int .i64 y] 3)) 4 #[.bool false]).alloc (.cells #[.func (.func 50) #[] #[]] 37)
  have b3 := BoxN.new ((w.alloc (.cells #[.int .i64 y] 3)).alloc (.cells #[.bool false] 4)) 37 #[.func (.func 50) #[] #[]]
  simp only [World.size_alloc] at b2 b3
  have hB0 : Below w.heap.size w (((w.alloc (.cells #[.int .i64 y] 3)).alloc (.cells #[.bool false] 4)).alloc (.cells #[.func (.func 50) #[] #[]] 37)) := (((Below.refl _ w).alloc (Nat.le_refl _) _).alloc (by simp) _).alloc (by simp; omega) _
  have h4 : 4 ≤ w.heap.size := by
    have := World.block_lt_of_cell? w _ (ht.names 0 (by omega)); have := World.block_lt_of_cell? w _ (ht.takes 0 (by omega)); have := World.block_lt_of_cell? w _ (ht.leaves 0 (by omega)); have := World.block_lt_of_cell? w _ (ht.costs 0 (by omega)); simp at *; omega
  have hT0 := Tabs.below hB0 h4 ht
  have HB0 := Lib.hid (And.intro hB0 (And.intro b1 (And.intro b2 b3)))
  have HT := Lib.hid (And.intro ht h4)
  clear ht h4 hB0 b1 b2 b3
  refine (callsIn_wide.2 (fixed_any (fun _ => 0) _ hT0)).mono ?_
  rintro e w1 ⟨rfl, G1, ha1⟩
  have c1 : BoxN w1 w.heap.size 3 #[.int .i64 y] := (ha1.keep _ HB0.out.2.1.lt id).trans HB0.out.2.1
  have c2 : BoxN w1 (w.heap.size + 1) 4 #[.bool false] := (ha1.keep _ HB0.out.2.2.1.lt id).trans HB0.out.2.2.1
  have c3 : BoxN w1 (w.heap.size + 1 + 1) 37 #[.func (.func 50) #[] #[]] := (ha1.keep _ HB0.out.2.2.2.lt id).trans HB0.out.2.2.2
  have hB1 : Below w.heap.size w w1 := HB0.out.1.trans ((ha1.below (Nat.le_refl _) fun _ _ => id).mono HB0.out.1.size)
  have d1 : w1.cell? ⟨w.heap.size, 0, none⟩ = some (.int .i64 y) := block_cell c1 0 _ rfl
  have f1 := block_free c1
  have d3 : w1.cell? ⟨w.heap.size + 1 + 1, 0, none⟩ = some (.func (.func 50) #[] #[]) := block_cell c3 0 _ rfl
  have hs1 : w.heap.size + 1 + 1 < w1.heap.size := c3.lt
  have f3 := block_free c3
  have HC := Lib.hid (And.intro hB1 (And.intro c1 (And.intro c2 c3)))
  clear ha1 hT0 hB1 c1 c2 c3
  obtain ⟨E, hE, hE2⟩ : ∃ E : Nat, E < 64 ∧ (wrap64 (y.tmod 64 + 64)).tmod 64 = (E : Int) := by
    have h1 := Int.tmod_lt_of_pos y (show (0 : Int) < 64 by decide)
    have h2 := Int.lt_tmod_of_pos y (show (0 : Int) < 64 by decide)
    rw [show wrap64 (y.tmod 64 + 64) = y.tmod 64 + 64 from by unfold wrap64; omega, Int.tmod_eq_emod_of_nonneg (by omega)]
    exact ⟨((y.tmod 64 + 64) % 64).toNat, by omega, by omega⟩
  gi_wp2_with (fail)
  obtain ⟨N, hN⟩ : ∃ N, w1.heap.size = N := ⟨_, rfl⟩
  have e1 : BoxN ((w1.setCell ⟨w.heap.size, 0, none⟩ (.int .i64 E)).alloc (.cells #[.int .i64 0] 3)) w.heap.size 3 #[.int .i64 E] := (HC.out.2.1.set 0 (.int .i64 E)).alloc _
  have e2 : BoxN ((w1.setCell ⟨w.heap.size, 0, none⟩ (.int .i64 E)).alloc (.cells #[.int .i64 0] 3)) (w.heap.size + 1) 4 #[.bool false] := (HC.out.2.2.1.other (B' := w.heap.size) (by omega) 0 (.int .i64 E)).alloc _
  have e3 : BoxN ((w1.setCell ⟨w.heap.size, 0, none⟩ (.int .i64 E)).alloc (.cells #[.int .i64 0] 3)) (w.heap.size + 1 + 1) 37 #[.func (.func 50) #[] #[]] := (HC.out.2.2.2.other (B' := w.heap.size) (by omega) 0 (.int .i64 E)).alloc _
  have e4 : BoxN ((w1.setCell ⟨w.heap.size, 0, none⟩ (.int .i64 E)).alloc (.cells #[.int .i64 0] 3)) N 3 #[.int .i64 0] := by
    have := BoxN.new (w1.setCell ⟨w.heap.size, 0, none⟩ (.int .i64 E)) 3 #[.int .i64 0]
    simp only [World.size_setCell, hN] at this
    exact this
  have hB2 : Below w.heap.size w ((w1.setCell ⟨w.heap.size, 0, none⟩ (.int .i64 E)).alloc (.cells #[.int .i64 0] 3)) := (HC.out.1.setCell (p := ⟨w.heap.size, 0, none⟩) (by simp) (.int .i64 E)).alloc (by simp; have := HC.out.1.size; omega) _
  rw [hN] at hs1 ⊢
  obtain ⟨W0, hW0⟩ : ∃ W0, (w1.setCell ⟨w.heap.size, 0, none⟩ (.int .i64 E)).alloc (.cells #[.int .i64 0] 3) = W0 := ⟨_, rfl⟩
  have hsz : W0.heap.size = N + 1 := by rw [← hW0]; simp [hN]
  rw [hW0] at e1 e2 e3 e4 hB2 ⊢
  have hT0 := Tabs.below hB2 HT.out.2 HT.out.1
  clear hW0 d1 f1 d3 f3 HC HB0 hE2 hN
  rename_i Kt hKt
  have tail : ∀ (D : Nat) (n : Nat) (W : World), E = n → w.heap.size ≤ D → W.heap[D]? = some (.deferred (some [])) → BoxN W w.heap.size 3 #[.int .i64 E] → BoxN W (w.heap.size + 1) 4 #[.bool false] → BoxN W (w.heap.size + 1 + 1) 37 #[.func (.func 50) #[] #[]] → BoxN W N 3 #[.int .i64 n] → Below w.heap.size w W →
      Kt { tmps := #[.int .i64 y, .pointer (some ⟨w.heap.size, 0, none⟩), .pointer (some ⟨w.heap.size + 1, 0, none⟩), .pointer (some ⟨w.heap.size + 1 + 1, 0, none⟩), .pointer (some ⟨N, 0, none⟩), undef, undef, undef, undef, undef, undef, undef, .func (.func 50) #[] #[], .func (.func 50) #[] #[], .bool false, .bool false, .bool true, .bool false, .bool false, .int .i64 y, .int .i64 (y.tmod 64), .int .i64 (wrap64 (y.tmod 64 + 64)), .int .i64 E, .func (.func 50) #[] #[], undef, undef, undef, undef, undef, undef, undef, undef, undef, undef, undef, undef, undef, undef, undef, undef, undef, undef, undef, undef, undef, undef, undef, undef, undef, undef, undef, undef, undef, undef, undef, undef, undef, undef, undef, undef, undef, undef, undef, undef, undef, undef, undef, undef, undef, undef, undef, undef, undef], defers := [{ target := .collected D, args := #[] }] } W := by
    intro D n W hn hD hK c1 c2 c3 c4 hB
    subst hn
    refine hKt _ _ ?_
    clear hKt
    have d1 : W.cell? ⟨w.heap.size, 0, none⟩ = some (.int .i64 E) := block_cell c1 0 _ rfl
    have d4 : W.cell? ⟨N, 0, none⟩ = some (.int .i64 E) := block_cell c4 0 _ rfl
    have d3 : W.cell? ⟨w.heap.size + 1 + 1, 0, none⟩ = some (.func (.func 50) #[] #[]) := block_cell c3 0 _ rfl
    have f3 := block_free c3
    have hb1 : (E : Int) ≤ 63 := by omega
    have hb2 : decide ((63 : Int) < E) = false := by simp; omega
    have hN3 := c4.lt
    have hsw : w.heap.size + 1 + 1 < W.heap.size := by omega
    have HC := Lib.hid (And.intro c1 (And.intro c2 (And.intro c3 (And.intro c4 (And.intro hB hK)))))
    clear c1 c2 c3 c4 hB hK
    gi_wp2_with (fail)
    obtain ⟨O, hO⟩ : ∃ O, W.heap.size = O := ⟨_, rfl⟩
    obtain ⟨c1, c2, c3, c4, hB, hK⟩ := HC.out
    have g2 := c2.alloc (.cells #[.int .i64 0] 3)
    have g3 := c3.alloc (.cells #[.int .i64 0] 3)
    have g4 := BoxN.new W 3 #[.int .i64 0]
    have gB := hB.alloc hB.size (.cells #[.int .i64 0] 3)
    have gK := (heap_past W (.cells #[.int .i64 0] 3) D (Array.getElem?_eq_some_iff.1 hK).1).trans hK
    have hDO : D < O := by rw [← hO]; exact (Array.getElem?_eq_some_iff.1 hK).1
    have hNO : N < O := by rw [← hO]; exact hN3
    obtain ⟨V0, hV0⟩ : ∃ V0, W.alloc (.cells #[.int .i64 0] 3) = V0 := ⟨_, rfl⟩
    have hVs : V0.heap.size = O + 1 := by rw [← hV0]; simp [hO]
    rw [hO] at g4 ⊢
    rw [hV0] at g2 g3 g4 gB gK ⊢
    have hTV := Tabs.below gB HT.out.2 HT.out.1
    clear hV0 d1 d4 d3 f3 HC hO c1 c2 c3 c4 hB hK hN3 hsw hb1 hb2 e1 e2 e3 e4 hB2 hsz hT0
    refine wpIn_rangeFunc_ownH rfl (by omega) (gf := 50) (lb := #[]) rfl trivial (enters_of Tryd.func50 (by kernel_rfl) rfl)
      (all_stops 11 (by omega) w.heap.size HT.out.2 V0 hTV) belowK_t (belowK_b (by omega)) (Below.refl _ _) (fun _ => rfl)
      (fun pre W => (((((pre = upTo pre.length) ∧ BoxN W (w.heap.size + 1) 4 #[.bool false]) ∧ BoxN W (w.heap.size + 1 + 1) 37 #[.func (.func 50) #[] #[]]) ∧ BoxN W O 3 #[.int .i64 pre.length]) ∧ W.heap[D]? = some (.deferred (some []))) ∧ Below w.heap.size w W)
      (fun c pre _ => c = .ret ∧ Bad pre)
      (OwnFrom.and (OwnFrom.and (OwnFrom.and (OwnFrom.and (OwnFrom.and (ownFrom_pure _ _) (Own.from (boxN_own _ _ _) _)) (Own.from (boxN_own _ _ _) _)) (Own.from (boxN_own _ _ _) _)) (own_heap _ (by omega))) (ownFrom_below (Nat.le_refl _) (by omega)))
      (fun c => ownFrom_pure _ _)
      ⟨⟨⟨⟨⟨rfl, g2⟩, g3⟩, g4⟩, gK⟩, gB⟩
      (fun x a' W => ∃ Bx, O < Bx ∧ BoxN W Bx 25 (primC x) ∧ a' = { tmps := #[.int .i64 y, .pointer (some ⟨w.heap.size, 0, none⟩), .pointer (some ⟨w.heap.size + 1, 0, none⟩), .pointer (some ⟨w.heap.size + 1 + 1, 0, none⟩), .pointer (some ⟨N, 0, none⟩), undef, undef, undef, .pointer (some ⟨O, 0, none⟩), .pointer (some ⟨Bx, 0, none⟩), undef, undef, .func (.func 50) #[] #[], .func (.func 50) #[] #[], .bool false, .bool false, .bool true, .bool false, .bool false, .int .i64 y, .int .i64 (y.tmod 64), .int .i64 (wrap64 (y.tmod 64 + 64)), .int .i64 E, .func (.func 50) #[] #[], undef, undef, undef, undef, undef, undef, undef, undef, undef, undef, undef, undef, undef, undef, undef, .int .i64 E, .int .i64 E, .int .i64 E, .bool false, .func (.func 50) #[] #[], primV x, undef, undef, undef, undef, undef, undef, undef, undef, undef, undef, undef, undef, undef, undef, undef, undef, undef, undef, undef, undef, undef, undef, undef, undef, undef, undef, undef, undef], defers := [] })
      (fun x a' _ X Y row hs hg hr => by obtain ⟨Bx, e1, e2, e3⟩ := hs; exact ⟨Bx, e1, boxN_own Bx 25 (fun (_ : Unit) => primC x) () X Y row e2 hg (fun r e => (hr r e).2), e3⟩)
      ?assign ?body ?done ?stop
    case assign =>
      rintro l pre x W K ⟨⟨⟨⟨⟨hp, c2⟩, c3⟩, c4⟩, hK⟩, hB1⟩ hQ
      have hz3 := c4.lt
      unfold primV at hQ ⊢
      gi_wp2
      exact hQ _ _ ((KeepsOthers.alloc _ _).from _) ((Below.refl _ W).alloc hB1.size _) ⟨⟨⟨⟨⟨hp, c2.alloc _⟩, c3.alloc _⟩, c4.alloc _⟩, (heap_past W _ D (by omega)).trans hK⟩, hB1.alloc hB1.size _⟩ ⟨W.heap.size, by omega, BoxN.new W _ _, rfl⟩
    case body =>
      rintro l pre x a' W hl ⟨r, hr⟩ ⟨⟨⟨⟨⟨hp, c2⟩, c3⟩, c4⟩, hK⟩, hB1⟩ ⟨Bx, hBx, bX, rfl⟩ hlt
      have d3 : W.cell? ⟨w.heap.size + 1 + 1, 0, none⟩ = some (.func (.func 50) #[] #[]) := block_cell c3 0 _ rfl
      have d4 : W.cell? ⟨O, 0, none⟩ = some (.int .i64 pre.length) := block_cell c4 0 _ rfl
      have f3 := block_free c3
      have f4 := block_free c4
      have hsw := c4.lt
      have hw1 : w.heap.size + 1 + 1 < O := by omega
      have hw2 : w.heap.size + 1 + 1 < W.heap.size := by omega
      have HC := Lib.hid (And.intro hp (And.intro c2 (And.intro c3 (And.intro c4 (And.intro hK (And.intro hB1 bX))))))
      have HRr := Lib.hid hr
      clear hp c2 c3 c4 hK hB1 bX hr
      unfold primV
      gi_wp2_with (fail)
      obtain ⟨In, hIn⟩ : ∃ In, W.heap.size = In := ⟨_, rfl⟩
      obtain ⟨hp, c2, c3, c4, hK, hB1, bX⟩ := HC.out
      have g2 := (c2.other (B' := O) (by omega) 0 (.int .i64 (pre.length + 1))).alloc (.cells #[.int .i64 0] 3)
      have g3 := (c3.other (B' := O) (by omega) 0 (.int .i64 (pre.length + 1))).alloc (.cells #[.int .i64 0] 3)
      have g4 : BoxN ((W.setCell ⟨O, 0, none⟩ (.int .i64 (pre.length + 1))).alloc (.cells #[.int .i64 0] 3)) O 3 #[.int .i64 (pre.length + 1)] := (c4.set 0 (.int .i64 (pre.length + 1))).alloc (.cells #[.int .i64 0] 3)
      have gX := (bX.other (B' := O) (by omega) 0 (.int .i64 (pre.length + 1))).alloc (.cells #[.int .i64 0] 3)
      have g5 := BoxN.new (W.setCell ⟨O, 0, none⟩ (.int .i64 (pre.length + 1))) 3 #[.int .i64 0]
      have hKV := (heap_past (W.setCell ⟨O, 0, none⟩ (.int .i64 (pre.length + 1))) (.cells #[.int .i64 0] 3) D (by simp; omega)).trans ((Below.heap_setCell W ⟨O, 0, none⟩ (.int .i64 (pre.length + 1)) D (by simp; omega)).trans hK)
      have hrV := (heap_past (W.setCell ⟨O, 0, none⟩ (.int .i64 (pre.length + 1))) (.cells #[.int .i64 0] 3) l (by simpa using (Array.getElem?_eq_some_iff.1 HRr.out).1)).trans ((Below.heap_setCell W ⟨O, 0, none⟩ (.int .i64 (pre.length + 1)) l (by simp; omega)).trans HRr.out)
      have lV : Below w.heap.size W ((W.setCell ⟨O, 0, none⟩ (.int .i64 (pre.length + 1))).alloc (.cells #[.int .i64 0] 3)) := ((Below.refl _ W).setCell (p := ⟨O, 0, none⟩) (by simp; omega) (.int .i64 (pre.length + 1))).alloc (by simp; omega) _
      have kV : KeepsFrom V0.heap.size W ((W.setCell ⟨O, 0, none⟩ (.int .i64 (pre.length + 1))).alloc (.cells #[.int .i64 0] 3)) := ((KeepsOthers.setCell W ⟨O, 0, none⟩ (.int .i64 (pre.length + 1))).from _).trans ((KeepsOthers.alloc _ _).from _)
      obtain ⟨V, hV⟩ : ∃ V, (W.setCell ⟨O, 0, none⟩ (.int .i64 (pre.length + 1))).alloc (.cells #[.int .i64 0] 3) = V := ⟨_, rfl⟩
      have hVsz : V.heap.size = In + 1 := by rw [← hV]; simp [hIn]
      have hBxI : Bx < W.heap.size := bX.lt
      rw [hIn] at hBxI
      simp only [World.size_setCell] at g5
      rw [hIn] at g5 ⊢ hsw hw2
      rw [hV] at g2 g3 g4 g5 gX hKV hrV lV kV ⊢
      have hTV2 := Tabs.below (hB1.trans lV) HT.out.2 HT.out.1
      have HP := Lib.hid hp
      clear hV d3 d4 f3 f4 c2 c3 c4 hK bX HC HRr hp
      have hsW := hB1.size
      refine wpIn_rangeFunc_ownN (l₀ := l) (r₀ := r) rfl hrV (by omega) (gf := 50) (lb := #[]) rfl trivial (enters_of Tryd.func50 (by kernel_rfl) rfl)
        ((all_stops 9 (by omega) w.heap.size HT.out.2 V hTV2).inRound l) belowK_t (belowK_b (by omega)) (Below.refl _ _) (fun _ => rfl)
        (fun pre' W' => (((((((pre' = upTo pre'.length) ∧ BoxN W' (w.heap.size + 1) 4 #[.bool false]) ∧ BoxN W' (w.heap.size + 1 + 1) 37 #[.func (.func 50) #[] #[]]) ∧ BoxN W' O 3 #[.int .i64 (pre.length + 1)]) ∧ BoxN W' In 3 #[.int .i64 pre'.length]) ∧ BoxN W' Bx 25 (primC x)) ∧ W'.heap[D]? = some (.deferred (some []))) ∧ (Below w.heap.size W W' ∧ KeepsFrom V0.heap.size W W'))
        (fun c pre' _ => c = .ret ∧ Bad pre')
        (OwnFrom.and (OwnFrom.and (OwnFrom.and (OwnFrom.and (OwnFrom.and (OwnFrom.and (OwnFrom.and (ownFrom_pure _ _) (Own.from (boxN_own _ _ _) _)) (Own.from (boxN_own _ _ _) _)) (Own.from (boxN_own _ _ _) _)) (Own.from (boxN_own _ _ _) _)) (Own.from (boxN_own _ _ _) _)) (own_heap _ (by omega))) (OwnFrom.and (ownFrom_below hsW (by omega)) (ownFrom_keepsFrom (by omega))))
        (fun c => ownFrom_pure _ _)
        ⟨⟨⟨⟨⟨⟨⟨rfl, g2⟩, g3⟩, g4⟩, g5⟩, gX⟩, hKV⟩, lV, kV⟩
        (fun z a' W => ∃ By, In < By ∧ BoxN W By 25 (primC z) ∧ a' = { tmps := #[.int .i64 y, .pointer (some ⟨w.heap.size, 0, none⟩), .pointer (some ⟨w.heap.size + 1, 0, none⟩), .pointer (some ⟨w.heap.size + 1 + 1, 0, none⟩), .pointer (some ⟨N, 0, none⟩), undef, undef, undef, .pointer (some ⟨O, 0, none⟩), .pointer (some ⟨Bx, 0, none⟩), .pointer (some ⟨In, 0, none⟩), .pointer (some ⟨By, 0, none⟩), .func (.func 50) #[] #[], .func (.func 50) #[] #[], .bool false, .bool false, .bool true, .bool false, .bool false, .int .i64 y, .int .i64 (y.tmod 64), .int .i64 (wrap64 (y.tmod 64 + 64)), .int .i64 E, .func (.func 50) #[] #[], undef, undef, undef, undef, undef, undef, undef, undef, undef, undef, undef, undef, undef, undef, undef, .int .i64 E, .int .i64 E, .int .i64 E, .bool false, .func (.func 50) #[] #[], primV x, .int .i64 pre.length, .int .i64 (pre.length + 1), .func (.func 50) #[] #[], primV z, undef, undef, undef, undef, undef, undef, undef, undef, undef, undef, undef, undef, undef, undef, undef, undef, undef, undef, undef, undef, undef, undef, undef, undef], defers := [] })
        (fun x a' _ X Y row hs hg hr => by obtain ⟨Bx, e1, e2, e3⟩ := hs; exact ⟨Bx, e1, boxN_own Bx 25 (fun (_ : Unit) => primC x) () X Y row e2 hg (fun r e => (hr r e).2), e3⟩)
        ?assign2 ?body2 ?done2 ?stop2
      case assign2 =>
        rintro l2 pre' z W' K ⟨⟨⟨⟨⟨⟨⟨hq, q2⟩, q3⟩, q4⟩, q5⟩, qX⟩, qK⟩, qB, qF⟩ hQ
        have hz5 := q5.lt
        have HQ := Lib.hid hq
        clear hq
        unfold primV at hQ ⊢
        gi_wp2
        exact hQ _ _ ((KeepsOthers.alloc _ _).from _) ((Below.refl _ W').alloc (by omega) _) ⟨⟨⟨⟨⟨⟨⟨HQ.out, q2.alloc _⟩, q3.alloc _⟩, q4.alloc _⟩, q5.alloc _⟩, qX.alloc _⟩, (heap_past W' _ D (by omega)).trans qK⟩, qB.alloc (by omega) _, qF.trans ((KeepsOthers.alloc _ _).from _)⟩ ⟨W'.heap.size, by omega, BoxN.new W' _ _, rfl⟩
      case body2 =>
        rintro l2 pre' z a'' W' _ _ ⟨⟨⟨⟨⟨⟨⟨hq, q2⟩, q3⟩, q4⟩, q5⟩, qX⟩, qK⟩, qB, qF⟩ ⟨By, hBy, bY, rfl⟩ hlt2
        have d5 : W'.cell? ⟨In, 0, none⟩ = some (.int .i64 pre'.length) := block_cell q5 0 _ rfl
        have f5 := block_free q5
        have y0 : W'.cell? ⟨By, 0, none⟩ = some (.int .i64 z) := block_cell bY 0 _ rfl
        have r0 : W'.cell? ⟨w.heap.size + 1, 0, none⟩ = some (.bool false) := block_cell q2 0 _ rfl
        have rf := block_free q2
        have hle : decide ((63 : Int) < (pre'.length : Int) + 1) = false := by simp; omega
        have HQ := Lib.hid (And.intro hq (And.intro q2 (And.intro q3 (And.intro q4 (And.intro q5 (And.intro qX (And.intro qK (And.intro qB qF))))))))
        clear hq q2 q3 q4 q5 qX qK qB qF bY
        unfold primV
        by_cases hz : z = pre'.length + 1
        · have hb : ((z : Int) != (pre'.length : Int) + 1) = false := by simp; omega
          gi_wp2_with (fail)
          have hlen : (pre' ++ [z]).length = pre'.length + 1 := by simp
          refine ⟨(KeepsOthers.setCell _ _ _).from _, (Below.refl _ W').setCell (p := ⟨In, 0, none⟩) (by simp; omega) _, ⟨⟨⟨⟨⟨⟨⟨?_, HQ.out.2.1.other (B' := In) (by omega) 0 _⟩, HQ.out.2.2.1.other (B' := In) (by omega) 0 _⟩, HQ.out.2.2.2.1.other (B' := In) (by omega) 0 _⟩, ?_⟩, HQ.out.2.2.2.2.2.1.other (B' := In) (by omega) 0 _⟩, (Below.heap_setCell W' ⟨In, 0, none⟩ _ D (by simp; omega)).trans HQ.out.2.2.2.2.2.2.1⟩, HQ.out.2.2.2.2.2.2.2.1.setCell (p := ⟨In, 0, none⟩) (by simp; omega) _, HQ.out.2.2.2.2.2.2.2.2.trans ((KeepsOthers.setCell _ _ _).from _)⟩⟩
          · rw [hlen, hz]; exact upTo_push pre' HQ.out.1
          · rw [hlen]; exact HQ.out.2.2.2.2.1.set 0 (.int .i64 (pre'.length + 1))
        · have hb : ((z : Int) != (pre'.length : Int) + 1) = true := by simp; omega
          gi_wp2_with (fail)
          exact ⟨((KeepsOthers.setCell _ _ _).trans (KeepsOthers.setCell _ _ _)).from _, rfl, pre', z, rfl, hz⟩
      case done2 =>
        rintro ys W' rfl ⟨⟨⟨⟨⟨⟨⟨hq, q2⟩, q3⟩, q4⟩, q5⟩, qX⟩, qK⟩, qB, qF⟩
        rw [upTo_length] at q5
        have d5 : W'.cell? ⟨In, 0, none⟩ = some (.int .i64 63) := block_cell q5 0 _ rfl
        have d4 : W'.cell? ⟨O, 0, none⟩ = some (.int .i64 (pre.length + 1)) := block_cell q4 0 _ rfl
        have x0 : W'.cell? ⟨Bx, 0, none⟩ = some (.int .i64 x) := block_cell qX 0 _ rfl
        have r0 : W'.cell? ⟨w.heap.size + 1, 0, none⟩ = some (.bool false) := block_cell q2 0 _ rfl
        have rf := block_free q2
        have hle : decide ((63 : Int) < (pre.length : Int) + 1) = false := by simp; omega
        have HQ := Lib.hid (And.intro hq (And.intro q2 (And.intro q3 (And.intro q4 (And.intro qK (And.intro qB qF))))))
        clear hq q2 q3 q4 q5 qX qK qB qF
        by_cases hx : x = pre.length + 1
        · have hb : ((x : Int) != (pre.length : Int) + 1) = false := by simp; omega
          gi_wp2_with (fail)
          have hlen : (pre ++ [x]).length = pre.length + 1 := by simp
          refine ⟨HQ.out.2.2.2.2.2.2, HQ.out.2.2.2.2.2.1, ⟨⟨⟨⟨⟨?_, HQ.out.2.1⟩, HQ.out.2.2.1⟩, ?_⟩, HQ.out.2.2.2.2.1⟩, hB1.trans HQ.out.2.2.2.2.2.1⟩⟩
          · rw [hlen, hx]; exact upTo_push pre HP.out
          · rw [hlen]; exact HQ.out.2.2.2.1
        · have hb : ((x : Int) != (pre.length : Int) + 1) = true := by simp; omega
          gi_wp2_with (fail)
          exact ⟨HQ.out.2.2.2.2.2.2.trans ((KeepsOthers.setCell _ _ _).from _), rfl, pre, x, rfl, hx⟩
      case stop2 =>
        rintro c pre' W' hpre ⟨rfl, hbad⟩
        exact (hbad.no hpre).elim
    case done =>
      rintro D2 zs W hD rfl ⟨⟨⟨⟨⟨hp, c2⟩, c3⟩, c4⟩, hK⟩, hB1⟩ hK2
      rw [upTo_length] at c4
      have d4 : W.cell? ⟨O, 0, none⟩ = some (.int .i64 63) := block_cell c4 0 _ rfl
      have r0 : W.cell? ⟨w.heap.size + 1, 0, none⟩ = some (.bool false) := block_cell c2 0 _ rfl
      have rf := block_free c2
      have HC := Lib.hid (And.intro hp (And.intro c2 (And.intro hK (And.intro hK2 hB1))))
      clear hp c2 c3 c4 hK hK2 hB1
      gi_wp2_with (fail)
      have hDne : D2 ≠ D := by omega
      have hne : w.heap.size + 1 ≠ D := fun e => by
        have h1 := HC.out.2.1
        unfold BoxN at h1
        rw [e, HC.out.2.2.1] at h1
        cases h1
      have k2 := (KeepsOthers.setCell W ⟨w.heap.size + 1, 0, none⟩ (.bool true)).same D2 _ HC.out.2.2.2.1 rfl
      have k1 := (KeepsOthers.setCell W ⟨w.heap.size + 1, 0, none⟩ (.bool true)).same D _ HC.out.2.2.1 rfl
      have k1' : ((W.setCell ⟨w.heap.size + 1, 0, none⟩ (.bool true)).putObj D2 (.deferred none)).heap[D]? = some (.deferred (some [])) := (World.putObj_heap_other (Ne.symm hDne)).trans k1
      refine ⟨by simp, .inl ⟨_, _, rfl, run_takeDeferred k2, ?_⟩⟩
      refine ⟨by simp, .inl ⟨_, _, rfl, run_takeDeferred k1', ?_⟩⟩
      have q2 := ((HC.out.2.1.set 0 (.bool true)).putObj (D := D2) (.deferred none) (by omega)).putObj (D := D) (.deferred none) hne
      refine ⟨.bool true, ?_, rfl, ?_⟩
      · have e0 := block_cell q2 0 _ rfl
        simp [results, Tryd.f4, go_sem, e0]
      · exact ((HC.out.2.2.2.2.setCell (p := ⟨w.heap.size + 1, 0, none⟩) (by simp) (.bool true)).trans (belowK_b (w := w) (Nat.le_refl _) _ D2 _ _ (by omega) k2 rfl rfl)).trans (belowK_b (w := w) (Nat.le_refl _) _ D _ _ (by omega) k1' rfl rfl)
    case stop =>
      rintro D2 c pre W hD hpre ⟨rfl, hbad⟩ hK
      exact (hbad.no hpre).elim
  refine wpIn_rangeFunc_ownH rfl (by omega) (gf := 50) (lb := #[]) rfl trivial (enters_of Tryd.func50 (by kernel_rfl) rfl)
    (all_stops 11 (by omega) w.heap.size HT.out.2 W0 hT0) belowK_t (belowK_b (by omega)) (Below.refl _ _) (fun _ => rfl)
    (fun pre W => (((((pre = upTo pre.length ∧ pre.length ≤ E) ∧ BoxN W w.heap.size 3 #[.int .i64 E]) ∧ BoxN W (w.heap.size + 1) 4 #[.bool false]) ∧ BoxN W (w.heap.size + 1 + 1) 37 #[.func (.func 50) #[] #[]]) ∧ BoxN W N 3 #[.int .i64 pre.length]) ∧ Below w.heap.size w W)
    (fun c pre W => ((((Hop E c pre ∧ BoxN W w.heap.size 3 #[.int .i64 E]) ∧ BoxN W (w.heap.size + 1) 4 #[.bool false]) ∧ BoxN W (w.heap.size + 1 + 1) 37 #[.func (.func 50) #[] #[]]) ∧ BoxN W N 3 #[.int .i64 (nv E c pre)]) ∧ Below w.heap.size w W)
    (OwnFrom.and (OwnFrom.and (OwnFrom.and (OwnFrom.and (OwnFrom.and (ownFrom_pure _ _) (Own.from (boxN_own _ _ _) _)) (Own.from (boxN_own _ _ _) _)) (Own.from (boxN_own _ _ _) _)) (Own.from (boxN_own _ _ _) _)) (ownFrom_below (Nat.le_refl _) (by omega)))
    (fun c => OwnFrom.and (OwnFrom.and (OwnFrom.and (OwnFrom.and (OwnFrom.and (ownFrom_pure _ _) (Own.from (boxN_own _ _ _) _)) (Own.from (boxN_own _ _ _) _)) (Own.from (boxN_own _ _ _) _)) (Own.from (boxN_own _ _ _) _)) (ownFrom_below (Nat.le_refl _) (by omega)))
    ⟨⟨⟨⟨⟨⟨rfl, Nat.zero_le _⟩, e1⟩, e2⟩, e3⟩, e4⟩, hB2⟩
    (fun x a' W => ∃ Bx, N < Bx ∧ BoxN W Bx 25 (primC x) ∧ a' = { tmps := #[.int .i64 y, .pointer (some ⟨w.heap.size, 0, none⟩), .pointer (some ⟨w.heap.size + 1, 0, none⟩), .pointer (some ⟨w.heap.size + 1 + 1, 0, none⟩), .pointer (some ⟨N, 0, none⟩), .pointer (some ⟨Bx, 0, none⟩), undef, undef, undef, undef, undef, undef, .func (.func 50) #[] #[], .func (.func 50) #[] #[], .bool false, .bool false, .bool true, .bool false, .bool false, .int .i64 y, .int .i64 (y.tmod 64), .int .i64 (wrap64 (y.tmod 64 + 64)), .int .i64 E, .func (.func 50) #[] #[], primV x, undef, undef, undef, undef, undef, undef, undef, undef, undef, undef, undef, undef, undef, undef, undef, undef, undef, undef, undef, undef, undef, undef, undef, undef, undef, undef, undef, undef, undef, undef, undef, undef, undef, undef, undef, undef, undef, undef, undef, undef, undef, undef, undef, undef, undef, undef, undef, undef], defers := [] })
    (fun x a' _ X Y row hs hg hr => by obtain ⟨Bx, e1, e2, e3⟩ := hs; exact ⟨Bx, e1, boxN_own Bx 25 (fun (_ : Unit) => primC x) () X Y row e2 hg (fun r e => (hr r e).2), e3⟩)
    ?assign ?body ?done ?stop
  case assign =>
    rintro l pre x W K ⟨⟨⟨⟨⟨hp, c1⟩, c2⟩, c3⟩, c4⟩, hB1⟩ hK
    have hz3 := c4.lt
    unfold primV at hK ⊢
    gi_wp2
    exact hK _ _ ((KeepsOthers.alloc _ _).from _) ((Below.refl _ W).alloc hB1.size _) ⟨⟨⟨⟨⟨hp, c1.alloc _⟩, c2.alloc _⟩, c3.alloc _⟩, c4.alloc _⟩, hB1.alloc hB1.size _⟩ ⟨W.heap.size, by omega, BoxN.new W _ _, rfl⟩
  case body =>
    rintro l pre x a' W hl ⟨r, hr⟩ ⟨⟨⟨⟨⟨⟨hp, hle⟩, c1⟩, c2⟩, c3⟩, c4⟩, hB1⟩ ⟨Bx, hBx, bX, rfl⟩ hlt
    have d1 : W.cell? ⟨w.heap.size, 0, none⟩ = some (.int .i64 E) := block_cell c1 0 _ rfl
    have d4 : W.cell? ⟨N, 0, none⟩ = some (.int .i64 pre.length) := block_cell c4 0 _ rfl
    have f4 := block_free c4
    have HC := Lib.hid (And.intro hp (And.intro c1 (And.intro c2 (And.intro c3 (And.intro c4 (And.intro hB1 bX))))))
    clear hp c1 c2 c3 c4 hB1 bX hr hl
    unfold primV
    by_cases he : pre.length = E
    · have hb : ((pre.length : Int) == (E : Int)) = true := by simp [he]
      have HH := Lib.hid (show Hop E (.exit 0) (pre ++ [x]) from .inl ⟨rfl, pre, x, rfl, he⟩)
      have HN := Lib.hid he
      clear he
      gi_wp2
      refine ⟨KeepsFrom.refl _ _, ⟨⟨⟨⟨⟨HH.out, HC.out.2.1⟩, HC.out.2.2.1⟩, HC.out.2.2.2.1⟩, ?_⟩, HC.out.2.2.2.2.2.1⟩⟩
      have := HC.out.2.2.2.2.1
      rw [HN.out] at this
      exact this
    · have hb : ((pre.length : Int) == (E : Int)) = false := by simp; omega
      have hof := refOf_in (fun _ => 0) (pre.length + 1) (by omega) (by omega) (W.setCell ⟨N, 0, none⟩ (.int .i64 (pre.length + 1)))
      rw [show ((pre.length + 1 : Nat) : Int) = (pre.length : Int) + 1 from by omega] at hof
      have HOF := Lib.hid hof
      clear hof
      gi_wp2_with (fail)
      refine ⟨trivial, ?_⟩
      refine (CallsIn.inRound l (callsIn_wide.2 HOF.out)).mono ?_
      rintro e w2 ⟨rfl, G2, ha2⟩
      unfold primV
      rw [show ((pre.length + 1 : Nat) : Int) = (pre.length : Int) + 1 from by omega]
      have HA2 := Lib.hid (ha2.alloc (.cells #[.int .i64 (pre.length + 1), .string (nameB (pre.length + 1)), .int .i64 (takesN (pre.length + 1)), .int .i64 (leavesN (pre.length + 1)), .int .i64 (costsN (pre.length + 1)), .bool (operandB (pre.length + 1))] 25) 0)
      have hq := BoxN.new w2 25 #[.int .i64 (pre.length + 1), .string (nameB (pre.length + 1)), .int .i64 (takesN (pre.length + 1)), .int .i64 (leavesN (pre.length + 1)), .int .i64 (costsN (pre.length + 1)), .bool (operandB (pre.length + 1))]
      have hx := (HA2.out.keep Bx (by simp; exact HC.out.2.2.2.2.2.2.lt) id).trans (HC.out.2.2.2.2.2.2.other (B' := N) (by omega) 0 (.int .i64 (pre.length + 1)))
      have x0 : (w2.alloc (.cells #[.int .i64 (pre.length + 1), .string (nameB (pre.length + 1)), .int .i64 (takesN (pre.length + 1)), .int .i64 (leavesN (pre.length + 1)), .int .i64 (costsN (pre.length + 1)), .bool (operandB (pre.length + 1))] 25)).cell? ⟨Bx, 0, none⟩ = some (.int .i64 x) := block_cell hx 0 _ rfl
      have x1 : (w2.alloc (.cells #[.int .i64 (pre.length + 1), .string (nameB (pre.length + 1)), .int .i64 (takesN (pre.length + 1)), .int .i64 (leavesN (pre.length + 1)), .int .i64 (costsN (pre.length + 1)), .bool (operandB (pre.length + 1))] 25)).cell? ⟨Bx, 1, none⟩ = some (.string (nameB x)) := block_cell hx 1 _ rfl
      have x2 : (w2.alloc (.cells #[.int .i64 (pre.length + 1), .string (nameB (pre.length + 1)), .int .i64 (takesN (pre.length + 1)), .int .i64 (leavesN (pre.length + 1)), .int .i64 (costsN (pre.length + 1)), .bool (operandB (pre.length + 1))] 25)).cell? ⟨Bx, 2, none⟩ = some (.int .i64 (takesN x)) := block_cell hx 2 _ rfl
      have x3 : (w2.alloc (.cells #[.int .i64 (pre.length + 1), .string (nameB (pre.length + 1)), .int .i64 (takesN (pre.length + 1)), .int .i64 (leavesN (pre.length + 1)), .int .i64 (costsN (pre.length + 1)), .bool (operandB (pre.length + 1))] 25)).cell? ⟨Bx, 3, none⟩ = some (.int .i64 (leavesN x)) := block_cell hx 3 _ rfl
      have x4 : (w2.alloc (.cells #[.int .i64 (pre.length + 1), .string (nameB (pre.length + 1)), .int .i64 (takesN (pre.length + 1)), .int .i64 (leavesN (pre.length + 1)), .int .i64 (costsN (pre.length + 1)), .bool (operandB (pre.length + 1))] 25)).cell? ⟨Bx, 4, none⟩ = some (.int .i64 (costsN x)) := block_cell hx 4 _ rfl
      have x5 : (w2.alloc (.cells #[.int .i64 (pre.length + 1), .string (nameB (pre.length + 1)), .int .i64 (takesN (pre.length + 1)), .int .i64 (leavesN (pre.length + 1)), .int .i64 (costsN (pre.length + 1)), .bool (operandB (pre.length + 1))] 25)).cell? ⟨Bx, 5, none⟩ = some (.bool (operandB x)) := block_cell hx 5 _ rfl
      have q0 := block_cell hq 0 _ rfl
      have q1 := block_cell hq 1 _ rfl
      have q2 := block_cell hq 2 _ rfl
      have q3 := block_cell hq 3 _ rfl
      have q4 := block_cell hq 4 _ rfl
      have q5 := block_cell hq 5 _ rfl
      clear ha2 hq hx d1 d4 f4
      gi_wp2_with (fail)
      refine ⟨trivial, ?_⟩
      by_cases hxn : x = pre.length + 1
      · subst hxn
        rw [show ((pre.length + 1 : Nat) : Int) = (pre.length : Int) + 1 from by omega]
        refine (CallsIn.inRound l (callsIn_wide.2 (same_any (own1 w2 G2 0) _ _ _ _ _ _ _))).mono ?_
        rintro e w3 ⟨rfl, G3, ha3⟩
        have HA3 := Lib.hid (HA2.out.trans ha3)
        clear ha3 x0 x1 x2 x3 x4 x5 q0 q1 q2 q3 q4 q5
        gi_wp2_with (fail)
        have bx : ∀ (B : Nat) (T : TypeId) (C : Array Value), BoxN W B T C → B ≠ N → BoxN w3 B T C := fun B T C h hne => (HA3.out.keep B (by simpa using h.lt) id).trans (h.other (B' := N) hne 0 (.int .i64 (pre.length + 1)))
        have b4 : BoxN w3 N 3 #[.int .i64 (pre.length + 1)] := (HA3.out.keep N (by simpa using HC.out.2.2.2.2.1.lt) id).trans (HC.out.2.2.2.2.1.set 0 (.int .i64 (pre.length + 1)))
        have k3 : KeepsFrom W0.heap.size W w3 := ((KeepsOthers.setCell W ⟨N, 0, none⟩ (.int .i64 (pre.length + 1))).from _).trans (HA3.out.keeps _)
        have l3 : Below w.heap.size W w3 := ((Below.refl _ W).setCell (p := ⟨N, 0, none⟩) (by simp; omega) (.int .i64 (pre.length + 1))).trans ((HA3.out.below (Nat.le_refl _) fun _ _ => id).mono (by simpa using HC.out.2.2.2.2.2.1.size))
        have hlen : (pre ++ [pre.length + 1]).length = pre.length + 1 := by simp
        refine ⟨k3, l3, ⟨⟨⟨⟨⟨⟨?_, by rw [hlen]; omega⟩, bx _ _ _ HC.out.2.1 (by omega)⟩, bx _ _ _ HC.out.2.2.1 (by omega)⟩, bx _ _ _ HC.out.2.2.2.1 (by omega)⟩, ?_⟩, HC.out.2.2.2.2.2.1.trans l3⟩⟩
        · rw [hlen]; exact upTo_push pre HC.out.1
        · rw [hlen]; exact b4
      · have hne : ((x : Int) == (pre.length : Int) + 1) = false := by simp; omega
        refine (CallsIn.inRound l (callsIn_wide.2 (same_no (own1 w2 G2 0) _ _ _ _ _ _ _ _ _ _ _ _ hne _))).mono ?_
        rintro e w3 ⟨rfl, G3, ha3⟩
        have HA3 := Lib.hid (HA2.out.trans ha3)
        have g2 := (HA3.out.keep (w.heap.size + 1) (by simp; exact HC.out.2.2.1.lt) id).trans (HC.out.2.2.1.other (B' := N) (by omega) 0 (.int .i64 (pre.length + 1)))
        have r0 : w3.cell? ⟨w.heap.size + 1, 0, none⟩ = some (.bool false) := block_cell g2 0 _ rfl
        have rf := block_free g2
        clear ha3 x0 x1 x2 x3 x4 x5 q0 q1 q2 q3 q4 q5 g2
        gi_wp2_with (fail)
        have bx : ∀ (B : Nat) (T : TypeId) (C : Array Value), BoxN W B T C → B ≠ N → BoxN w3 B T C := fun B T C h hne => (HA3.out.keep B (by simpa using h.lt) id).trans (h.other (B' := N) hne 0 (.int .i64 (pre.length + 1)))
        have b4 : BoxN w3 N 3 #[.int .i64 (pre.length + 1)] := (HA3.out.keep N (by simpa using HC.out.2.2.2.2.1.lt) id).trans (HC.out.2.2.2.2.1.set 0 (.int .i64 (pre.length + 1)))
        have k3 : KeepsFrom W0.heap.size W w3 := ((KeepsOthers.setCell W ⟨N, 0, none⟩ (.int .i64 (pre.length + 1))).from _).trans (HA3.out.keeps _)
        have l3 : Below w.heap.size W w3 := ((Below.refl _ W).setCell (p := ⟨N, 0, none⟩) (by simp; omega) (.int .i64 (pre.length + 1))).trans ((HA3.out.below (Nat.le_refl _) fun _ _ => id).mono (by simpa using HC.out.2.2.2.2.2.1.size))
        have hlen : (pre ++ [x]).length = pre.length + 1 := by simp
        refine ⟨k3.trans ((KeepsOthers.setCell _ _ _).from _), ⟨⟨⟨⟨⟨.inr ⟨rfl, pre, x, rfl, hxn⟩, (bx _ _ _ HC.out.2.1 (by omega)).other (B' := w.heap.size + 1) (by omega) 0 (.bool false)⟩, (bx _ _ _ HC.out.2.2.1 (by omega)).set 0 (.bool false)⟩, (bx _ _ _ HC.out.2.2.2.1 (by omega)).other (B' := w.heap.size + 1) (by omega) 0 (.bool false)⟩, ?_⟩, (HC.out.2.2.2.2.2.1.trans l3).setCell (p := ⟨w.heap.size + 1, 0, none⟩) (by simp) (.bool false)⟩⟩
        have hnv : nv E .ret (pre ++ [x]) = pre.length + 1 := by simp [nv]
        rw [hnv]
        exact b4.other (B' := w.heap.size + 1) (by omega) 0 (.bool false)
  case done =>
    rintro D zs W hD rfl ⟨⟨⟨⟨⟨⟨hp, hle⟩, c1⟩, c2⟩, c3⟩, c4⟩, hB1⟩ hK
    rw [upTo_length] at hle c4
    exact tail D 63 W (by omega) (by omega) hK c1 c2 c3 c4 hB1
  case stop =>
    rintro D c pre W hD hpre ⟨⟨⟨⟨⟨(⟨rfl, pre', x, rfl, hl⟩ | ⟨rfl, pre', x, rfl, hx⟩), c1⟩, c2⟩, c3⟩, c4⟩, hB1⟩ hK
    · gi_wp2
      exact tail D E W (by omega) (by omega) hK c1 c2 c3 c4 hB1
    · exact absurd (upTo_next hpre) hx
theorem all_law (y : Int) (w : World) (ht : Tabs w (fun _ => 0)) : Calls Tryd.prog 4 #[.int .i64 y] w fun e w' => e = .returned (.bool true) ∧ Below w.heap.size w w' :=
  callsIn_wide.1 (allLaw_in y w ht)
end Go.Proofs.YtdnalhjdmlkbmaaDoor
