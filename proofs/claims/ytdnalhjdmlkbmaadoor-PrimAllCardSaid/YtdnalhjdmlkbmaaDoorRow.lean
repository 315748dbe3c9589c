/- The document's table. -/
import Derived.Test.YtdnalhjdmlkbmaaDoorRows1
import Derived.Test.YtdnalhjdmlkbmaaDoorRows2
import Derived.Test.YtdnalhjdmlkbmaaDoorRows3
import Derived.Test.YtdnalhjdmlkbmaaDoorOf
namespace Go.Proofs.YtdnalhjdmlkbmaaDoor
open Go.RowKit

set_option maxRecDepth 100000 in
theorem row_lower (G : Nat → Nat) (k : Nat) (h : k < 21) (w : World) (hf : ∀ (G : Nat → Nat) (w : World), Calls Tryd.prog 73 #[.int .i64 k] w fun e w' => e = .returned (primV k) ∧ ∃ G', Adv (fun _ => False) w G w' G') :
    Calls Tryd.prog 49 #[.int .i64 k] w fun e w' => e = .returned (primV k) ∧ ∃ G', Adv (fun _ => False) w G w' G' := by
  have a1 : decide ((k : Int) < 21) = true := by simp; omega
  have HF := Lib.hid hf
  clear hf
  go_enter Tryd.func49, Tryd.ntmps49
  go_wp2_with fail
  refine (HF.out (own1 w G 0) _).mono ?_
  rintro e w' ⟨rfl, G', ha⟩
  have hc := (ha.keep w.heap.size (by simp) id).trans (heap_alloc_new w _)
  have c0 := block_cell hc 0 _ rfl
  have c1 := block_cell hc 1 _ rfl
  have c2 := block_cell hc 2 _ rfl
  have c3 := block_cell hc 3 _ rfl
  have c4 := block_cell hc 4 _ rfl
  have c5 := block_cell hc 5 _ rfl
  have f0 := block_free hc
  have HA := Lib.hid (((Adv.refl (fun _ => False) w G).alloc _ 0).trans ha)
  clear ha hc
  unfold primV
  go_wp2
  exact bodyPost_ret (v := primV k) (by simp [results, Tryd.results49, go_sem, primV, c0, c1, c2, c3, c4, c5]) rfl
    ⟨rfl, _, (((((HA.out.setNew (Nat.le_refl _) _).setNew (Nat.le_refl _) _).setNew (Nat.le_refl _) _).setNew (Nat.le_refl _) _).setNew (Nat.le_refl _) _).setNew (Nat.le_refl _) _⟩
set_option maxRecDepth 100000 in
theorem row_middle (G : Nat → Nat) (k : Nat) (h : 21 ≤ k ∧ k < 42) (w : World) (hf : ∀ (G : Nat → Nat) (w : World), Calls Tryd.prog 74 #[.int .i64 k] w fun e w' => e = .returned (primV k) ∧ ∃ G', Adv (fun _ => False) w G w' G') :
    Calls Tryd.prog 49 #[.int .i64 k] w fun e w' => e = .returned (primV k) ∧ ∃ G', Adv (fun _ => False) w G w' G' := by
  have a1 : decide ((k : Int) < 21) = false := by simp; omega
  have a2 : decide ((k : Int) < 42) = true := by simp; omega
  have HF := Lib.hid hf
  clear hf
  go_enter Tryd.func49, Tryd.ntmps49
  go_wp2_with fail
  refine (HF.out (own1 w G 0) _).mono ?_
  rintro e w' ⟨rfl, G', ha⟩
  have hc := (ha.keep w.heap.size (by simp) id).trans (heap_alloc_new w _)
  have c0 := block_cell hc 0 _ rfl
  have c1 := block_cell hc 1 _ rfl
  have c2 := block_cell hc 2 _ rfl
  have c3 := block_cell hc 3 _ rfl
  have c4 := block_cell hc 4 _ rfl
  have c5 := block_cell hc 5 _ rfl
  have f0 := block_free hc
  have HA := Lib.hid (((Adv.refl (fun _ => False) w G).alloc _ 0).trans ha)
  clear ha hc
  unfold primV
  go_wp2
  exact bodyPost_ret (v := primV k) (by simp [results, Tryd.results49, go_sem, primV, c0, c1, c2, c3, c4, c5]) rfl
    ⟨rfl, _, (((((HA.out.setNew (Nat.le_refl _) _).setNew (Nat.le_refl _) _).setNew (Nat.le_refl _) _).setNew (Nat.le_refl _) _).setNew (Nat.le_refl _) _).setNew (Nat.le_refl _) _⟩
set_option maxRecDepth 100000 in
theorem row_upper (G : Nat → Nat) (k : Nat) (h : 42 ≤ k) (w : World) (hf : ∀ (G : Nat → Nat) (w : World), Calls Tryd.prog 75 #[.int .i64 k] w fun e w' => e = .returned (primV k) ∧ ∃ G', Adv (fun _ => False) w G w' G') :
    Calls Tryd.prog 49 #[.int .i64 k] w fun e w' => e = .returned (primV k) ∧ ∃ G', Adv (fun _ => False) w G w' G' := by
  have a1 : decide ((k : Int) < 21) = false := by simp; omega
  have a2 : decide ((k : Int) < 42) = false := by simp; omega
  have HF := Lib.hid hf
  clear hf
  go_enter Tryd.func49, Tryd.ntmps49
  go_wp2_with fail
  refine (HF.out (own1 w G 0) _).mono ?_
  rintro e w' ⟨rfl, G', ha⟩
  have hc := (ha.keep w.heap.size (by simp) id).trans (heap_alloc_new w _)
  have c0 := block_cell hc 0 _ rfl
  have c1 := block_cell hc 1 _ rfl
  have c2 := block_cell hc 2 _ rfl
  have c3 := block_cell hc 3 _ rfl
  have c4 := block_cell hc 4 _ rfl
  have c5 := block_cell hc 5 _ rfl
  have f0 := block_free hc
  have HA := Lib.hid (((Adv.refl (fun _ => False) w G).alloc _ 0).trans ha)
  clear ha hc
  unfold primV
  go_wp2
  exact bodyPost_ret (v := primV k) (by simp [results, Tryd.results49, go_sem, primV, c0, c1, c2, c3, c4, c5]) rfl
    ⟨rfl, _, (((((HA.out.setNew (Nat.le_refl _) _).setNew (Nat.le_refl _) _).setNew (Nat.le_refl _) _).setNew (Nat.le_refl _) _).setNew (Nat.le_refl _) _).setNew (Nat.le_refl _) _⟩
theorem refRow_any (G : Nat → Nat) (k : Nat) (h1 : 1 ≤ k) (h2 : k < 64) (w : World) : Calls Tryd.prog 49 #[.int .i64 k] w fun e w' => e = .returned (primV k) ∧ ∃ G', Adv (fun _ => False) w G w' G' := by
  have hk : k = 1 ∨ k = 2 ∨ k = 3 ∨ k = 4 ∨ k = 5 ∨ k = 6 ∨ k = 7 ∨ k = 8 ∨ k = 9 ∨ k = 10 ∨ k = 11 ∨ k = 12 ∨ k = 13 ∨ k = 14 ∨ k = 15 ∨ k = 16 ∨ k = 17 ∨ k = 18 ∨ k = 19 ∨ k = 20 ∨ k = 21 ∨ k = 22 ∨ k = 23 ∨ k = 24 ∨ k = 25 ∨ k = 26 ∨ k = 27 ∨ k = 28 ∨ k = 29 ∨ k = 30 ∨ k = 31 ∨ k = 32 ∨ k = 33 ∨ k = 34 ∨ k = 35 ∨ k = 36 ∨ k = 37 ∨ k = 38 ∨ k = 39 ∨ k = 40 ∨ k = 41 ∨ k = 42 ∨ k = 43 ∨ k = 44 ∨ k = 45 ∨ k = 46 ∨ k = 47 ∨ k = 48 ∨ k = 49 ∨ k = 50 ∨ k = 51 ∨ k = 52 ∨ k = 53 ∨ k = 54 ∨ k = 55 ∨ k = 56 ∨ k = 57 ∨ k = 58 ∨ k = 59 ∨ k = 60 ∨ k = 61 ∨ k = 62 ∨ k = 63 := by omega
  rcases hk with rfl | rfl | rfl | rfl | rfl | rfl | rfl | rfl | rfl | rfl | rfl | rfl | rfl | rfl | rfl | rfl | rfl | rfl | rfl | rfl | rfl | rfl | rfl | rfl | rfl | rfl | rfl | rfl | rfl | rfl | rfl | rfl | rfl | rfl | rfl | rfl | rfl | rfl | rfl | rfl | rfl | rfl | rfl | rfl | rfl | rfl | rfl | rfl | rfl | rfl | rfl | rfl | rfl | rfl | rfl | rfl | rfl | rfl | rfl | rfl | rfl | rfl | rfl
  · exact row_lower G 1 (by omega) w lower_1
  · exact row_lower G 2 (by omega) w lower_2
  · exact row_lower G 3 (by omega) w lower_3
  · exact row_lower G 4 (by omega) w lower_4
  · exact row_lower G 5 (by omega) w lower_5
  · exact row_lower G 6 (by omega) w lower_6
  · exact row_lower G 7 (by omega) w lower_7
  · exact row_lower G 8 (by omega) w lower_8
  · exact row_lower G 9 (by omega) w lower_9
  · exact row_lower G 10 (by omega) w lower_10
  · exact row_lower G 11 (by omega) w lower_11
  · exact row_lower G 12 (by omega) w lower_12
  · exact row_lower G 13 (by omega) w lower_13
  · exact row_lower G 14 (by omega) w lower_14
  · exact row_lower G 15 (by omega) w lower_15
  · exact row_lower G 16 (by omega) w lower_16
  · exact row_lower G 17 (by omega) w lower_17
  · exact row_lower G 18 (by omega) w lower_18
  · exact row_lower G 19 (by omega) w lower_19
  · exact row_lower G 20 (by omega) w lower_20
  · exact row_middle G 21 (by omega) w middle_21
  · exact row_middle G 22 (by omega) w middle_22
  · exact row_middle G 23 (by omega) w middle_23
  · exact row_middle G 24 (by omega) w middle_24
  · exact row_middle G 25 (by omega) w middle_25
  · exact row_middle G 26 (by omega) w middle_26
  · exact row_middle G 27 (by omega) w middle_27
  · exact row_middle G 28 (by omega) w middle_28
  · exact row_middle G 29 (by omega) w middle_29
  · exact row_middle G 30 (by omega) w middle_30
  · exact row_middle G 31 (by omega) w middle_31
  · exact row_middle G 32 (by omega) w middle_32
  · exact row_middle G 33 (by omega) w middle_33
  · exact row_middle G 34 (by omega) w middle_34
  · exact row_middle G 35 (by omega) w middle_35
  · exact row_middle G 36 (by omega) w middle_36
  · exact row_middle G 37 (by omega) w middle_37
  · exact row_middle G 38 (by omega) w middle_38
  · exact row_middle G 39 (by omega) w middle_39
  · exact row_middle G 40 (by omega) w middle_40
  · exact row_middle G 41 (by omega) w middle_41
  · exact row_upper G 42 (by omega) w upper_42
  · exact row_upper G 43 (by omega) w upper_43
  · exact row_upper G 44 (by omega) w upper_44
  · exact row_upper G 45 (by omega) w upper_45
  · exact row_upper G 46 (by omega) w upper_46
  · exact row_upper G 47 (by omega) w upper_47
  · exact row_upper G 48 (by omega) w upper_48
  · exact row_upper G 49 (by omega) w upper_49
  · exact row_upper G 50 (by omega) w upper_50
  · exact row_upper G 51 (by omega) w upper_51
  · exact row_upper G 52 (by omega) w upper_52
  · exact row_upper G 53 (by omega) w upper_53
  · exact row_upper G 54 (by omega) w upper_54
  · exact row_upper G 55 (by omega) w upper_55
  · exact row_upper G 56 (by omega) w upper_56
  · exact row_upper G 57 (by omega) w upper_57
  · exact row_upper G 58 (by omega) w upper_58
  · exact row_upper G 59 (by omega) w upper_59
  · exact row_upper G 60 (by omega) w upper_60
  · exact row_upper G 61 (by omega) w upper_61
  · exact row_upper G 62 (by omega) w upper_62
  · exact row_upper G 63 (by omega) w upper_63
set_option maxRecDepth 100000 in
theorem refOf_in (G : Nat → Nat) (k : Nat) (h1 : 1 ≤ k) (hk : k < 64) (w : World) :
    Calls Tryd.prog 12 #[.int .i64 k] w fun e w' => e = .returned (.tuple #[primV k, .int .i64 0]) ∧ ∃ G', Adv (fun _ => False) w G w' G' := by
  have a1 : decide ((k : Int) < 1) = false := by simp; omega
  have a2 : decide (63 < (k : Int)) = false := by simp; omega
  go_enter Tryd.func12, Tryd.ntmps12
  go_wp2_with fail
  refine (refRow_any (own1 w G 0) k h1 hk _).mono ?_
  rintro e w' ⟨rfl, G', ha⟩
  have hc := (ha.keep w.heap.size (by simp) id).trans (heap_alloc_new w _)
  have c0 := block_cell hc 0 _ rfl
  have c1 := block_cell hc 1 _ rfl
  have c2 := block_cell hc 2 _ rfl
  have c3 := block_cell hc 3 _ rfl
  have c4 := block_cell hc 4 _ rfl
  have c5 := block_cell hc 5 _ rfl
  have f0 := block_free hc
  have HA := Lib.hid (((Adv.refl (fun _ => False) w G).alloc _ 0).trans ha)
  clear ha hc
  unfold primV
  go_wp2
  exact bodyPost_ret (v := .tuple #[primV k, .int .i64 0]) (by simp [results, Tryd.results12, go_sem, primV, c0, c1, c2, c3, c4, c5]) rfl
    ⟨rfl, _, (((((HA.out.setNew (Nat.le_refl _) _).setNew (Nat.le_refl _) _).setNew (Nat.le_refl _) _).setNew (Nat.le_refl _) _).setNew (Nat.le_refl _) _).setNew (Nat.le_refl _) _⟩
theorem refOf_out (G : Nat → Nat) (x : Int) (hx : x < 1 ∨ 64 ≤ x) (w : World) :
    Calls Tryd.prog 12 #[.int .i64 x] w fun e w' => e = .returned (.tuple #[primV0, .int .i64 60]) ∧ ∃ G', Adv (fun _ => False) w G w' G' := by
  by_cases h : x < 1
  · have a1 : decide (x < 1) = true := by simpa using h
    go_enter Tryd.func12, Tryd.ntmps12
    go_wp2
    exact bodyPost_ret (v := .tuple #[primV0, .int .i64 60]) (by simp [results, Tryd.results12, go_sem, primV0]) rfl ⟨rfl, _, (Adv.refl _ w G).alloc _ 0⟩
  · have a1 : decide (x < 1) = false := by simpa using h
    have a2 : decide (63 < x) = true := by simp; omega
    go_enter Tryd.func12, Tryd.ntmps12
    go_wp2
    exact bodyPost_ret (v := .tuple #[primV0, .int .i64 60]) (by simp [results, Tryd.results12, go_sem, primV0]) rfl ⟨rfl, _, (Adv.refl _ w G).alloc _ 0⟩
theorem refPlain_any (x : Int) (w : World) : Calls Tryd.prog 15 #[.int .i64 x] w fun e w' => e = .returned (.bool (plainB x)) ∧ w = w' := by
  by_cases h6 : x = 6
  · subst h6
    go_enter Tryd.func15, Tryd.ntmps15
    go_wp2
    go_ret
    exact ⟨rfl, rfl⟩
  · by_cases h9 : x = 9
    · subst h9
      go_enter Tryd.func15, Tryd.ntmps15
      go_wp2
      go_ret
      exact ⟨rfl, rfl⟩
    · have e9 : (x == 9) = false := by simpa using h9
      have e6 : (x == 6) = false := by simpa using h6
      by_cases hl : 12 ≤ x
      · have el : decide (12 ≤ x) = true := by simpa using hl
        by_cases hh : x ≤ 63
        · have eh : decide (x ≤ 63) = true := by simpa using hh
          have hf : plainB x = true := by simp [plainB, hl]; omega
          have HF := Lib.hid hf
          clear hf
          go_enter Tryd.func15, Tryd.ntmps15
          go_wp2
          go_ret
          exact ⟨ret_bool HF.out.symm, rfl⟩
        · have eh : decide (x ≤ 63) = false := by simpa using hh
          have hf : plainB x = false := by simp [plainB, h9, h6]; omega
          have HF := Lib.hid hf
          clear hf
          go_enter Tryd.func15, Tryd.ntmps15
          go_wp2
          go_ret
          exact ⟨ret_bool HF.out.symm, rfl⟩
      · have el : decide (12 ≤ x) = false := by simpa using hl
        have hf : plainB x = false := by simp [plainB, h9, h6, hl]
        have HF := Lib.hid hf
        clear hf
        go_enter Tryd.func15, Tryd.ntmps15
        go_wp2
        go_ret
        exact ⟨ret_bool HF.out.symm, rfl⟩
end Go.Proofs.YtdnalhjdmlkbmaaDoor
