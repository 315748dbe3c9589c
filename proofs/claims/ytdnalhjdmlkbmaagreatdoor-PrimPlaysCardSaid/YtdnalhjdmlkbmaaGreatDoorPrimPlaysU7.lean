/- The document's table; wispref06: looks, May; wispref06.shuffles; wispref04.New: the document's memory, all that is in it; wispref04.Memory.Copy; wispref04.Memory: bank, Load, Cell; wispref04.Memory.Cell; Single cells of the document's memory are written; wispref04.Memory.Store; wispref04.Memory: SetCell, Plot, Play, Choose; wispref06.memory; wispref06.shuffles, at each of its numbers. -/
import Derived.StillTailTactics
import Derived.Test.YtdnalhjdmlkbmaaGreatDoorPrimPlaysU1
import Derived.Test.YtdnalhjdmlkbmaaGreatDoorPrimPlaysU2
import Derived.Test.YtdnalhjdmlkbmaaGreatDoorPrimPlaysU3
import Derived.Test.YtdnalhjdmlkbmaaGreatDoorPrimPlaysU4
import Derived.Test.YtdnalhjdmlkbmaaGreatDoorPrimPlaysU5
import Derived.Test.YtdnalhjdmlkbmaaGreatDoorPrimPlaysU6
set_option linter.unusedVariables false
set_option linter.unusedSimpArgs false
set_option linter.unnecessarySimpa false
namespace Go.Proofs.YtdnalhjdmlkbmaaGreatDoor
open Go.RowKit

set_option maxRecDepth 100000 in
theorem row_lower (G : Nat → Nat) (k : Nat) (h : k < 21) (w : World) (hf : ∀ (G : Nat → Nat) (w : World), Calls Tryz.prog 136 #[.int .i64 k] w fun e w' => e = .returned (primV k) ∧ ∃ G', Adv (fun _ => False) w G w' G') :
    Calls Tryz.prog 99 #[.int .i64 k] w fun e w' => e = .returned (primV k) ∧ ∃ G', Adv (fun _ => False) w G w' G' := by
  have a1 : decide ((k : Int) < 21) = true := by simp; omega
  have HF := Lib.hid hf
  clear hf
  go_enter Tryz.func99, Tryz.ntmps99
  go_wp2_with fail
  refine (HF.out (own1 w G 0) _).mono ?_
  rintro e w' ⟨rfl, G', ha⟩
  have hc := (ha.keep w.heap.size (by simp) id).trans (heap_alloc_new w _)
  have c0 := block_cell hc 0 _ rfl
  have c1 := block_cell hc 1 _ rfl
  have c2 := block_cell hc 2 _ rfl
  have c3 := block_cell hc 3 _ rfl
  have c4 := block_cell hc 4 _ rfl
  have c5 := block_cell hc 5 _ rfl
  have f0 := block_free hc
  have HA := Lib.hid (((Adv.refl (fun _ => False) w G).alloc _ 0).trans ha)
  clear ha hc
  unfold primV
  go_wp2
  exact bodyPost_ret (v := primV k) (by simp [results, Tryz.results99, go_sem, primV, c0, c1, c2, c3, c4, c5]) rfl
    ⟨rfl, _, (((((HA.out.setNew (Nat.le_refl _) _).setNew (Nat.le_refl _) _).setNew (Nat.le_refl _) _).setNew (Nat.le_refl _) _).setNew (Nat.le_refl _) _).setNew (Nat.le_refl _) _⟩
set_option maxRecDepth 100000 in
theorem row_middle (G : Nat → Nat) (k : Nat) (h : 21 ≤ k ∧ k < 42) (w : World) (hf : ∀ (G : Nat → Nat) (w : World), Calls Tryz.prog 137 #[.int .i64 k] w fun e w' => e = .returned (primV k) ∧ ∃ G', Adv (fun _ => False) w G w' G') :
    Calls Tryz.prog 99 #[.int .i64 k] w fun e w' => e = .returned (primV k) ∧ ∃ G', Adv (fun _ => False) w G w' G' := by
  have a1 : decide ((k : Int) < 21) = false := by simp; omega
  have a2 : decide ((k : Int) < 42) = true := by simp; omega
  have HF := Lib.hid hf
  clear hf
  go_enter Tryz.func99, Tryz.ntmps99
  go_wp2_with fail
  refine (HF.out (own1 w G 0) _).mono ?_
  rintro e w' ⟨rfl, G', ha⟩
  have hc := (ha.keep w.heap.size (by simp) id).trans (heap_alloc_new w _)
  have c0 := block_cell hc 0 _ rfl
  have c1 := block_cell hc 1 _ rfl
  have c2 := block_cell hc 2 _ rfl
  have c3 := block_cell hc 3 _ rfl
  have c4 := block_cell hc 4 _ rfl
  have c5 := block_cell hc 5 _ rfl
  have f0 := block_free hc
  have HA := Lib.hid (((Adv.refl (fun _ => False) w G).alloc _ 0).trans ha)
  clear ha hc
  unfold primV
  go_wp2
  exact bodyPost_ret (v := primV k) (by simp [results, Tryz.results99, go_sem, primV, c0, c1, c2, c3, c4, c5]) rfl
    ⟨rfl, _, (((((HA.out.setNew (Nat.le_refl _) _).setNew (Nat.le_refl _) _).setNew (Nat.le_refl _) _).setNew (Nat.le_refl _) _).setNew (Nat.le_refl _) _).setNew (Nat.le_refl _) _⟩
set_option maxRecDepth 100000 in
theorem row_upper (G : Nat → Nat) (k : Nat) (h : 42 ≤ k) (w : World) (hf : ∀ (G : Nat → Nat) (w : World), Calls Tryz.prog 138 #[.int .i64 k] w fun e w' => e = .returned (primV k) ∧ ∃ G', Adv (fun _ => False) w G w' G') :
    Calls Tryz.prog 99 #[.int .i64 k] w fun e w' => e = .returned (primV k) ∧ ∃ G', Adv (fun _ => False) w G w' G' := by
  have a1 : decide ((k : Int) < 21) = false := by simp; omega
  have a2 : decide ((k : Int) < 42) = false := by simp; omega
  have HF := Lib.hid hf
  clear hf
  go_enter Tryz.func99, Tryz.ntmps99
  go_wp2_with fail
  refine (HF.out (own1 w G 0) _).mono ?_
  rintro e w' ⟨rfl, G', ha⟩
  have hc := (ha.keep w.heap.size (by simp) id).trans (heap_alloc_new w _)
  have c0 := block_cell hc 0 _ rfl
  have c1 := block_cell hc 1 _ rfl
  have c2 := block_cell hc 2 _ rfl
  have c3 := block_cell hc 3 _ rfl
  have c4 := block_cell hc 4 _ rfl
  have c5 := block_cell hc 5 _ rfl
  have f0 := block_free hc
  have HA := Lib.hid (((Adv.refl (fun _ => False) w G).alloc _ 0).trans ha)
  clear ha hc
  unfold primV
  go_wp2
  exact bodyPost_ret (v := primV k) (by simp [results, Tryz.results99, go_sem, primV, c0, c1, c2, c3, c4, c5]) rfl
    ⟨rfl, _, (((((HA.out.setNew (Nat.le_refl _) _).setNew (Nat.le_refl _) _).setNew (Nat.le_refl _) _).setNew (Nat.le_refl _) _).setNew (Nat.le_refl _) _).setNew (Nat.le_refl _) _⟩
theorem refRow_any (G : Nat → Nat) (k : Nat) (h1 : 1 ≤ k) (h2 : k < 64) (w : World) : Calls Tryz.prog 99 #[.int .i64 k] w fun e w' => e = .returned (primV k) ∧ ∃ G', Adv (fun _ => False) w G w' G' := by
  have hk : k = 1 ∨ k = 2 ∨ k = 3 ∨ k = 4 ∨ k = 5 ∨ k = 6 ∨ k = 7 ∨ k = 8 ∨ k = 9 ∨ k = 10 ∨ k = 11 ∨ k = 12 ∨ k = 13 ∨ k = 14 ∨ k = 15 ∨ k = 16 ∨ k = 17 ∨ k = 18 ∨ k = 19 ∨ k = 20 ∨ k = 21 ∨ k = 22 ∨ k = 23 ∨ k = 24 ∨ k = 25 ∨ k = 26 ∨ k = 27 ∨ k = 28 ∨ k = 29 ∨ k = 30 ∨ k = 31 ∨ k = 32 ∨ k = 33 ∨ k = 34 ∨ k = 35 ∨ k = 36 ∨ k = 37 ∨ k = 38 ∨ k = 39 ∨ k = 40 ∨ k = 41 ∨ k = 42 ∨ k = 43 ∨ k = 44 ∨ k = 45 ∨ k = 46 ∨ k = 47 ∨ k = 48 ∨ k = 49 ∨ k = 50 ∨ k = 51 ∨ k = 52 ∨ k = 53 ∨ k = 54 ∨ k = 55 ∨ k = 56 ∨ k = 57 ∨ k = 58 ∨ k = 59 ∨ k = 60 ∨ k = 61 ∨ k = 62 ∨ k = 63 := by omega
  rcases hk with rfl | rfl | rfl | rfl | rfl | rfl | rfl | rfl | rfl | rfl | rfl | rfl | rfl | rfl | rfl | rfl | rfl | rfl | rfl | rfl | rfl | rfl | rfl | rfl | rfl | rfl | rfl | rfl | rfl | rfl | rfl | rfl | rfl | rfl | rfl | rfl | rfl | rfl | rfl | rfl | rfl | rfl | rfl | rfl | rfl | rfl | rfl | rfl | rfl | rfl | rfl | rfl | rfl | rfl | rfl | rfl | rfl | rfl | rfl | rfl | rfl | rfl | rfl
  · exact row_lower G 1 (by omega) w lower_1
  · exact row_lower G 2 (by omega) w lower_2
  · exact row_lower G 3 (by omega) w lower_3
  · exact row_lower G 4 (by omega) w lower_4
  · exact row_lower G 5 (by omega) w lower_5
  · exact row_lower G 6 (by omega) w lower_6
  · exact row_lower G 7 (by omega) w lower_7
  · exact row_lower G 8 (by omega) w lower_8
  · exact row_lower G 9 (by omega) w lower_9
  · exact row_lower G 10 (by omega) w lower_10
  · exact row_lower G 11 (by omega) w lower_11
  · exact row_lower G 12 (by omega) w lower_12
  · exact row_lower G 13 (by omega) w lower_13
  · exact row_lower G 14 (by omega) w lower_14
  · exact row_lower G 15 (by omega) w lower_15
  · exact row_lower G 16 (by omega) w lower_16
  · exact row_lower G 17 (by omega) w lower_17
  · exact row_lower G 18 (by omega) w lower_18
  · exact row_lower G 19 (by omega) w lower_19
  · exact row_lower G 20 (by omega) w lower_20
  · exact row_middle G 21 (by omega) w middle_21
  · exact row_middle G 22 (by omega) w middle_22
  · exact row_middle G 23 (by omega) w middle_23
  · exact row_middle G 24 (by omega) w middle_24
  · exact row_middle G 25 (by omega) w middle_25
  · exact row_middle G 26 (by omega) w middle_26
  · exact row_middle G 27 (by omega) w middle_27
  · exact row_middle G 28 (by omega) w middle_28
  · exact row_middle G 29 (by omega) w middle_29
  · exact row_middle G 30 (by omega) w middle_30
  · exact row_middle G 31 (by omega) w middle_31
  · exact row_middle G 32 (by omega) w middle_32
  · exact row_middle G 33 (by omega) w middle_33
  · exact row_middle G 34 (by omega) w middle_34
  · exact row_middle G 35 (by omega) w middle_35
  · exact row_middle G 36 (by omega) w middle_36
  · exact row_middle G 37 (by omega) w middle_37
  · exact row_middle G 38 (by omega) w middle_38
  · exact row_middle G 39 (by omega) w middle_39
  · exact row_middle G 40 (by omega) w middle_40
  · exact row_middle G 41 (by omega) w middle_41
  · exact row_upper G 42 (by omega) w upper_42
  · exact row_upper G 43 (by omega) w upper_43
  · exact row_upper G 44 (by omega) w upper_44
  · exact row_upper G 45 (by omega) w upper_45
  · exact row_upper G 46 (by omega) w upper_46
  · exact row_upper G 47 (by omega) w upper_47
  · exact row_upper G 48 (by omega) w upper_48
  · exact row_upper G 49 (by omega) w upper_49
  · exact row_upper G 50 (by omega) w upper_50
  · exact row_upper G 51 (by omega) w upper_51
  · exact row_upper G 52 (by omega) w upper_52
  · exact row_upper G 53 (by omega) w upper_53
  · exact row_upper G 54 (by omega) w upper_54
  · exact row_upper G 55 (by omega) w upper_55
  · exact row_upper G 56 (by omega) w upper_56
  · exact row_upper G 57 (by omega) w upper_57
  · exact row_upper G 58 (by omega) w upper_58
  · exact row_upper G 59 (by omega) w upper_59
  · exact row_upper G 60 (by omega) w upper_60
  · exact row_upper G 61 (by omega) w upper_61
  · exact row_upper G 62 (by omega) w upper_62
  · exact row_upper G 63 (by omega) w upper_63
theorem refPlain_any (x : Int) (w : World) : Calls Tryz.prog 97 #[.int .i64 x] w fun e w' => e = .returned (.bool (plainB x)) ∧ w = w' := by
  by_cases h6 : x = 6
  · subst h6
    go_enter Tryz.func97, Tryz.ntmps97
    go_wp2
    go_ret
    exact ⟨rfl, rfl⟩
  · by_cases h9 : x = 9
    · subst h9
      go_enter Tryz.func97, Tryz.ntmps97
      go_wp2
      go_ret
      exact ⟨rfl, rfl⟩
    · have e9 : (x == 9) = false := by simpa using h9
      have e6 : (x == 6) = false := by simpa using h6
      by_cases hl : 12 ≤ x
      · have el : decide (12 ≤ x) = true := by simpa using hl
        by_cases hh : x ≤ 63
        · have eh : decide (x ≤ 63) = true := by simpa using hh
          have hf : plainB x = true := by simp [plainB, hl]; omega
          have HF := Lib.hid hf
          clear hf
          go_enter Tryz.func97, Tryz.ntmps97
          go_wp2
          go_ret
          exact ⟨ret_bool HF.out.symm, rfl⟩
        · have eh : decide (x ≤ 63) = false := by simpa using hh
          have hf : plainB x = false := by simp [plainB, h9, h6]; omega
          have HF := Lib.hid hf
          clear hf
          go_enter Tryz.func97, Tryz.ntmps97
          go_wp2
          go_ret
          exact ⟨ret_bool HF.out.symm, rfl⟩
      · have el : decide (12 ≤ x) = false := by simpa using hl
        have hf : plainB x = false := by simp [plainB, h9, h6, hl]
        have HF := Lib.hid hf
        clear hf
        go_enter Tryz.func97, Tryz.ntmps97
        go_wp2
        go_ret
        exact ⟨ret_bool HF.out.symm, rfl⟩
end Go.Proofs.YtdnalhjdmlkbmaaGreatDoor
namespace Go.Proofs.YtdnalhjdmlkbmaaGreatDoor
open Go.RowKit
set_option linter.unusedVariables false
theorem ER.read0 {w : World} {G : Nat → Nat} {i D : Nat} {l : List (Int × Int)} (h : ER w G i D l) : ∃ a c, w.cell? ⟨D, 0, none⟩ = some (.slice a l.length c) ∧ True := by
  obtain ⟨v, h⟩ := h
  obtain ⟨a, c, rfl⟩ := h.slice
  exact ⟨a, c, h.cell, trivial⟩
/-- What looks finds. -/
def lookV (k : Int) (l : List (Int × Int)) : Int := if k = 56 ∨ k = 57 then atV l 0 4 else if k = 58 then atV l 0 3 else if k = 59 then atV l 2 3 else 0
set_option maxHeartbeats 400000 in
theorem refLooks_any (G : Nat → Nat) (i Y : Nat) (l : List (Int × Int)) (k : Int) (w : World) (hp : ER w G i Y l) (hm : l.length ≤ 100000) :
    Calls Tryz.prog 135 #[.int .i64 k, .pointer (some ⟨Y, 0, none⟩)] w fun e w' => e = .returned (.tuple #[.int .u16 (lookV k l), .int .i64 (looksF k l)]) ∧ ∃ G', Adv (fun _ => False) w G w' G' := by
  have AT := Lib.hid (fun (n kind : Int) => refAt G i Y l n kind w hp hm)
  clear hp
  by_cases h56 : k = 56
  · subst h56
    go_enter Tryz.func135, Tryz.ntmps135
    go_wp2_with fail
    refine (AT.out 0 4).mono ?_
    rintro e w1 ⟨rfl, G1, a1⟩
    have A1 := Lib.hid a1
    clear a1
    go_wp2
    go_ret2
    exact ⟨rfl, G1, A1.out⟩
  by_cases h57 : k = 57
  · subst h57
    go_enter Tryz.func135, Tryz.ntmps135
    go_wp2_with fail
    refine (AT.out 0 4).mono ?_
    rintro e w1 ⟨rfl, G1, a1⟩
    have A1 := Lib.hid a1
    clear a1
    go_wp2
    go_ret2
    exact ⟨rfl, G1, A1.out⟩
  by_cases h58 : k = 58
  · subst h58
    go_enter Tryz.func135, Tryz.ntmps135
    go_wp2_with fail
    refine (AT.out 0 3).mono ?_
    rintro e w1 ⟨rfl, G1, a1⟩
    have A1 := Lib.hid a1
    clear a1
    go_wp2
    go_ret2
    exact ⟨rfl, G1, A1.out⟩
  by_cases h59 : k = 59
  · subst h59
    go_enter Tryz.func135, Tryz.ntmps135
    go_wp2_with fail
    refine (AT.out 2 3).mono ?_
    rintro e w1 ⟨rfl, G1, a1⟩
    have A1 := Lib.hid a1
    clear a1
    go_wp2
    go_ret2
    exact ⟨rfl, G1, A1.out⟩
  have b1 : (k == 56) = false := by simpa using h56
  have b2 : (k == 57) = false := by simpa using h57
  have b3 : (k == 58) = false := by simpa using h58
  have b4 : (k == 59) = false := by simpa using h59
  have HV := Lib.hid (show lookV k l = 0 ∧ looksF k l = 0 from ⟨by unfold lookV; rw [if_neg (by omega), if_neg h58, if_neg h59], by unfold looksF; rw [if_neg (by omega), if_neg h58, if_neg h59]⟩)
  clear AT
  go_enter Tryz.func135, Tryz.ntmps135
  go_wp2
  go_ret2
  exact ⟨by rw [HV.out.1, HV.out.2]; rfl, G, Adv.refl _ _ _⟩
set_option maxRecDepth 100000 in
set_option maxHeartbeats 1000000 in
theorem refMay_any (k : Nat) (h1 : 1 ≤ k) (hk : k < 64) (G : Nat → Nat) (i j X Y : Nat) (d : List Int) (r : List (Int × Int)) (w : World) (hd : EU w G i X d) (hr : ER w G j Y r) (hd9 : d.length ≤ 256) (hr9 : r.length ≤ 128) :
    Calls Tryz.prog 98 #[.int .i64 k, .pointer (some ⟨X, 0, none⟩), .pointer (some ⟨Y, 0, none⟩)] w fun e w' => e = .returned (.int .i64 (faultF k d r)) ∧ ∃ G', Adv (fun _ => False) w G w' G' := by
  have HD := Lib.hid hd
  have HR := Lib.hid hr
  have htk := takes_le k hk
  have hlv := leaves_le k hk
  clear hd hr
  go_enter Tryz.func98, Tryz.ntmps98
  go_wp2_with fail
  refine (refRow_any G k h1 hk w).mono ?_
  rintro e w1 ⟨rfl, G1, a1⟩
  have al := (Adv.refl (fun _ => False) w1 G1).alloc (.cells #[.int .i64 k, .string (nameB k), .int .i64 (takesN k), .int .i64 (leavesN k), .int .i64 (costsN k), .bool (operandB k)] 85) 1000
  have A1 := Lib.hid (a1.trans al)
  clear a1 al
  unfold primV
  go_wp2_with fail
  refine (refNeed _ i X d (takesN k) (leavesN k) _ (HD.out.adv A1.out id) hd9 (by omega) (by omega)).mono ?_
  rintro e w2 ⟨rfl, rfl⟩
  by_cases hn : needF d.length (takesN k) (leavesN k) = 0
  · rw [hn]
    have HN := Lib.hid hn
    clear hn
    go_wp2_with fail
    refine (refLooks_any _ j Y r k _ (HR.out.adv A1.out id) (by omega)).mono ?_
    rintro e w3 ⟨rfl, G3, a3⟩
    have A3 := Lib.hid (A1.out.trans a3)
    clear a3
    by_cases hl : looksF k r = 0
    · rw [hl]
      have HL := Lib.hid hl
      obtain ⟨n, hnn⟩ : ∃ n, n = r.length := ⟨_, rfl⟩
      obtain ⟨ya, yc, y0, -⟩ := (HR.out.adv A3.out id).read0
      rw [← hnn] at y0 hr9
      have HF : Hid (faultF k d r = if 128 < (n : Int) + addsF k then 4 else 0) := Lib.hid (by unfold faultF; rw [HN.out, HL.out, hnn]; simp)
      clear hl hnn
      by_cases h55 : k = 55
      · subst h55
        by_cases hx : 128 ≤ n
        · have hb : decide (128 ≤ n) = true := by simpa using hx
          go_wp2
          go_ret
          exact ⟨by rw [HF.out, show addsF ((55 : Nat) : Int) = 1 from rfl, if_pos (by omega)]; rfl, G3, A3.out⟩
        · have hb : decide (128 ≤ n) = false := by simp; omega
          go_wp2
          go_ret
          exact ⟨by rw [HF.out, show addsF ((55 : Nat) : Int) = 1 from rfl, if_neg (by omega)]; rfl, G3, A3.out⟩
      by_cases h6 : k = 6
      · subst h6
        by_cases hx : 126 < n
        · have hb : decide (126 < n) = true := by simpa using hx
          go_wp2
          go_ret
          exact ⟨by rw [HF.out, show addsF ((6 : Nat) : Int) = 2 from rfl, if_pos (by omega)]; rfl, G3, A3.out⟩
        · have hb : decide (126 < n) = false := by simp; omega
          go_wp2
          go_ret
          exact ⟨by rw [HF.out, show addsF ((6 : Nat) : Int) = 2 from rfl, if_neg (by omega)]; rfl, G3, A3.out⟩
      have b1 : ((k : Int) == 55) = false := by simp; omega
      have b2 : ((k : Int) == 6) = false := by simp; omega
      have HA := Lib.hid (show addsF (k : Int) = 0 from by unfold addsF; rw [if_neg (by omega), if_neg (by omega)])
      go_wp2
      go_ret
      exact ⟨by rw [HF.out, HA.out, if_neg (by omega)]; rfl, G3, A3.out⟩
    · have hb : (looksF k r != 0) = true := by simpa using hl
      have HF := Lib.hid (show faultF k d r = looksF k r from by unfold faultF; rw [HN.out]; simp [hl])
      clear hl
      go_wp2
      go_ret
      exact ⟨by rw [HF.out]; rfl, G3, A3.out⟩
  · have hb : (needF d.length (takesN k) (leavesN k) != 0) = true := by simpa using hn
    have HF := Lib.hid (show faultF k d r = needF d.length (takesN k) (leavesN k) from by unfold faultF; rw [if_pos hn])
    clear hn
    go_wp2
    go_ret
    exact ⟨by rw [HF.out]; rfl, _, A1.out⟩
end Go.Proofs.YtdnalhjdmlkbmaaGreatDoor
namespace Go.Proofs.YtdnalhjdmlkbmaaGreatDoor
open Go.RowKit
set_option linter.unusedVariables false
/-- Cells that are handed back, in new memory. -/
def OutIs (S : Nat → Prop) (w : World) (G : Nat → Nat) (out : List Int) (Q : World → (Nat → Nat) → Prop) (e : Ending) (w' : World) : Prop :=
  ∃ b c G', e = .returned (.slice b out.length c) ∧ out.length ≤ c ∧ Adv S w G w' G' ∧ Has w' G' b (cellsU out) ∧ Q w' G'
theorem out_nil (S : Nat → Prop) (w : World) (G : Nat → Nat) (w' : World) (G' : Nat → Nat) (ha : Adv S w G w' G') (Q : World → (Nat → Nat) → Prop) (hq : Q w' G') : OutIs S w G [] Q (.returned (.slice none 0 0)) w' :=
  ⟨none, 0, G', rfl, Nat.le_refl _, ha, ⟨.inl rfl, fun ad h => by cases h⟩, hq⟩
set_option maxHeartbeats 1000000 in
theorem refShuf_12 (G : Nat → Nat) (gx ox cx : Nat) (a : Int) (w : World) (hg : gx < w.heap.size) (ha : w.cell? ⟨gx, ox, none⟩ = some (.int .u16 a)) :
    Calls Tryz.prog 100 #[.int .i64 12, .slice (some ⟨gx, ox, none⟩) 1 cx] w (OutIs (fun _ => False) w G [a, a] (fun _ _ => True)) := by
  go_enter Tryz.func100, Tryz.ntmps100
  go_wp2_with fail
  go_region
  go_wp2
  go_ret
  have al := ((Adv.refl (fun _ => False) w G).alloc (.cells #[.int .u16 a, .int .u16 a] 31) 0).drew
  exact ⟨_, 2, _, rfl, Nat.le_refl _, al, ⟨(Reads.new w (cellsU [a, a]) 31).adv ((Adv.refl (fun _ => False) _ (fun _ => 0)).drew) (fun _ _ => id), fun ad e => by cases e; exact ⟨own1_new _ _ _, by simp⟩⟩, trivial⟩
set_option maxHeartbeats 1000000 in
theorem refShuf_13 (G : Nat → Nat) (gx ox cx : Nat) (a : Int) (w : World) (hg : gx < w.heap.size) (ha : w.cell? ⟨gx, ox, none⟩ = some (.int .u16 a)) :
    Calls Tryz.prog 100 #[.int .i64 13, .slice (some ⟨gx, ox, none⟩) 1 cx] w (OutIs (fun _ => False) w G [] (fun _ _ => True)) := by
  go_enter Tryz.func100, Tryz.ntmps100
  go_wp2
  go_ret
  exact out_nil _ _ _ _ G (Adv.refl _ _ _) _ trivial
set_option maxHeartbeats 1000000 in
theorem refShuf_14 (G : Nat → Nat) (gx ox cx : Nat) (a b : Int) (w : World) (hg : gx < w.heap.size) (ha : w.cell? ⟨gx, ox, none⟩ = some (.int .u16 a)) (hb : w.cell? ⟨gx, ox + 1, none⟩ = some (.int .u16 b)) :
    Calls Tryz.prog 100 #[.int .i64 14, .slice (some ⟨gx, ox, none⟩) 2 cx] w (OutIs (fun _ => False) w G [b, a] (fun _ _ => True)) := by
  go_enter Tryz.func100, Tryz.ntmps100
  go_wp2_with fail
  go_region
  go_wp2
  go_ret
  have al := ((Adv.refl (fun _ => False) w G).alloc (.cells #[.int .u16 b, .int .u16 a] 31) 0).drew
  exact ⟨_, 2, _, rfl, Nat.le_refl _, al, ⟨(Reads.new w (cellsU [b, a]) 31).adv ((Adv.refl (fun _ => False) _ (fun _ => 0)).drew) (fun _ _ => id), fun ad e => by cases e; exact ⟨own1_new _ _ _, by simp⟩⟩, trivial⟩
set_option maxHeartbeats 1000000 in
theorem refShuf_15 (G : Nat → Nat) (gx ox cx : Nat) (a b : Int) (w : World) (hg : gx < w.heap.size) (ha : w.cell? ⟨gx, ox, none⟩ = some (.int .u16 a)) (hb : w.cell? ⟨gx, ox + 1, none⟩ = some (.int .u16 b)) :
    Calls Tryz.prog 100 #[.int .i64 15, .slice (some ⟨gx, ox, none⟩) 2 cx] w (OutIs (fun _ => False) w G [a, b, a] (fun _ _ => True)) := by
  go_enter Tryz.func100, Tryz.ntmps100
  go_wp2_with fail
  go_region
  go_wp2
  go_ret
  have al := ((Adv.refl (fun _ => False) w G).alloc (.cells #[.int .u16 a, .int .u16 b, .int .u16 a] 31) 0).drew
  exact ⟨_, 3, _, rfl, Nat.le_refl _, al, ⟨(Reads.new w (cellsU [a, b, a]) 31).adv ((Adv.refl (fun _ => False) _ (fun _ => 0)).drew) (fun _ _ => id), fun ad e => by cases e; exact ⟨own1_new _ _ _, by simp⟩⟩, trivial⟩
set_option maxHeartbeats 1000000 in
theorem refShuf_16 (G : Nat → Nat) (gx ox cx : Nat) (a b c : Int) (w : World) (hg : gx < w.heap.size) (ha : w.cell? ⟨gx, ox, none⟩ = some (.int .u16 a)) (hb : w.cell? ⟨gx, ox + 1, none⟩ = some (.int .u16 b)) (hc : w.cell? ⟨gx, ox + 2, none⟩ = some (.int .u16 c)) :
    Calls Tryz.prog 100 #[.int .i64 16, .slice (some ⟨gx, ox, none⟩) 3 cx] w (OutIs (fun _ => False) w G [b, c, a] (fun _ _ => True)) := by
  go_enter Tryz.func100, Tryz.ntmps100
  go_wp2_with fail
  go_region
  go_wp2
  go_ret
  have al := ((Adv.refl (fun _ => False) w G).alloc (.cells #[.int .u16 b, .int .u16 c, .int .u16 a] 31) 0).drew
  exact ⟨_, 3, _, rfl, Nat.le_refl _, al, ⟨(Reads.new w (cellsU [b, c, a]) 31).adv ((Adv.refl (fun _ => False) _ (fun _ => 0)).drew) (fun _ _ => id), fun ad e => by cases e; exact ⟨own1_new _ _ _, by simp⟩⟩, trivial⟩
set_option maxHeartbeats 1000000 in
theorem refShuf_17 (G : Nat → Nat) (gx ox cx : Nat) (a b : Int) (w : World) (hg : gx < w.heap.size) (ha : w.cell? ⟨gx, ox, none⟩ = some (.int .u16 a)) (hb : w.cell? ⟨gx, ox + 1, none⟩ = some (.int .u16 b)) :
    Calls Tryz.prog 100 #[.int .i64 17, .slice (some ⟨gx, ox, none⟩) 2 cx] w (OutIs (fun _ => False) w G [b] (fun _ _ => True)) := by
  go_enter Tryz.func100, Tryz.ntmps100
  go_wp2
  go_ret
  have al := ((Adv.refl (fun _ => False) w G).alloc (.cells #[.int .u16 b] 31) 0)
  exact ⟨_, 1, _, rfl, Nat.le_refl _, al, ⟨(Reads.new w (cellsU [b]) 31), fun ad e => by cases e; exact ⟨own1_new _ _ _, by simp⟩⟩, trivial⟩
set_option maxHeartbeats 1000000 in
theorem refShuf_18 (G : Nat → Nat) (gx ox cx : Nat) (a b : Int) (w : World) (hg : gx < w.heap.size) (ha : w.cell? ⟨gx, ox, none⟩ = some (.int .u16 a)) (hb : w.cell? ⟨gx, ox + 1, none⟩ = some (.int .u16 b)) :
    Calls Tryz.prog 100 #[.int .i64 18, .slice (some ⟨gx, ox, none⟩) 2 cx] w (OutIs (fun _ => False) w G [b, a, b] (fun _ _ => True)) := by
  go_enter Tryz.func100, Tryz.ntmps100
  go_wp2_with fail
  go_region
  go_wp2
  go_ret
  have al := ((Adv.refl (fun _ => False) w G).alloc (.cells #[.int .u16 b, .int .u16 a, .int .u16 b] 31) 0).drew
  exact ⟨_, 3, _, rfl, Nat.le_refl _, al, ⟨(Reads.new w (cellsU [b, a, b]) 31).adv ((Adv.refl (fun _ => False) _ (fun _ => 0)).drew) (fun _ _ => id), fun ad e => by cases e; exact ⟨own1_new _ _ _, by simp⟩⟩, trivial⟩
set_option maxHeartbeats 1000000 in
theorem refShuf_19 (G : Nat → Nat) (gx ox cx : Nat) (a b : Int) (w : World) (hg : gx < w.heap.size) (ha : w.cell? ⟨gx, ox, none⟩ = some (.int .u16 a)) (hb : w.cell? ⟨gx, ox + 1, none⟩ = some (.int .u16 b)) :
    Calls Tryz.prog 100 #[.int .i64 19, .slice (some ⟨gx, ox, none⟩) 2 cx] w (OutIs (fun _ => False) w G [a, b, a, b] (fun _ _ => True)) := by
  go_enter Tryz.func100, Tryz.ntmps100
  go_wp2_with fail
  go_region
  go_wp2
  go_ret
  have al := ((Adv.refl (fun _ => False) w G).alloc (.cells #[.int .u16 a, .int .u16 b, .int .u16 a, .int .u16 b] 31) 0).drew
  exact ⟨_, 4, _, rfl, Nat.le_refl _, al, ⟨(Reads.new w (cellsU [a, b, a, b]) 31).adv ((Adv.refl (fun _ => False) _ (fun _ => 0)).drew) (fun _ _ => id), fun ad e => by cases e; exact ⟨own1_new _ _ _, by simp⟩⟩, trivial⟩
set_option maxHeartbeats 1000000 in
theorem refShuf_20 (G : Nat → Nat) (gx ox cx : Nat) (a b : Int) (w : World) (hg : gx < w.heap.size) (ha : w.cell? ⟨gx, ox, none⟩ = some (.int .u16 a)) (hb : w.cell? ⟨gx, ox + 1, none⟩ = some (.int .u16 b)) :
    Calls Tryz.prog 100 #[.int .i64 20, .slice (some ⟨gx, ox, none⟩) 2 cx] w (OutIs (fun _ => False) w G [] (fun _ _ => True)) := by
  go_enter Tryz.func100, Tryz.ntmps100
  go_wp2
  go_ret
  exact out_nil _ _ _ _ G (Adv.refl _ _ _) _ trivial
end Go.Proofs.YtdnalhjdmlkbmaaGreatDoor
namespace Go.Proofs.YtdnalhjdmlkbmaaGreatDoor
open Go.RowKit
set_option linter.unusedVariables false

def bankC (l : List (Int × List Int)) (bs : List Nat) : List Value := (List.zipWith (fun p b => [Value.int .i64 p.1, .slice (some ⟨b, 0, none⟩) 16384 16384]) l bs).flatten
theorem bankC_snoc {l : List (Int × List Int)} {bs : List Nat} (h : bs.length = l.length) (p : Int × List Int) (b : Nat) : bankC (l ++ [p]) (bs ++ [b]) = bankC l bs ++ [.int .i64 p.1, .slice (some ⟨b, 0, none⟩) 16384 16384] := by
  unfold bankC
  rw [List.zipWith_append (by omega)]
  simp
/-- Block D is the document's memory m: owners d (the block), d+1 (the list of banks), d+2 (bytes), d+3 (tones). -/
structure RMx (w : World) (G : Nat → Nat) (d D ra sa : Nat) (bs : List Nat) (bv tv : Value) (m : MemS) : Prop where
  head : w.heap[D]? = some (.cells #[bv, .slice (some ⟨ra, 0, none⟩) 16384 16384, .slice (some ⟨sa, 0, none⟩) 3072 3072, .int .u8 m.chosen, .int .u8 m.pad, .int .u16 m.pitch, .int .u8 m.volume, .int .u16 m.time, .int .i64 m.cycle, tv] 74 (0, 0))
  hown : G D = d
  row : Row 47 2 w G (d + 1) bv m.banks.length (bankC m.banks bs)
  blen : bs.length = m.banks.length
  ram : Row 5 1 w G (d + 2) (.slice (some ⟨ra, 0, none⟩) 16384 16384) 16384 (u8s m.ram)
  scr : Row 5 1 w G (d + 2) (.slice (some ⟨sa, 0, none⟩) 3072 3072) 3072 (u8s m.screen)
  bank : ∀ (k : Nat) (p : Int × List Int) (b : Nat), m.banks[k]? = some p → bs[k]? = some b → Row 5 1 w G (d + 2) (.slice (some ⟨b, 0, none⟩) 16384 16384) 16384 (u8s p.2)
  tones : Row 152 3 w G (d + 3) tv m.tones.length (tonesC m.tones)
  nodup : (ra :: sa :: bs).Nodup
def RM (w : World) (G : Nat → Nat) (d D : Nat) (m : MemS) : Prop := ∃ ra sa bs bv tv, RMx w G d D ra sa bs bv tv m
section
variable {w w' : World} {G G' H : Nat → Nat} {d D ra sa : Nat} {bs : List Nat} {bv tv : Value} {m : MemS} {S : Nat → Prop}
theorem RMx.lt (h : RMx w G d D ra sa bs bv tv m) : D < w.heap.size := (Array.getElem?_eq_some_iff.1 h.head).1
theorem RMx.adv (h : RMx w G d D ra sa bs bv tv m) (ha : Adv S w G w' G') (hs : ∀ k, k < 4 → ¬ S (d + k)) : RMx w' G' d D ra sa bs bv tv m :=
  ⟨(ha.keep D h.lt (by rw [h.hown]; exact hs 0 (by omega))).trans h.head, (ha.own D h.lt).trans h.hown, h.row.adv ha (hs 1 (by omega)), h.blen, h.ram.adv ha (hs 2 (by omega)), h.scr.adv ha (hs 2 (by omega)),
    fun k p b hp hb => (h.bank k p b hp hb).adv ha (hs 2 (by omega)), h.tones.adv ha (hs 3 (by omega)), h.nodup⟩
theorem RM.adv (h : RM w G d D m) (ha : Adv S w G w' G') (hs : ∀ k, k < 4 → ¬ S (d + k)) : RM w' G' d D m := by
  obtain ⟨ra, sa, bs, bv, tv, h⟩ := h
  exact ⟨ra, sa, bs, bv, tv, h.adv ha hs⟩
theorem Row.relabel {e size i j n : Nat} {v : Value} {xs : List Value} (h : Row e size w G i v n xs) (hH : ∀ b, b < w.heap.size → G b = i → H b = j) : Row e size w H j v n xs :=
  ⟨h.row, fun b e => hH b (h.row.lt b e).2 (h.own b e)⟩
theorem RMx.relabel (h : RMx w G d D ra sa bs bv tv m) (hH : ∀ k, k < 4 → ∀ b, b < w.heap.size → G b = d + k → H b = d + k) : RMx w H d D ra sa bs bv tv m :=
  ⟨h.head, hH 0 (by omega) D h.lt h.hown, h.row.relabel (hH 1 (by omega)), h.blen, h.ram.relabel (hH 2 (by omega)), h.scr.relabel (hH 2 (by omega)), fun k p b hp hb => (h.bank k p b hp hb).relabel (hH 2 (by omega)), h.tones.relabel (hH 3 (by omega)), h.nodup⟩
theorem RM.relabel (h : RM w G d D m) (hH : ∀ k, k < 4 → ∀ b, b < w.heap.size → G b = d + k → H b = d + k) : RM w H d D m := by
  obtain ⟨ra, sa, bs, bv, tv, h⟩ := h
  exact ⟨ra, sa, bs, bv, tv, h.relabel hH⟩
theorem RMx.olds (h : RMx w G d D ra sa bs bv tv m) : ∀ b ∈ ra :: sa :: bs, b < w.heap.size := by
  intro b hb
  rcases List.mem_cons.1 hb with rfl | hb
  · exact (h.ram.at (by omega)).1
  rcases List.mem_cons.1 hb with rfl | hb
  · exact (h.scr.at (by omega)).1
  obtain ⟨k, hk⟩ := List.getElem?_of_mem hb
  have hkl : k < bs.length := (List.getElem?_eq_some_iff.1 hk).1
  exact ((h.bank k _ b (List.getElem?_eq_getElem (by rw [← h.blen]; exact hkl)) hk).at (by omega)).1
end
theorem RMx.made {w : World} {G : Nat → Nat} {d D ra sa : Nat} (hh : w.heap[D]? = some (.cells #[.slice none 0 0, .slice (some ⟨ra, 0, none⟩) 16384 16384, .slice (some ⟨sa, 0, none⟩) 3072 3072, .int .u8 0, .int .u8 0, .int .u16 0, .int .u8 0, .int .u16 0, .int .i64 0, .slice none 0 0] 74 (0, 0))) (hG : G D = d)
    (h1 : Row 5 1 w G (d + 2) (.slice (some ⟨ra, 0, none⟩) 16384 16384) 16384 (u8s (List.replicate 16384 0))) (h2 : Row 5 1 w G (d + 2) (.slice (some ⟨sa, 0, none⟩) 3072 3072) 3072 (u8s (List.replicate 3072 0))) (hne : ra ≠ sa) : RMx w G d D ra sa [] (.slice none 0 0) (.slice none 0 0) (newM []) :=
  ⟨hh, hG, Row.nil _ _ _ _ _, rfl, h1, h2, fun k p b hp _ => by have hp : ([] : List (Int × List Int))[k]? = some p := hp; simp at hp, Row.nil _ _ _ _ _, by simp [hne]⟩
theorem RMx.born1 (w1 : World) (G1 : Nat → Nat) (d : Nat) : RMx (((w1.alloc (.cells ramC 5)).alloc (.cells scrC 5)).alloc (.cells #[.slice none 0 0, .slice (some ⟨w1.heap.size, 0, none⟩) 16384 16384, .slice (some ⟨w1.heap.size + 1, 0, none⟩) 3072 3072, .int .u8 0, .int .u8 0, .int .u16 0, .int .u8 0, .int .u16 0, .int .i64 0, .slice none 0 0] 74)).drew (own1 ((w1.alloc (.cells ramC 5)).alloc (.cells scrC 5)) (own1 (w1.alloc (.cells ramC 5)) (own1 w1 G1 (d + 2)) (d + 2)) d) d (w1.heap.size + 1 + 1) w1.heap.size (w1.heap.size + 1) [] (.slice none 0 0) (.slice none 0 0) (newM []) := by
  have e1 : Row 5 1 (w1.alloc (.cells ramC 5)) (own1 w1 G1 (d + 2)) (d + 2) (.slice (some ⟨w1.heap.size, 0, none⟩) 16384 16384) 16384 (u8s (List.replicate 16384 0)) := Row.new w1 G1 5 1 (d + 2) 16384 (u8s (List.replicate 16384 0)) (by unfold maxLen; omega) (by rw [u8s_length, List.length_replicate])
  have e2 : Row 5 1 ((w1.alloc (.cells ramC 5)).alloc (.cells scrC 5)) (own1 (w1.alloc (.cells ramC 5)) (own1 w1 G1 (d + 2)) (d + 2)) (d + 2) (.slice (some ⟨w1.heap.size + 1, 0, none⟩) 3072 3072) 3072 (u8s (List.replicate 3072 0)) := by
    have h := Row.new (w1.alloc (.cells ramC 5)) (own1 w1 G1 (d + 2)) 5 1 (d + 2) 3072 (u8s (List.replicate 3072 0)) (by unfold maxLen; omega) (by rw [u8s_length, List.length_replicate])
    rw [show (w1.alloc (.cells ramC 5)).heap.size = w1.heap.size + 1 from by simp] at h
    exact h
  have f1 := (Adv.refl (fun _ => False) (w1.alloc (.cells ramC 5)) (own1 w1 G1 (d + 2))).alloc (.cells scrC 5) (d + 2)
  have e1' := e1.adv f1 id
  have f3 := ((Adv.refl (fun _ => False) ((w1.alloc (.cells ramC 5)).alloc (.cells scrC 5)) (own1 (w1.alloc (.cells ramC 5)) (own1 w1 G1 (d + 2)) (d + 2))).alloc (.cells #[.slice none 0 0, .slice (some ⟨w1.heap.size, 0, none⟩) 16384 16384, .slice (some ⟨w1.heap.size + 1, 0, none⟩) 3072 3072, .int .u8 0, .int .u8 0, .int .u16 0, .int .u8 0, .int .u16 0, .int .i64 0, .slice none 0 0] 74) d).drew
  refine RMx.made (heap_at _ _ _ (by simp)) (by simp [own1]) (e1'.adv f3 id) (e2.adv f3 id) (by omega)
theorem RMx.born2 (w1 : World) (G1 : Nat → Nat) (d : Nat) : RMx (((w1.alloc (.cells scrC 5)).alloc (.cells ramC 5)).alloc (.cells #[.slice none 0 0, .slice (some ⟨w1.heap.size + 1, 0, none⟩) 16384 16384, .slice (some ⟨w1.heap.size, 0, none⟩) 3072 3072, .int .u8 0, .int .u8 0, .int .u16 0, .int .u8 0, .int .u16 0, .int .i64 0, .slice none 0 0] 74)).drew (own1 ((w1.alloc (.cells scrC 5)).alloc (.cells ramC 5)) (own1 (w1.alloc (.cells scrC 5)) (own1 w1 G1 (d + 2)) (d + 2)) d) d (w1.heap.size + 1 + 1) (w1.heap.size + 1) w1.heap.size [] (.slice none 0 0) (.slice none 0 0) (newM []) := by
  have e1 : Row 5 1 (w1.alloc (.cells scrC 5)) (own1 w1 G1 (d + 2)) (d + 2) (.slice (some ⟨w1.heap.size, 0, none⟩) 3072 3072) 3072 (u8s (List.replicate 3072 0)) := Row.new w1 G1 5 1 (d + 2) 3072 (u8s (List.replicate 3072 0)) (by unfold maxLen; omega) (by rw [u8s_length, List.length_replicate])
  have e2 : Row 5 1 ((w1.alloc (.cells scrC 5)).alloc (.cells ramC 5)) (own1 (w1.alloc (.cells scrC 5)) (own1 w1 G1 (d + 2)) (d + 2)) (d + 2) (.slice (some ⟨w1.heap.size + 1, 0, none⟩) 16384 16384) 16384 (u8s (List.replicate 16384 0)) := by
    have h := Row.new (w1.alloc (.cells scrC 5)) (own1 w1 G1 (d + 2)) 5 1 (d + 2) 16384 (u8s (List.replicate 16384 0)) (by unfold maxLen; omega) (by rw [u8s_length, List.length_replicate])
    rw [show (w1.alloc (.cells scrC 5)).heap.size = w1.heap.size + 1 from by simp] at h
    exact h
  have f1 := (Adv.refl (fun _ => False) (w1.alloc (.cells scrC 5)) (own1 w1 G1 (d + 2))).alloc (.cells ramC 5) (d + 2)
  have e1' := e1.adv f1 id
  have f3 := ((Adv.refl (fun _ => False) ((w1.alloc (.cells scrC 5)).alloc (.cells ramC 5)) (own1 (w1.alloc (.cells scrC 5)) (own1 w1 G1 (d + 2)) (d + 2))).alloc (.cells #[.slice none 0 0, .slice (some ⟨w1.heap.size + 1, 0, none⟩) 16384 16384, .slice (some ⟨w1.heap.size, 0, none⟩) 3072 3072, .int .u8 0, .int .u8 0, .int .u16 0, .int .u8 0, .int .u16 0, .int .i64 0, .slice none 0 0] 74) d).drew
  refine RMx.made (heap_at _ _ _ (by simp)) (by simp [own1]) (e2.adv f3 id) (e1'.adv f3 id) (by omega)
theorem newM_len (l : List (Int × List Int)) : (newM l).banks.length = l.length := List.length_map _
theorem newM_more {l : List (Int × List Int)} {k : Nat} {p : Int × List Int} (hp : l[k]? = some p) : newM (l.take (k + 1)) = { newM (l.take k) with banks := (newM (l.take k)).banks ++ [(p.1, p.2 ++ List.replicate (16384 - p.2.length) 0)] } := by
  unfold newM
  rw [List.take_add_one, hp]
  simp only [List.map_append, Option.toList_some, List.map_cons, List.map_nil]
/-- A bank more. -/
theorem RMx.more {w w' : World} {G G' : Nat → Nat} {d D ra sa fb : Nat} {bs : List Nat} {bv bv' tv : Value} {l : List (Int × List Int)} {k : Nat} {p : Int × List Int} (h : RMx w G d D ra sa bs bv tv (newM (l.take k))) (hp : l[k]? = some p)
    (ha : Adv (fun b => b = d ∨ b = d + 1) w G w' G')
    (hh : w'.heap[D]? = some (.cells #[bv', .slice (some ⟨ra, 0, none⟩) 16384 16384, .slice (some ⟨sa, 0, none⟩) 3072 3072, .int .u8 0, .int .u8 0, .int .u16 0, .int .u8 0, .int .u16 0, .int .i64 0, tv] 74 (0, 0))) (hG : G' D = d)
    (hr : Row 47 2 w' G' (d + 1) bv' (k + 1) (bankC (newM (l.take k)).banks bs ++ [.int .i64 p.1, .slice (some ⟨fb, 0, none⟩) 16384 16384]))
    (hb : Row 5 1 w' G' (d + 2) (.slice (some ⟨fb, 0, none⟩) 16384 16384) 16384 (u8s (p.2 ++ List.replicate (16384 - p.2.length) 0))) (hf : w.heap.size ≤ fb) : RMx w' G' d D ra sa (bs ++ [fb]) bv' tv (newM (l.take (k + 1))) := by
  have hkl : k < l.length := (List.getElem?_eq_some_iff.1 hp).1
  have hlen : (newM (l.take k)).banks.length = k := by rw [newM_len, List.length_take]; omega
  have hnod : (ra :: sa :: (bs ++ [fb])).Nodup := by
    rw [show ra :: sa :: (bs ++ [fb]) = (ra :: sa :: bs) ++ [fb] from rfl, List.nodup_append]
    refine ⟨h.nodup, by simp, fun x hx y hy => ?_⟩
    rw [List.mem_singleton] at hy
    have := h.olds x hx
    omega
  rw [newM_more hp]
  refine ⟨hh, hG, ?_, ?_, h.ram.adv ha (by omega), h.scr.adv ha (by omega), ?_, h.tones.adv ha (by omega), hnod⟩
  · rw [bankC_snoc h.blen]
    simpa [hlen] using hr
  · simp [h.blen]
  · intro j q b hq hb'
    by_cases hj : j < bs.length
    · rw [List.getElem?_append_left (by rw [← h.blen]; exact hj)] at hq
      rw [List.getElem?_append_left hj] at hb'
      exact (h.bank j q b hq hb').adv ha (by omega)
    · rw [List.getElem?_append_right (by omega)] at hb'
      have : j - bs.length = 0 := by
        have := (List.getElem?_eq_some_iff.1 hb').1
        simp at this; omega
      have hjk : j = (newM (l.take k)).banks.length := by rw [← h.blen]; omega
      subst hjk
      rw [h.blen] at hb'
      simp at hb' hq
      subst hb'
      rw [← hq]
      exact hb
set_option maxRecDepth 100000 in
set_option maxHeartbeats 1000000 in
theorem refNew_full (d : Nat) (hd : 1 ≤ d ∧ d < 900) (G : Nat → Nat) (la : Option Addr) (n c : Nat) (l : List (Int × List Int)) (hn : l.length = n) (hn2 : n ≤ 1000000) (hmay : mayBanks l = true) (w : World)
    (hin : ∀ (w' : World) (G' : Nat → Nat), Adv (fun _ => False) w G w' G' → BankIn w' la l) :
    Calls Tryz.prog 51 #[.slice la n c] w fun e w' => ∃ D G', e = .returned (.tuple #[.pointer (some ⟨D, 0, none⟩), .int .i64 0]) ∧ Adv (fun _ => False) w G w' G' ∧ RM w' G' d D (newM l) := by
  have hm1 := make_ram
  have hm2 := make_scr
  have HI0 := Lib.hid hin
  have hin2 : ∀ (w' : World) (G' : Nat → Nat), Adv (fun b => b = d + 1) w (fun _ => 0) w' G' → BankIn w' la l := fun w' G' h => hin w' (joined w G G') (joined_adv h (by omega))
  have HI := Lib.hid hin2
  have HN := Lib.hid hn
  have HM0 := Lib.hid hmay
  have HM := Lib.hid (may_go l (-1) hmay)
  obtain ⟨i0, hi, hz0, hz1, hz2⟩ := info_parts infoBank
  clear hin hin2 hn hmay
  go_enter Tryz.func51, Tryz.ntmps51
  go_wp2_with fail
  refine (refMay_yes (fun _ => 0) la n c l HN.out hn2 HM0.out _ (fun w' G' h => HI.out w' G' (h.mono (fun _ h => h.elim)))).mono ?_
  rintro e w1 ⟨rfl, G1, ha1⟩
  have HA1 := Lib.hid (ha1.mono (T := fun b => b = d + 1) (fun _ h => h.elim))
  clear ha1
  go_upto_region 3 with fail
  go_cut [4] (fun s4 wx => ∃ D Gx, s4 = .pointer (some ⟨D, 0, none⟩) ∧ Adv (fun b => b = d + 1) w (fun _ => 0) wx Gx ∧ ∃ ra sa bs bv, RMx wx Gx d D ra sa bs bv (.slice none 0 0) (newM (l.take 0)))
  case first =>
    go_region
    all_goals
      go_wp2_with fail
      go_meet
      first
        | exact ⟨_, _, rfl, (((HA1.out.alloc _ (d + 2)).alloc _ (d + 2)).alloc _ d).drew, _, _, _, _, RMx.born1 w1 G1 d⟩
        | exact ⟨_, _, rfl, (((HA1.out.alloc _ (d + 2)).alloc _ (d + 2)).alloc _ d).drew, _, _, _, _, RMx.born2 w1 G1 d⟩
  case rest =>
    obtain ⟨D, Gx, rfl, h1, h2⟩ := hcut
    obtain ⟨wA, rfl⟩ : ∃ x : World, x = wc := ⟨_, rfl⟩
    have HA2 := Lib.hid h1
    have HR2 := Lib.hid h2
    clear h1 h2
    go_wp2_with fail
    go_loopw [16] (fun v wr => ∃ k : Nat, k ≤ n ∧ v = .int .i64 k ∧ ∃ Gr, Adv (fun b => b = d + 1) w (fun _ => 0) wr Gr ∧ ∃ ra sa bs bv, RMx wr Gr d D ra sa bs bv (.slice none 0 0) (newM (l.take k))) (fun v _ => n - (intOf v).toNat)
    case atStart => exact ⟨0, Nat.zero_le _, rfl, Gx, HA2.out, HR2.out⟩
    case round =>
      obtain ⟨k, hk, rfl, Gr, h1, h2⟩ := hrel
      by_cases hlt : k < n
      · obtain ⟨p, hp⟩ : ∃ p, l[k]? = some p := ⟨l[k]'(by rw [HN.out]; exact hlt), by simp⟩
        obtain ⟨m1, m2, m3, m4, m5⟩ := HM.out k p hp
        obtain ⟨b, o, da, dc, hla, c1, c2, hr⟩ := HI.out wr Gr h1 k p hp
        have hb := World.block_lt_of_cell? wr _ c1
        obtain ⟨ra, sa, bs, bv, h2⟩ := h2
        have HX := Lib.hid h2
        have hh := h2.head
        have hG := h2.hown
        have hkb : (newM (l.take k)).banks.length = k := by have := HN.out; rw [newM_len, List.length_take]; omega
        obtain ⟨xs, hxs⟩ : ∃ xs, xs = bankC (newM (l.take k)).banks bs := ⟨_, rfl⟩
        have hrow := h2.row
        rw [hkb, ← hxs] at hrow
        have HXS := Lib.hid hxs
        have HKP := Lib.hid hp
        clear h2 hkb hxs
        obtain ⟨va, vc, rfl, hvc, hkc, hva⟩ := hrow.slice
        have hDl : D < wr.heap.size := (Array.getElem?_eq_some_iff.1 hh).1
        have cD := block_cell hh 0 _ rfl
        have HA3 := Lib.hid h1
        have HH := Lib.hid hh
        have HGD := Lib.hid hG
        have HROW := Lib.hid hrow
        have HR := Lib.hid hr
        rw [hla]
        clear h1 hp hr m1 m5 hh hG hrow
        go_wp2_with fail
        have HRd := Lib.hid (show Reads (wr.alloc (.cells #[.int .i64 p.1, .slice da p.2.length dc] 47)).drew da (u8s p.2) from HR.out.alloc _)
        have hA4 := (HA3.out.alloc (.cells #[.int .i64 p.1, .slice da p.2.length dc] 47) 1000).drew
        have HA4 := Lib.hid hA4
        clear hA4
        have hA5 := ((Adv.refl (fun _ => False) wr Gr).alloc (.cells #[.int .i64 p.1, .slice da p.2.length dc] 47) 1000).drew
        have HROWa := Lib.hid (HROW.out.adv hA5 id)
        have hDa := (hA5.keep D hDl id).trans HH.out
        have hGa := (hA5.own D hDl).trans HGD.out
        have HDa := Lib.hid (And.intro hDa hGa)
        have hDz := hA5.size
        have HCD := Lib.hid (block_cell hDa 0 _ rfl)
        have hNa : (wr.alloc (.cells #[.int .i64 p.1, .slice da p.2.length dc] 47)).drew.heap[wr.heap.size]? = some (.cells #[.int .i64 p.1, .slice da p.2.length dc] 47 (0, 0)) := heap_alloc_new wr _
        have HCN := Lib.hid (block_cell hNa 0 _ rfl)
        clear hA5 hDa hGa hNa
        have hone : ∀ (x : Int) (y : Option Addr), ∀ u ∈ [Value.int .i64 x, .slice y 16384 16384], u.oneCell' = true := by
          intro x y u hu; simp at hu; rcases hu with rfl | rfl <;> rfl
        go_region_law (first
          | (refine step_append_row rfl (.tmp 24) (.tmp 31) 33 rfl 47 i0 (.agg #[.int .i64 0, .slice none 0 0]) 2 32 Tryz.underlying33 hi hz0 hz1 hz2 rfl (by decide) _ (d + 1) va k vc xs rfl HROW2.out ⟨w2.heap.size, 0, none⟩ 1 1 [.int .i64 p.1, .slice (some ⟨fb, 0, none⟩) 16384 16384] rfl rfl (new_cells w2 _ _) (hone _ _) (by unfold maxLen; omega) (by omega) ?_; (intro va' vc' w3 G3 hr3 ha3; have HR3 := Lib.hid hr3; have HBZ := Lib.hid (HBY.out.adv ha3 (by omega)); have HA3x := Lib.hid ha3; have HD3 := Lib.hid (And.intro ((ha3.keep D (by simp; omega) (by rw [HDb.out.2]; omega)).trans HDb.out.1) ((ha3.own D (by simp; omega)).trans HDb.out.2)); have cD3 := block_cell HD3.out.1 0 _ rfl; have fD3 := block_free HD3.out.1 0; clear hr3 ha3))
          | (go_simp; go_at_call 96; refine (full16 (own1 wr Gr 1000) (d + 2) da p.2.length dc p.2 _ rfl m4 HRd.out).mono ?_; rintro e w2 ⟨fb, G2, rfl, hfb, ha2, hr2⟩; have hA6 := ha2.alloc (.cells #[.int .i64 p.1, .slice (some ⟨fb, 0, none⟩) 16384 16384] 47) 1000; have HBY := Lib.hid (hr2.adv ((Adv.refl (fun _ => False) w2 G2).alloc (.cells #[.int .i64 p.1, .slice (some ⟨fb, 0, none⟩) 16384 16384] 47) 1000) id); have HFB := Lib.hid hfb; have HROW2 := Lib.hid (HROWa.out.adv hA6 id); have HDb := Lib.hid (And.intro ((hA6.keep D (by omega) id).trans HDa.out.1) ((hA6.own D (by omega)).trans HDa.out.2)); have HA6 := Lib.hid hA6; have hs2 := ha2.size; have hDl2 : D < w2.heap.size := (by omega); have cD2 := ha2.cell_some HCD.out id; have cN2 := ha2.cell_some HCN.out id; clear hA6 hr2 ha2))
        all_goals
          have hDw : w.heap.size ≤ D := by
            rcases Nat.lt_or_ge D w.heap.size with hlt2 | hge
            · have := (HA3.out.own D hlt2).symm.trans HGD.out
              omega
            · exact hge
          have hfin := HA3.out.trans (((((Adv.refl (fun _ => False) wr Gr).alloc (.cells #[.int .i64 p.1, .slice da p.2.length dc] 47) 1000).drew.trans HA6.out).mono (T := fun b => b = d + 1) (fun _ h => h.elim)).trans HA3x.out)
          have hmid := ((((Adv.refl (fun _ => False) wr Gr).alloc (.cells #[.int .i64 p.1, .slice da p.2.length dc] 47) 1000).drew.trans HA6.out).mono (T := fun b => b = d ∨ b = d + 1) (fun _ h => h.elim)).trans (HA3x.out.mono (T := fun b => b = d ∨ b = d + 1) fun _ h => .inr h)
          have hset := (Adv.refl (fun b => b = d) w3 G3).setCell (p := ⟨D, 0, none⟩) HD3.out.2 (.slice va' (k + 1) vc')
          have hrm : RMx (w3.setCell ⟨D, 0, none⟩ (.slice va' (k + 1) vc')) G3 d D ra sa (bs ++ [fb]) (.slice va' (k + 1) vc') (.slice none 0 0) (newM (l.take (k + 1))) := by
            refine HX.out.more HKP.out (hmid.setCell (p := ⟨D, 0, none⟩) (.inl HD3.out.2) _) ?_ HD3.out.2 ?_ (HBZ.out.adv hset (by omega)) (by have := HFB.out; simp at this; omega)
            · simp only [World.setCell, Array.getElem?_modify, HD3.out.1]; simp; exact ⟨rfl, rfl, rfl, rfl, rfl, rfl⟩
            · rw [← HXS.out]; exact HR3.out.adv hset (by omega)
          have HF := Lib.hid (And.intro (hfin.setNew (p := ⟨D, 0, none⟩) hDw (.slice va' (k + 1) vc')) hrm)
          clear hfin hrm hDw hmid hset
          go_wp2
          go_roundw
          case rel => exact ⟨k + 1, by omega, by go_num, G3, HF.out.1, _, _, _, _, HF.out.2⟩
          case measure => simp [intOf]; omega
      · have hkn : k = n := by omega
        have HF := Lib.hid (And.intro h1 h2)
        clear h1 h2
        go_wp2
        go_ret2
        obtain ⟨h1, ra, sa, bs, bv, h2⟩ := HF.out
        rw [hkn, List.take_of_length_le (by rw [HN.out]; omega)] at h2
        exact ⟨D, joined w G Gr, rfl, joined_adv h1 (by omega), RM.relabel ⟨_, _, _, _, _, h2⟩ fun k hk => joined_new h1 (by omega)⟩
end Go.Proofs.YtdnalhjdmlkbmaaGreatDoor
namespace Go.Proofs.YtdnalhjdmlkbmaaGreatDoor
open Go.RowKit
set_option linter.unusedVariables false
/-- The document's memory as it is read. -/
structure RRead (w : World) (D : Nat) (m : MemS) (bs : List Nat) (ba : Option Addr) (bc ra sa : Nat) (ta : Option Addr) (tc : Nat) : Prop where
  head : w.heap[D]? = some (.cells #[.slice ba m.banks.length bc, .slice (some ⟨ra, 0, none⟩) 16384 16384, .slice (some ⟨sa, 0, none⟩) 3072 3072, .int .u8 m.chosen, .int .u8 m.pad, .int .u16 m.pitch, .int .u8 m.volume, .int .u16 m.time, .int .i64 m.cycle, .slice ta m.tones.length tc] 74 (0, 0))
  row : Reads w ba (bankC m.banks bs)
  blen : bs.length = m.banks.length
  bank : ∀ (k : Nat) (p : Int × List Int) (b : Nat), m.banks[k]? = some p → bs[k]? = some b → Reads w (some ⟨b, 0, none⟩) (u8s p.2)
  ram : Reads w (some ⟨ra, 0, none⟩) (u8s m.ram)
  scr : Reads w (some ⟨sa, 0, none⟩) (u8s m.screen)
  tones : Reads w ta (tonesC m.tones)
theorem RRead.adv {S : Nat → Prop} {w w' : World} {G' : Nat → Nat} {D : Nat} {m : MemS} {bs : List Nat} {ba : Option Addr} {bc ra sa : Nat} {ta : Option Addr} {tc : Nat} (h : RRead w D m bs ba bc ra sa ta tc) (ha : Adv S w (fun _ => 0) w' G') (h0 : ¬ S 0) : RRead w' D m bs ba bc ra sa ta tc :=
  ⟨(ha.keep D (Array.getElem?_eq_some_iff.1 h.head).1 h0).trans h.head, h.row.adv ha fun _ _ => h0, h.blen, fun k p b hp hb => (h.bank k p b hp hb).adv ha fun _ _ => h0, h.ram.adv ha fun _ _ => h0, h.scr.adv ha fun _ _ => h0, h.tones.adv ha fun _ _ => h0⟩
theorem RMx.read {w : World} {G : Nat → Nat} {d D ra sa : Nat} {bs : List Nat} {bv tv : Value} {m : MemS} (h : RMx w G d D ra sa bs bv tv m) : ∃ ba bc ta tc, RRead w D m bs ba bc ra sa ta tc := by
  obtain ⟨ba, bc, rfl, _⟩ := h.row.slice
  obtain ⟨ta, tc, rfl, _⟩ := h.tones.slice
  exact ⟨ba, bc, ta, tc, h.head, h.row.reads, h.blen, fun k p b hp hb => (h.bank k p b hp hb).reads, h.ram.reads, h.scr.reads, h.tones.reads⟩
theorem RM.read {w : World} {G : Nat → Nat} {d D : Nat} {m : MemS} (h : RM w G d D m) : ∃ bs ba bc ra sa ta tc, RRead w D m bs ba bc ra sa ta tc := by
  obtain ⟨ra, sa, bs, bv, tv, h⟩ := h
  obtain ⟨ba, bc, ta, tc, h⟩ := h.read
  exact ⟨bs, ba, bc, ra, sa, ta, tc, h⟩
theorem bankC_get : ∀ (l : List (Int × List Int)) (bs : List Nat) (k : Nat) (p : Int × List Int) (b : Nat), l[k]? = some p → bs[k]? = some b → (bankC l bs)[k * 2]? = some (.int .i64 p.1) ∧ (bankC l bs)[k * 2 + 1]? = some (.slice (some ⟨b, 0, none⟩) 16384 16384)
  | [], _, _, _, _, h, _ => by simp at h
  | _ :: _, [], _, _, _, _, h => by simp at h
  | x :: l, y :: bs, 0, p, b, hp, hb => by
    simp at hp hb
    subst hp
    subst hb
    exact ⟨rfl, rfl⟩
  | x :: l, y :: bs, k + 1, p, b, hp, hb => by
    have h := bankC_get l bs k p b (by simpa using hp) (by simpa using hb)
    have e : bankC (x :: l) (y :: bs) = .int .i64 x.1 :: .slice (some ⟨y, 0, none⟩) 16384 16384 :: bankC l bs := rfl
    rw [e, show (k + 1) * 2 = k * 2 + 1 + 1 from by omega]
    simpa using h
theorem RRead.bankIn {w : World} {D : Nat} {m : MemS} {bs : List Nat} {ba : Option Addr} {bc ra sa : Nat} {ta : Option Addr} {tc : Nat} (hm : MemOk m) (h : RRead w D m bs ba bc ra sa ta tc) : BankIn w ba m.banks := by
  intro k p hp
  have hk : k < bs.length := by rw [h.blen]; exact (List.getElem?_eq_some_iff.1 hp).1
  obtain ⟨b, hb⟩ : ∃ b, bs[k]? = some b := ⟨_, List.getElem?_eq_getElem hk⟩
  obtain ⟨g1, g2⟩ := bankC_get _ _ k p b hp hb
  obtain ⟨g, o, hg, hc, _⟩ := h.row.some (by intro e; rw [e] at g1; simp at g1)
  refine ⟨g, o, some ⟨b, 0, none⟩, 16384, hg, hc _ _ g1, ?_, h.bank k p b hp hb⟩
  rw [hm.banks p (List.mem_of_getElem? hp)]
  exact hc _ _ g2
/-- A copy of m on its way: k of its banks. -/
structure CMx (w : World) (G : Nat → Nat) (C : Nat) (bs : List Nat) (bv rv sv tv : Value) (m : MemS) (k : Nat) : Prop where
  head : w.heap[C]? = some (.cells #[bv, rv, sv, .int .u8 m.chosen, .int .u8 m.pad, .int .u16 m.pitch, .int .u8 m.volume, .int .u16 m.time, .int .i64 m.cycle, tv] 74 (0, 0))
  hown : G C = 6
  row : Row 47 2 w G 7 bv k (bankC (m.banks.take k) bs)
  blen : bs.length = k
  bank : ∀ (j : Nat) (p : Int × List Int) (b : Nat), (m.banks.take k)[j]? = some p → bs[j]? = some b → Row 5 1 w G 8 (.slice (some ⟨b, 0, none⟩) 16384 16384) 16384 (u8s p.2)
  nodup : bs.Nodup
theorem CMx.adv {S : Nat → Prop} {w w' : World} {G G' : Nat → Nat} {C : Nat} {bs : List Nat} {bv rv sv tv : Value} {m : MemS} {k : Nat} (h : CMx w G C bs bv rv sv tv m k) (ha : Adv S w G w' G') (h6 : ¬ S 6) (h7 : ¬ S 7) (h8 : ¬ S 8) : CMx w' G' C bs bv rv sv tv m k := by
  have hl : C < w.heap.size := (Array.getElem?_eq_some_iff.1 h.head).1
  exact ⟨(ha.keep C hl (by rw [h.hown]; exact h6)).trans h.head, (ha.own C hl).trans h.hown, h.row.adv ha h7, h.blen, fun j p b hp hb => (h.bank j p b hp hb).adv ha h8, h.nodup⟩
theorem CMx.more {w w' : World} {G G' : Nat → Nat} {C fb : Nat} {bs : List Nat} {bv bv' rv sv tv : Value} {m : MemS} {k : Nat} {p : Int × List Int} (h : CMx w G C bs bv rv sv tv m k) (hp : m.banks[k]? = some p)
    (ha : Adv (fun b => b = 6 ∨ b = 7) w G w' G')
    (hh : w'.heap[C]? = some (.cells #[bv', rv, sv, .int .u8 m.chosen, .int .u8 m.pad, .int .u16 m.pitch, .int .u8 m.volume, .int .u16 m.time, .int .i64 m.cycle, tv] 74 (0, 0))) (hG : G' C = 6)
    (hr : Row 47 2 w' G' 7 bv' (k + 1) (bankC (m.banks.take k) bs ++ [.int .i64 p.1, .slice (some ⟨fb, 0, none⟩) 16384 16384]))
    (hb : Row 5 1 w' G' 8 (.slice (some ⟨fb, 0, none⟩) 16384 16384) 16384 (u8s p.2)) (hf : w.heap.size ≤ fb) : CMx w' G' C (bs ++ [fb]) bv' rv sv tv m (k + 1) := by
  have hkl : k < m.banks.length := (List.getElem?_eq_some_iff.1 hp).1
  have hlen : (m.banks.take k).length = k := by simp; omega
  have hold : ∀ b ∈ bs, b < w.heap.size := by
    intro b hb
    obtain ⟨j, hj⟩ := List.getElem?_of_mem hb
    have hjl : j < bs.length := (List.getElem?_eq_some_iff.1 hj).1
    exact ((h.bank j _ b (List.getElem?_eq_getElem (by rw [hlen, ← h.blen]; exact hjl)) hj).at (by omega)).1
  have ht : m.banks.take (k + 1) = m.banks.take k ++ [p] := by rw [List.take_add_one, hp]; rfl
  refine ⟨hh, hG, ?_, by simp [h.blen], ?_, ?_⟩
  · rw [ht, bankC_snoc (by rw [hlen, h.blen])]
    exact hr
  · intro j q b hq hb'
    rw [ht] at hq
    by_cases hj : j < bs.length
    · rw [List.getElem?_append_left (by rw [hlen, ← h.blen]; exact hj)] at hq
      rw [List.getElem?_append_left hj] at hb'
      exact (h.bank j q b hq hb').adv ha (by omega)
    · rw [List.getElem?_append_right (by omega)] at hb'
      have hj0 : j - bs.length = 0 := by
        have := (List.getElem?_eq_some_iff.1 hb').1
        simp at this; omega
      obtain rfl : j = k := by have := h.blen; omega
      rw [hj0] at hb'
      rw [List.getElem?_append_right (by omega), hlen, Nat.sub_self] at hq
      simp at hb' hq
      subst hb'
      rw [← hq]
      exact hb
  · rw [List.nodup_append]
    refine ⟨h.nodup, by simp, fun x hx y hy => ?_⟩
    rw [List.mem_singleton] at hy
    have := hold x hx
    omega
theorem CMx.put1 {w : World} {G : Nat → Nat} {C : Nat} {bs : List Nat} {bv rv sv tv : Value} {m : MemS} {k : Nat} (h : CMx w G C bs bv rv sv tv m k) (v : Value) : Adv (fun b => b = 6) w G (w.setCell ⟨C, 1, none⟩ v) G ∧ CMx (w.setCell ⟨C, 1, none⟩ v) G C bs bv v sv tv m k := by
  have ha := (Adv.refl (fun b => b = 6) w G).setCell (p := ⟨C, 1, none⟩) h.hown v
  refine ⟨ha, ?_, h.hown, h.row.adv ha (by omega), h.blen, fun j p b hp hb => (h.bank j p b hp hb).adv ha (by omega), h.nodup⟩
  simp only [World.setCell, Array.getElem?_modify, h.head]; simp
theorem CMx.put2 {w : World} {G : Nat → Nat} {C : Nat} {bs : List Nat} {bv rv sv tv : Value} {m : MemS} {k : Nat} (h : CMx w G C bs bv rv sv tv m k) (v : Value) : Adv (fun b => b = 6) w G (w.setCell ⟨C, 2, none⟩ v) G ∧ CMx (w.setCell ⟨C, 2, none⟩ v) G C bs bv rv v tv m k := by
  have ha := (Adv.refl (fun b => b = 6) w G).setCell (p := ⟨C, 2, none⟩) h.hown v
  refine ⟨ha, ?_, h.hown, h.row.adv ha (by omega), h.blen, fun j p b hp hb => (h.bank j p b hp hb).adv ha (by omega), h.nodup⟩
  simp only [World.setCell, Array.getElem?_modify, h.head]; simp
theorem CMx.put9 {w : World} {G : Nat → Nat} {C : Nat} {bs : List Nat} {bv rv sv tv : Value} {m : MemS} {k : Nat} (h : CMx w G C bs bv rv sv tv m k) (v : Value) : Adv (fun b => b = 6) w G (w.setCell ⟨C, 9, none⟩ v) G ∧ CMx (w.setCell ⟨C, 9, none⟩ v) G C bs bv rv sv v m k := by
  have ha := (Adv.refl (fun b => b = 6) w G).setCell (p := ⟨C, 9, none⟩) h.hown v
  refine ⟨ha, ?_, h.hown, h.row.adv ha (by omega), h.blen, fun j p b hp hb => (h.bank j p b hp hb).adv ha (by omega), h.nodup⟩
  simp only [World.setCell, Array.getElem?_modify, h.head]; simp
theorem CMx.olds {w : World} {G : Nat → Nat} {C : Nat} {bs : List Nat} {bv rv sv tv : Value} {m : MemS} {k : Nat} (h : CMx w G C bs bv rv sv tv m k) (hk : k ≤ m.banks.length) : ∀ b ∈ bs, b < w.heap.size := by
  intro b hb
  obtain ⟨j, hj⟩ := List.getElem?_of_mem hb
  have hjl : j < bs.length := (List.getElem?_eq_some_iff.1 hj).1
  have hl := h.blen
  exact ((h.bank j _ b (List.getElem?_eq_getElem (by rw [List.length_take]; omega)) hj).at (by omega)).1
theorem CMx.done {w : World} {G : Nat → Nat} {C rb sb : Nat} {bs : List Nat} {bv tv : Value} {m : MemS} (h : CMx w G C bs bv (.slice (some ⟨rb, 0, none⟩) 16384 16384) (.slice (some ⟨sb, 0, none⟩) 3072 3072) tv m m.banks.length)
    (hr : Row 5 1 w G 8 (.slice (some ⟨rb, 0, none⟩) 16384 16384) 16384 (u8s m.ram)) (hs : Row 5 1 w G 8 (.slice (some ⟨sb, 0, none⟩) 3072 3072) 3072 (u8s m.screen)) (ht : Row 152 3 w G 9 tv m.tones.length (tonesC m.tones))
    (hn : (rb :: sb :: bs).Nodup) : RMx w G 6 C rb sb bs bv tv m := by
  have e : m.banks.take m.banks.length = m.banks := List.take_length
  have h1 := h.row
  have h2 := h.bank
  rw [e] at h1 h2
  exact ⟨h.head, h.hown, h1, h.blen, hr, hs, h2, ht, hn⟩
theorem pad30 (l : List Int) : u8s (l ++ List.replicate (3072 - 3072) 0) = u8s l := by rw [Nat.sub_self, List.replicate_zero, List.append_nil]
theorem pad0 {l : List Int} (h : l.length = 16384) : l ++ List.replicate (16384 - l.length) 0 = l := by rw [h]; simp
theorem pad16 (l : List Int) : u8s (l ++ List.replicate (16384 - 16384) 0) = u8s l := by rw [Nat.sub_self, List.replicate_zero, List.append_nil]
def SC (b : Nat) : Prop := b = 7 ∨ b = 9
set_option maxRecDepth 100000 in
set_option maxHeartbeats 2000000 in
theorem refCopy (D : Nat) (m : MemS) (bs0 : List Nat) (ba : Option Addr) (bc ra0 sa0 : Nat) (ta : Option Addr) (tc : Nat) (hm : MemOk m) (hn2 : m.banks.length ≤ 1000000) (ht2 : m.tones.length ≤ 1000000) (w : World) (hin : RRead w D m bs0 ba bc ra0 sa0 ta tc) :
    Calls Tryz.prog 59 #[.pointer (some ⟨D, 0, none⟩)] w fun e w' => ∃ C G', e = .returned (.pointer (some ⟨C, 0, none⟩)) ∧ Adv SC w (fun _ => 0) w' G' ∧ RM w' G' 6 C m ∧ w.heap.size ≤ C := by
  have HIN := Lib.hid hin
  obtain ⟨n, hn⟩ : ∃ n, n = m.banks.length := ⟨_, rfl⟩
  obtain ⟨tn, htn⟩ : ∃ n, n = m.tones.length := ⟨_, rfl⟩
  have h0 := hin.head
  rw [← hn, ← htn] at h0
  rw [← hn] at hn2
  rw [← htn] at ht2
  have hD : D < w.heap.size := (Array.getElem?_eq_some_iff.1 h0).1
  have c0 := block_cell h0 0 _ rfl
  have c1 := block_cell h0 1 _ rfl
  have c2 := block_cell h0 2 _ rfl
  have c3 := block_cell h0 3 _ rfl
  have c4 := block_cell h0 4 _ rfl
  have c5 := block_cell h0 5 _ rfl
  have c6 := block_cell h0 6 _ rfl
  have c7 := block_cell h0 7 _ rfl
  have c8 := block_cell h0 8 _ rfl
  have c9 := block_cell h0 9 _ rfl
  have HN := Lib.hid hn
  have HTN := Lib.hid htn
  have HM := Lib.hid hm
  have HBK := Lib.hid hm.banks
  obtain ⟨i0, hi, hz0, hz1, hz2⟩ := info_parts infoBank
  obtain ⟨j0, hj, hy0, hy1, hy2⟩ := info_parts Tryz.info152
  clear hin h0 hn htn hm
  go_enter Tryz.func59, Tryz.ntmps59
  go_wp2_with fail
  have HA0 := Lib.hid ((Adv.refl SC w (fun _ => 0)).alloc (.cells #[.slice none 0 0, .slice (some ⟨ra0, 0, none⟩) 16384 16384, .slice (some ⟨sa0, 0, none⟩) 3072 3072, .int .u8 m.chosen, .int .u8 m.pad, .int .u16 m.pitch, .int .u8 m.volume, .int .u16 m.time, .int .i64 m.cycle, .slice ta tn tc] 74) 6)
  have HC0 := Lib.hid (show CMx (w.alloc (.cells #[.slice none 0 0, .slice (some ⟨ra0, 0, none⟩) 16384 16384, .slice (some ⟨sa0, 0, none⟩) 3072 3072, .int .u8 m.chosen, .int .u8 m.pad, .int .u16 m.pitch, .int .u8 m.volume, .int .u16 m.time, .int .i64 m.cycle, .slice ta tn tc] 74)) (own1 w (fun _ => 0) 6) w.heap.size [] (.slice none 0 0) (.slice (some ⟨ra0, 0, none⟩) 16384 16384) (.slice (some ⟨sa0, 0, none⟩) 3072 3072) (.slice ta tn tc) m 0 from
    ⟨heap_alloc_new _ _, own1_new _ _ _, Row.nil _ _ _ _ _, rfl, fun j p b hp _ => by rw [List.take_zero] at hp; simp at hp, List.nodup_nil⟩)
  have hs0 : ¬ SC 0 := by unfold SC; omega
  go_loopw [15] (fun v wr => ∃ k : Nat, k ≤ n ∧ v = .int .i64 k ∧ ∃ Gr bs bv, Adv SC w (fun _ => 0) wr Gr ∧ CMx wr Gr w.heap.size bs bv (.slice (some ⟨ra0, 0, none⟩) 16384 16384) (.slice (some ⟨sa0, 0, none⟩) 3072 3072) (.slice ta tn tc) m k) (fun v _ => n - (intOf v).toNat)
  case atStart => exact ⟨0, Nat.zero_le _, rfl, _, _, _, HA0.out, HC0.out⟩
  case round =>
    obtain ⟨k, hk, rfl, Gr, bs, bv, h1, h2⟩ := hrel
    by_cases hlt : k < n
    · obtain ⟨p, hp⟩ : ∃ p, m.banks[k]? = some p := ⟨m.banks[k]'(by rw [← HN.out]; exact hlt), by simp⟩
      have hp16 := HBK.out p (List.mem_of_getElem? hp)
      obtain ⟨b, o, da, dc, hla, c1b, c2b, hr⟩ := (HIN.out.adv h1 hs0).bankIn HM.out k p hp
      rw [hp16] at c2b
      have hb := World.block_lt_of_cell? wr _ c1b
      have HX := Lib.hid h2
      have hh := h2.head
      obtain ⟨xs, hxs⟩ : ∃ xs, xs = bankC (m.banks.take k) bs := ⟨_, rfl⟩
      have hrow := h2.row
      rw [← hxs] at hrow
      have HXS := Lib.hid hxs
      have HKP := Lib.hid hp
      obtain ⟨va, vc, rfl, hvc, hkc, hva⟩ := hrow.slice
      have hDl : w.heap.size < wr.heap.size := (Array.getElem?_eq_some_iff.1 hh).1
      have cD := block_cell hh 0 _ rfl
      have HA3 := Lib.hid h1
      have HH := Lib.hid hh
      have HGD := Lib.hid h2.hown
      have HROW := Lib.hid hrow
      have HR := Lib.hid hr
      have HP16 := Lib.hid hp16
      rw [hla]
      clear h1 h2 hp hr hh hrow hxs hp16
      go_wp2_with fail
      have HRd := Lib.hid (show Reads (wr.alloc (.cells #[.int .i64 p.1, .slice da 16384 dc] 47)).drew da (u8s p.2) from HR.out.alloc _)
      have hA5 := ((Adv.refl (fun _ => False) wr Gr).alloc (.cells #[.int .i64 p.1, .slice da 16384 dc] 47) 1000).drew
      have HROWa := Lib.hid (HROW.out.adv hA5 id)
      have hDa := (hA5.keep w.heap.size hDl id).trans HH.out
      have hGa := (hA5.own w.heap.size hDl).trans HGD.out
      have HDa := Lib.hid (And.intro hDa hGa)
      have hDz := hA5.size
      have HCD := Lib.hid (block_cell hDa 0 _ rfl)
      have hNa : (wr.alloc (.cells #[.int .i64 p.1, .slice da 16384 dc] 47)).drew.heap[wr.heap.size]? = some (.cells #[.int .i64 p.1, .slice da 16384 dc] 47 (0, 0)) := heap_alloc_new wr _
      have HCN := Lib.hid (block_cell hNa 0 _ rfl)
      clear hA5 hDa hGa hNa
      have hone : ∀ (x : Int) (y : Option Addr), ∀ u ∈ [Value.int .i64 x, .slice y 16384 16384], u.oneCell' = true := by
        intro x y u hu; simp at hu; rcases hu with rfl | rfl <;> rfl
      go_region_law (first
        | (refine step_append_row rfl (.tmp 20) (.tmp 27) 33 rfl 47 i0 (.agg #[.int .i64 0, .slice none 0 0]) 2 32 Tryz.underlying33 hi hz0 hz1 hz2 rfl (by decide) _ 7 va k vc xs rfl HROW2.out ⟨w2.heap.size, 0, none⟩ 1 1 [.int .i64 p.1, .slice (some ⟨fb, 0, none⟩) 16384 16384] rfl rfl (new_cells w2 _ _) (hone _ _) (by unfold maxLen; omega) (by omega) ?_; (intro va' vc' w3 G3 hr3 ha3; have HR3 := Lib.hid hr3; have HBZ := Lib.hid (HBY.out.adv ha3 (by omega)); have HA3x := Lib.hid ha3; have HD3 := Lib.hid (And.intro ((ha3.keep w.heap.size (by simp; omega) (by rw [HDb.out.2]; omega)).trans HDb.out.1) ((ha3.own w.heap.size (by simp; omega)).trans HDb.out.2)); have cD3 := block_cell HD3.out.1 0 _ rfl; have fD3 := block_free HD3.out.1 0; clear hr3 ha3))
        | (go_simp; go_at_call 96; refine (full16 (own1 wr Gr 1000) 8 da 16384 dc p.2 _ HP16.out (Nat.le_refl _) HRd.out).mono ?_; rintro e w2 ⟨fb, G2, rfl, hfb, ha2, hr2⟩; rw [pad16] at hr2; have hA6 := ha2.alloc (.cells #[.int .i64 p.1, .slice (some ⟨fb, 0, none⟩) 16384 16384] 47) 1000; have HBY := Lib.hid (hr2.adv ((Adv.refl (fun _ => False) w2 G2).alloc (.cells #[.int .i64 p.1, .slice (some ⟨fb, 0, none⟩) 16384 16384] 47) 1000) id); have HFB := Lib.hid hfb; have HROW2 := Lib.hid (HROWa.out.adv hA6 id); have HDb := Lib.hid (And.intro ((hA6.keep w.heap.size (by omega) id).trans HDa.out.1) ((hA6.own w.heap.size (by omega)).trans HDa.out.2)); have HA6 := Lib.hid hA6; have hs2 := ha2.size; have hDl2 : w.heap.size < w2.heap.size := (by omega); have cD2 := ha2.cell_some HCD.out id; have cN2 := ha2.cell_some HCN.out id; clear hA6 hr2 ha2))
      all_goals
        have hmid := ((((Adv.refl (fun _ => False) wr Gr).alloc (.cells #[.int .i64 p.1, .slice da 16384 dc] 47) 1000).drew.trans HA6.out).mono (T := fun b => b = 6 ∨ b = 7) (fun _ h => h.elim)).trans (HA3x.out.mono (T := fun b => b = 6 ∨ b = 7) fun _ h => .inr h)
        have hset := (Adv.refl (fun b => b = 6) w3 G3).setCell (p := ⟨w.heap.size, 0, none⟩) HD3.out.2 (.slice va' (k + 1) vc')
        have hfin := HA3.out.trans (((((Adv.refl (fun _ => False) wr Gr).alloc (.cells #[.int .i64 p.1, .slice da 16384 dc] 47) 1000).drew.trans HA6.out).mono (T := SC) (fun _ h => h.elim)).trans (HA3x.out.mono (T := SC) fun _ h => .inl h))
        have hrm : CMx (w3.setCell ⟨w.heap.size, 0, none⟩ (.slice va' (k + 1) vc')) G3 w.heap.size (bs ++ [fb]) (.slice va' (k + 1) vc') (.slice (some ⟨ra0, 0, none⟩) 16384 16384) (.slice (some ⟨sa0, 0, none⟩) 3072 3072) (.slice ta tn tc) m (k + 1) := by
          refine HX.out.more HKP.out (hmid.setCell (p := ⟨w.heap.size, 0, none⟩) (.inl HD3.out.2) _) ?_ HD3.out.2 ?_ (HBZ.out.adv hset (by omega)) (by have := HFB.out; simp at this; omega)
          · simp only [World.setCell, Array.getElem?_modify, HD3.out.1]; simp
          · rw [← HXS.out]; exact HR3.out.adv hset (by omega)
        have HF := Lib.hid (And.intro (hfin.setNew (p := ⟨w.heap.size, 0, none⟩) (Nat.le_refl _) (.slice va' (k + 1) vc')) hrm)
        clear hfin hrm hmid hset
        go_wp2
        go_roundw
        case rel => exact ⟨k + 1, by omega, by go_num, G3, _, _, HF.out.1, HF.out.2⟩
        case measure => simp [intOf]; omega
    · obtain rfl : n = k := by omega
      have HA4 := Lib.hid h1
      have HX4 := Lib.hid h2
      have hD4 : D < wr.heap.size := Nat.lt_of_lt_of_le hD h1.size
      have hC4 : w.heap.size < wr.heap.size := (Array.getElem?_eq_some_iff.1 h2.head).1
      have hh := (HIN.out.adv h1 hs0).head
      have d1 := block_cell hh 1 _ rfl
      clear h1 h2 hh
      go_wp2_with fail
      refine (full16 Gr 8 (some ⟨ra0, 0, none⟩) 16384 16384 m.ram wr HM.out.ram (Nat.le_refl _) (HIN.out.adv HA4.out hs0).ram).mono ?_
      rintro e w2 ⟨rb, G2, rfl, hrb, ha2, hr2⟩
      rw [pad16] at hr2
      have HR2 := Lib.hid (And.intro hr2 hrb)
      have HRL := Lib.hid (hr2.at (by omega)).1
      have hx := HX4.out.adv ha2 id id id
      have HA5 := Lib.hid ((HA4.out.trans (ha2.mono (T := SC) fun _ h => h.elim)).setNew (p := ⟨w.heap.size, 1, none⟩) (Nat.le_refl _) (.slice (some ⟨rb, 0, none⟩) 16384 16384))
      have e1 := block_cell hx.head 1 _ rfl
      have f1 := block_free hx.head 1
      have HX5 := Lib.hid (hx.put1 (.slice (some ⟨rb, 0, none⟩) 16384 16384))
      have d2 := block_cell (HIN.out.adv HA5.out hs0).head 2 _ rfl
      clear hr2 hrb ha2 hx d1
      go_wp2_with fail
      refine (full_any G2 8 (some ⟨sa0, 0, none⟩) 3072 3072 3072 m.screen _ HM.out.screen (Nat.le_refl _) (by omega) (by omega) (HIN.out.adv HA5.out hs0).scr).mono ?_
      rintro e w3 ⟨sb, G3, rfl, hsb, ha3, hr3⟩
      rw [pad30] at hr3
      have HR3 := Lib.hid (And.intro hr3 hsb)
      have HR2 := Lib.hid (And.intro ((HR2.out.1.adv HX5.out.1 (by omega)).adv ha3 id) HR2.out.2)
      have hx := HX5.out.2.adv ha3 id id id
      have HA6 := Lib.hid ((HA5.out.trans (ha3.mono (T := SC) fun _ h => h.elim)).setNew (p := ⟨w.heap.size, 2, none⟩) (Nat.le_refl _) (.slice (some ⟨sb, 0, none⟩) 3072 3072))
      have e2 := block_cell hx.head 2 _ rfl
      have f2 := block_free hx.head 2
      have HX6 := Lib.hid (hx.put2 (.slice (some ⟨sb, 0, none⟩) 3072 3072))
      have hh := (HIN.out.adv HA6.out hs0).head
      have d9 := block_cell (((Adv.refl (fun _ => False) (w3.setCell ⟨w.heap.size, 2, none⟩ (.slice (some ⟨sb, 0, none⟩) 3072 3072)) G3).alloc (.cells #[] 152) 9).keep D (Array.getElem?_eq_some_iff.1 hh).1 id |>.trans hh) 9 _ rfl
      rw [← HTN.out] at d9
      have HT6 := Lib.hid (((HIN.out.adv HA6.out hs0).tones).alloc (.cells #[] 152))
      clear hr3 hsb ha3 hx e1 f1 d2 hh
      have hw3 := Row.new (w3.setCell ⟨w.heap.size, 2, none⟩ (.slice (some ⟨sb, 0, none⟩) 3072 3072)) G3 152 3 9 0 [] (Nat.zero_le _) rfl
      rw [show (w3.setCell ⟨w.heap.size, 2, none⟩ (.slice (some ⟨sb, 0, none⟩) 3072 3072)).heap.size = w3.heap.size from by simp [World.setCell]] at hw3
      have HW3 := Lib.hid hw3
      clear hw3
      go_wp2_with (at_builtin; refine wpList_append_reads rfl (.tmp 43) (.tmp 47) 72 rfl 152 j0 (.agg #[.int .i64 0, .int .u16 0, .int .u8 0]) 3 16 Tryz.underlying72 hj hy0 hy1 hy2 rfl (by decide) _ 9 _ 0 0 [] rfl HW3.out ta tn tc (tonesC m.tones) rfl (by rw [tonesC_length, ← HTN.out]) HT6.out (tonesC_one m.tones) (by unfold maxLen; omega) (by omega) ?_; intro va1 vc1 w4 G4 h1 h2; rw [Nat.zero_add, List.nil_append] at h1; rw [Nat.zero_add]; have HR4 := Lib.hid h1; have HA7 := Lib.hid ((HA6.out.alloc (.cells #[] 152) 9).trans (h2.mono (T := SC) (fun _ h => .inr h))); have HX7 := Lib.hid (((HX6.out.2.adv ((Adv.refl (fun _ => False) _ G3).alloc (.cells #[] 152) 9) id id id).adv h2 (by omega) (by omega) (by omega))); have HR5 := Lib.hid (((HR2.out.1.adv HX6.out.1 (by omega)).adv ((Adv.refl (fun _ => False) _ G3).alloc (.cells #[] 152) 9) id).adv h2 (by omega)); have HR6 := Lib.hid (((HR3.out.1.adv HX6.out.1 (by omega)).adv ((Adv.refl (fun _ => False) _ G3).alloc (.cells #[] 152) 9) id).adv h2 (by omega)); have e9 := block_cell HX7.out.head 9 _ rfl; have f9 := block_free HX7.out.head 9; clear h1 h2 d9 e2 f2)
      go_ret
      have h8 := HX7.out.put9 (.slice va1 tn vc1)
      have ho := HX4.out.olds (by rw [← HN.out]; exact Nat.le_refl _)
      have h1 := HR2.out.2
      have h2 := HR3.out.2
      have h3 := HRL.out
      simp only [World.setCell, Array.size_modify] at h2
      refine ⟨w.heap.size, G4, rfl, HA7.out.setNew (p := ⟨w.heap.size, 9, none⟩) (Nat.le_refl _) _, ⟨rb, sb, bs, bv, .slice va1 tn vc1, ?_⟩, Nat.le_refl _⟩
      refine CMx.done (by rw [← HN.out]; exact h8.2) (HR5.out.adv h8.1 (by omega)) (HR6.out.adv h8.1 (by omega)) (by rw [← HTN.out]; exact HR4.out.adv h8.1 (by omega)) ?_
      rw [List.nodup_cons, List.nodup_cons]
      refine ⟨?_, ?_, HX4.out.nodup⟩
      · intro hm
        rcases List.mem_cons.1 hm with e | e
        · omega
        · have := ho _ e; omega
      · intro hm
        have := ho _ hm
        omega
end Go.Proofs.YtdnalhjdmlkbmaaGreatDoor
namespace Go.Proofs.YtdnalhjdmlkbmaaGreatDoor
open Go.RowKit
set_option linter.unusedVariables false
section
variable {w : World} {G : Nat → Nat} {d D ra sa : Nat} {bs : List Nat} {bv tv : Value} {m : MemS}
theorem RMx.ports (h : RMx w G d D ra sa bs bv tv m) : w.cell? ⟨D, 3, none⟩ = some (.int .u8 m.chosen) ∧ w.cell? ⟨D, 4, none⟩ = some (.int .u8 m.pad) ∧ w.cell? ⟨D, 5, none⟩ = some (.int .u16 m.pitch) ∧ w.cell? ⟨D, 6, none⟩ = some (.int .u8 m.volume) ∧ w.cell? ⟨D, 7, none⟩ = some (.int .u16 m.time) ∧ w.cell? ⟨D, 8, none⟩ = some (.int .i64 m.cycle) ∧ w.cell? ⟨D, 9, none⟩ = some tv :=
  ⟨block_cell h.head 3 _ rfl, block_cell h.head 4 _ rfl, block_cell h.head 5 _ rfl, block_cell h.head 6 _ rfl, block_cell h.head 7 _ rfl, block_cell h.head 8 _ rfl, block_cell h.head 9 _ rfl⟩
theorem RMx.ramc (h : RMx w G d D ra sa bs bv tv m) (hm : MemOk m) (k : Nat) (hk : k < 16384) : w.cell? ⟨D, 1, none⟩ = some (.slice (some ⟨ra, 0, none⟩) 16384 16384) ∧ w.cell? ⟨ra, k, none⟩ = some (.int .u8 (m.ram.getD k 0)) := by
  have hr := (h.ram.at (by omega)).2.2.2 k (.int .u8 (m.ram.getD k 0)) (u8s_at _ k _ (by rw [List.getD_eq_getElem?_getD]; simp [hm.ram, hk]))
  exact ⟨block_cell h.head 1 _ rfl, hr⟩
theorem RMx.scrc (h : RMx w G d D ra sa bs bv tv m) (hm : MemOk m) (k : Nat) (hk : k < 3072) : w.cell? ⟨D, 2, none⟩ = some (.slice (some ⟨sa, 0, none⟩) 3072 3072) ∧ w.cell? ⟨sa, k, none⟩ = some (.int .u8 (m.screen.getD k 0)) := by
  have hr := (h.scr.at (by omega)).2.2.2 k (.int .u8 (m.screen.getD k 0)) (u8s_at _ k _ (by rw [List.getD_eq_getElem?_getD]; simp [hm.screen, hk]))
  exact ⟨block_cell h.head 2 _ rfl, hr⟩
end
/-- The block of the bank that is chosen. -/
def bankB : List (Int × List Int) → List Nat → Int → Option Nat
  | [], _, _ => none
  | _ :: _, [], _ => none
  | p :: l, b :: bs, c => if p.1 = c then some b else bankB l bs c
theorem bankB_some : ∀ (l : List (Int × List Int)) (bs : List Nat) (c : Int) (b : Nat), bankB l bs c = some b → ∃ (k : Nat) (p : Int × List Int), l[k]? = some p ∧ bs[k]? = some b ∧ p.1 = c ∧ bankF l c = some p.2
  | [], _, _, _, h => by cases h
  | _ :: _, [], _, _, h => by cases h
  | p :: l, y :: bs, c, b, h => by
    unfold bankB at h
    by_cases e : p.1 = c
    · rw [if_pos e] at h
      cases h
      exact ⟨0, p, rfl, rfl, e, if_pos e⟩
    · rw [if_neg e] at h
      obtain ⟨k, q, h1, h2, h3, h4⟩ := bankB_some l bs c b h
      exact ⟨k + 1, q, by simpa using h1, by simpa using h2, h3, (if_neg e).trans h4⟩
theorem bankB_none : ∀ (l : List (Int × List Int)) (bs : List Nat) (c : Int), bs.length = l.length → bankB l bs c = none → bankF l c = none ∧ ∀ p ∈ l, p.1 ≠ c
  | [], _, _, _, _ => ⟨rfl, fun _ h => by cases h⟩
  | _ :: _, [], _, hl, _ => by simp at hl
  | p :: l, y :: bs, c, hl, h => by
    unfold bankB at h
    by_cases e : p.1 = c
    · rw [if_pos e] at h; cases h
    · rw [if_neg e] at h
      obtain ⟨h1, h2⟩ := bankB_none l bs c (by simpa using hl) h
      refine ⟨(if_neg e).trans h1, fun q hq => ?_⟩
      rcases List.mem_cons.1 hq with rfl | hq
      · exact e
      · exact h2 q hq
theorem bankB_skip : ∀ (l : List (Int × List Int)) (bs : List Nat) (c : Int) (k : Nat) (p : Int × List Int) (b : Nat), l[k]? = some p → bs[k]? = some b → p.1 = c → (∀ q ∈ l.take k, q.1 ≠ c) → bankB l bs c = some b
  | [], _, _, _, _, _, h, _, _, _ => by simp at h
  | _ :: _, [], _, _, _, _, _, h, _, _ => by simp at h
  | x :: l, y :: bs, c, 0, p, b, hp, hb, e, _ => by
    simp at hp hb
    subst hp; subst hb
    exact if_pos e
  | x :: l, y :: bs, c, k + 1, p, b, hp, hb, e, hq => by
    unfold bankB
    rw [if_neg (hq x (by simp))]
    exact bankB_skip l bs c k p b (by simpa using hp) (by simpa using hb) e fun q h => hq q (by simp [h])
def bankV (o : Option Nat) : Value := match o with
  | some b => .slice (some ⟨b, 0, none⟩) 16384 16384
  | none => .slice none 0 0
set_option maxRecDepth 100000 in
set_option maxHeartbeats 1000000 in
theorem refBank_any (G : Nat → Nat) (d D ra sa : Nat) (bs : List Nat) (bv tv : Value) (m : MemS) (hm : MemOk m) (hn2 : m.banks.length ≤ 1000000) (w : World) (hp : RMx w G d D ra sa bs bv tv m) (hc : 0 ≤ m.chosen ∧ m.chosen < 256) :
    Calls Tryz.prog 93 #[.pointer (some ⟨D, 0, none⟩)] w fun e w' => e = .returned (bankV (bankB m.banks bs m.chosen)) ∧ ∃ G', Adv (fun _ => False) w G w' G' := by
  have HP := Lib.hid hp
  obtain ⟨n, hn⟩ : ∃ n, n = m.banks.length := ⟨_, rfl⟩
  obtain ⟨va, vc, rfl, _⟩ := hp.row.slice
  have c0 := block_cell hp.head 0 _ rfl
  rw [← hn] at c0 hn2
  have HN := Lib.hid hn
  have HM := Lib.hid hm
  clear hp hn hm
  go_enter Tryz.func93, Tryz.ntmps93
  go_wp2_with fail
  go_loopw [10] (fun v wr => ∃ k : Nat, k ≤ n ∧ v = .int .i64 k ∧ (∀ q ∈ m.banks.take k, q.1 ≠ m.chosen) ∧ ∃ Gr, Adv (fun _ => False) w G wr Gr) (fun v _ => n - (intOf v).toNat)
  case atStart => exact ⟨0, Nat.zero_le _, rfl, fun q hq => by simp at hq, G, Adv.refl _ _ _⟩
  case round =>
    obtain ⟨k, hk, rfl, hno, Gr, h1⟩ := hrel
    by_cases hlt : k < n
    · obtain ⟨p, hp⟩ : ∃ p, m.banks[k]? = some p := ⟨m.banks[k]'(by rw [← HN.out]; exact hlt), by simp⟩
      have hb0 : k < bs.length := by rw [HP.out.blen, ← HN.out]; exact hlt
      obtain ⟨b, hb⟩ : ∃ b, bs[k]? = some b := ⟨_, List.getElem?_eq_getElem hb0⟩
      obtain ⟨g1, g2⟩ := bankC_get _ _ k p b hp hb
      have h2 := HP.out.adv h1 (fun _ _ => id)
      obtain ⟨g, o, hg, hc', hgl⟩ := h2.row.reads.some (by intro e; rw [e] at g1; simp at g1)
      subst hg
      have x0 := hc' _ _ g1
      have x1 := hc' _ _ g2
      rw [← Nat.add_assoc] at x1
      have al := ((Adv.refl (fun _ => False) wr Gr).alloc (.cells #[.int .i64 p.1, .slice (some ⟨b, 0, none⟩) 16384 16384] 47) 1000)
      have alD := al.drew
      have hD : ((wr.alloc (.cells #[.int .i64 p.1, .slice (some ⟨b, 0, none⟩) 16384 16384] 47)).drew).cell? ⟨D, 3, none⟩ = some (.int .u8 m.chosen) := alD.cell_some h2.ports.1 id
      have hw : IntKind.i64.wrap m.chosen = m.chosen := IntWalk.i64_in _ (by omega)
      have hwi : IntKind.i64.wrap ((k : Int) + 1) = (k : Int) + 1 := IntWalk.i64_in _ (by omega)
      have hDl := h2.lt
      have HF := Lib.hid (h1.trans alD)
      have HP2 := Lib.hid (And.intro hp (And.intro hb hno))
      clear hp hb g1 g2 hc' h2 al alD hno h1 hb0
      by_cases e : p.1 = m.chosen
      · have he : (p.1 == m.chosen) = true := by simpa using e
        have HE := Lib.hid e
        clear e
        go_wp2_with fail
        go_region
        go_wp2
        go_ret
        have hv := bankB_skip m.banks bs m.chosen k p b HP2.out.1 HP2.out.2.1 HE.out HP2.out.2.2
        exact ⟨by rw [hv]; rfl, _, HF.out⟩
      · have he : (p.1 == m.chosen) = false := by simpa using e
        have HE := Lib.hid e
        clear e
        go_wp2_with fail
        go_region
        go_wp2
        go_roundw
        case rel =>
          refine ⟨k + 1, by omega, by go_num, ?_, _, HF.out⟩
          intro q hq
          rw [List.take_add_one, HP2.out.1] at hq
          rcases List.mem_append.1 hq with hq | hq
          · exact HP2.out.2.2 q hq
          · simp at hq; subst hq; exact HE.out
        case measure => simp [intOf]; omega
    · obtain rfl : n = k := by omega
      have HF := Lib.hid h1
      have HNO := Lib.hid hno
      clear h1 hno
      go_wp2
      go_ret
      refine ⟨?_, Gr, HF.out⟩
      have hz : bankB m.banks bs m.chosen = none := by
        cases hz : bankB m.banks bs m.chosen with
        | none => rfl
        | some b =>
          obtain ⟨k, p, h1, _, h3, _⟩ := bankB_some _ _ _ _ hz
          have h4 := HNO.out
          rw [HN.out, List.take_length] at h4
          exact absurd h3 (h4 p (List.mem_of_getElem? h1))
      rw [hz]
      rfl
theorem rload_low (G : Nat → Nat) (d D ra sa : Nat) (bs : List Nat) (bv tv : Value) (m : MemS) (hm : MemOk m) (a : Int) (h0 : 0 ≤ a) (h : a < 16384) (w : World) (hp : RMx w G d D ra sa bs bv tv m) : Calls Tryz.prog 70 #[.pointer (some ⟨D, 0, none⟩), .int .u16 a] w fun e w' => e = .returned (.int .u8 (loadF m a)) ∧ ∃ G', Adv (fun _ => False) w G w' G' := by
  have hv : loadF m a = 0 := if_pos h
  rw [hv]
  have hw : IntKind.i64.wrap a = a := IntWalk.i64_in _ (by omega)
  have b1 : decide (a < 16384) = true := by simpa using h
  clear hp hv
  go_enter Tryz.func70, Tryz.ntmps70
  go_wp2
  go_ret
  exact ⟨rfl, G, Adv.refl _ _ _⟩
theorem rload_ram (G : Nat → Nat) (d D ra sa : Nat) (bs : List Nat) (bv tv : Value) (m : MemS) (hm : MemOk m) (k : Nat) (hk : k < 16384) (w : World) (hp : RMx w G d D ra sa bs bv tv m) : Calls Tryz.prog 70 #[.pointer (some ⟨D, 0, none⟩), .int .u16 (32768 + (k : Int))] w fun e w' => e = .returned (.int .u8 (loadF m (32768 + (k : Int)))) ∧ ∃ G', Adv (fun _ => False) w G w' G' := by
  have hv : loadF m (32768 + (k : Int)) = m.ram.getD k 0 := by
    unfold loadF
    rw [if_neg (by omega), if_neg (by omega), if_pos (by omega), show (32768 + (k : Int) - 32768).toNat = k from by omega]
  rw [hv]
  have hw : IntKind.i64.wrap (32768 + (k : Int)) = 32768 + (k : Int) := IntWalk.i64_in _ (by omega)
  have hw2 : IntKind.i64.wrap (32768 + (k : Int) - 32768) = (k : Int) := by rw [show 32768 + (k : Int) - 32768 = k from by omega]; exact IntWalk.i64_in _ (by omega)
  have hw3 : wrap64 (32768 + (k : Int) - 32768) = (k : Int) := by unfold wrap64; omega
  have b1 : decide (32768 + (k : Int) < 16384) = false := by simp; omega
  have b2 : decide (32768 + (k : Int) < 32768) = false := by simp; omega
  have b3 : decide (32768 + (k : Int) < 49152) = true := by simp; omega
  obtain ⟨c1, c2⟩ := hp.ramc hm k hk
  clear hv hp
  go_enter Tryz.func70, Tryz.ntmps70
  go_wp2
  go_ret
  exact ⟨by simp, G, Adv.refl _ _ _⟩
theorem rload_screen (G : Nat → Nat) (d D ra sa : Nat) (bs : List Nat) (bv tv : Value) (m : MemS) (hm : MemOk m) (k : Nat) (hk : k < 3072) (w : World) (hp : RMx w G d D ra sa bs bv tv m) : Calls Tryz.prog 70 #[.pointer (some ⟨D, 0, none⟩), .int .u16 (49152 + (k : Int))] w fun e w' => e = .returned (.int .u8 (loadF m (49152 + (k : Int)))) ∧ ∃ G', Adv (fun _ => False) w G w' G' := by
  have hv : loadF m (49152 + (k : Int)) = m.screen.getD k 0 := by
    unfold loadF
    rw [if_neg (by omega), if_neg (by omega), if_neg (by omega), if_pos (by omega), show (49152 + (k : Int) - 49152).toNat = k from by omega]
  rw [hv]
  have hw : IntKind.i64.wrap (49152 + (k : Int)) = 49152 + (k : Int) := IntWalk.i64_in _ (by omega)
  have hw3 : wrap64 (49152 + (k : Int) - 49152) = (k : Int) := by unfold wrap64; omega
  have b1 : decide (49152 + (k : Int) < 16384) = false := by simp; omega
  have b2 : decide (49152 + (k : Int) < 32768) = false := by simp; omega
  have b3 : decide (49152 + (k : Int) < 49152) = false := by simp; omega
  have b4 : decide (49152 + (k : Int) < 52224) = true := by simp; omega
  obtain ⟨c1, c2⟩ := hp.scrc hm k hk
  clear hv hp
  go_enter Tryz.func70, Tryz.ntmps70
  go_wp2
  go_ret
  exact ⟨by simp, G, Adv.refl _ _ _⟩
theorem rload_65280 (G : Nat → Nat) (d D ra sa : Nat) (bs : List Nat) (bv tv : Value) (m : MemS) (hm : MemOk m) (hmr : MemR m) (w : World) (hp : RMx w G d D ra sa bs bv tv m) : Calls Tryz.prog 70 #[.pointer (some ⟨D, 0, none⟩), .int .u16 65280] w fun e w' => e = .returned (.int .u8 (loadF m 65280)) ∧ ∃ G', Adv (fun _ => False) w G w' G' := by
  obtain ⟨c0, c1, c2, c3, c4, c5, c6⟩ := hp.ports
  have q1 := hmr.pitch
  have q2 := hmr.time
  have hv : loadF m 65280 = m.chosen := by first | rfl | exact wrap_u8_id _ (by omega) (by omega)
  rw [hv]
  have q3 : m.pitch.tdiv 256 = m.pitch / 256 := Int.tdiv_eq_ediv_of_nonneg q1.1
  have q4 : m.time.tdiv 256 = m.time / 256 := Int.tdiv_eq_ediv_of_nonneg q2.1
  clear hv hp hmr
  go_enter Tryz.func70, Tryz.ntmps70
  go_wp2
  go_ret
  exact ⟨rfl, G, Adv.refl _ _ _⟩
theorem rload_65282 (G : Nat → Nat) (d D ra sa : Nat) (bs : List Nat) (bv tv : Value) (m : MemS) (hm : MemOk m) (hmr : MemR m) (w : World) (hp : RMx w G d D ra sa bs bv tv m) : Calls Tryz.prog 70 #[.pointer (some ⟨D, 0, none⟩), .int .u16 65282] w fun e w' => e = .returned (.int .u8 (loadF m 65282)) ∧ ∃ G', Adv (fun _ => False) w G w' G' := by
  obtain ⟨c0, c1, c2, c3, c4, c5, c6⟩ := hp.ports
  have q1 := hmr.pitch
  have q2 := hmr.time
  have hv : loadF m 65282 = m.pad := by first | rfl | exact wrap_u8_id _ (by omega) (by omega)
  rw [hv]
  have q3 : m.pitch.tdiv 256 = m.pitch / 256 := Int.tdiv_eq_ediv_of_nonneg q1.1
  have q4 : m.time.tdiv 256 = m.time / 256 := Int.tdiv_eq_ediv_of_nonneg q2.1
  clear hv hp hmr
  go_enter Tryz.func70, Tryz.ntmps70
  go_wp2
  go_ret
  exact ⟨rfl, G, Adv.refl _ _ _⟩
theorem rload_65284 (G : Nat → Nat) (d D ra sa : Nat) (bs : List Nat) (bv tv : Value) (m : MemS) (hm : MemOk m) (hmr : MemR m) (w : World) (hp : RMx w G d D ra sa bs bv tv m) : Calls Tryz.prog 70 #[.pointer (some ⟨D, 0, none⟩), .int .u16 65284] w fun e w' => e = .returned (.int .u8 (loadF m 65284)) ∧ ∃ G', Adv (fun _ => False) w G w' G' := by
  obtain ⟨c0, c1, c2, c3, c4, c5, c6⟩ := hp.ports
  have q1 := hmr.pitch
  have q2 := hmr.time
  have hv : loadF m 65284 = IntKind.wrap .u8 m.pitch := by first | rfl | exact wrap_u8_id _ (by omega) (by omega)
  rw [hv]
  have q3 : m.pitch.tdiv 256 = m.pitch / 256 := Int.tdiv_eq_ediv_of_nonneg q1.1
  have q4 : m.time.tdiv 256 = m.time / 256 := Int.tdiv_eq_ediv_of_nonneg q2.1
  clear hv hp hmr
  go_enter Tryz.func70, Tryz.ntmps70
  go_wp2
  go_ret
  exact ⟨rfl, G, Adv.refl _ _ _⟩
theorem rload_65285 (G : Nat → Nat) (d D ra sa : Nat) (bs : List Nat) (bv tv : Value) (m : MemS) (hm : MemOk m) (hmr : MemR m) (w : World) (hp : RMx w G d D ra sa bs bv tv m) : Calls Tryz.prog 70 #[.pointer (some ⟨D, 0, none⟩), .int .u16 65285] w fun e w' => e = .returned (.int .u8 (loadF m 65285)) ∧ ∃ G', Adv (fun _ => False) w G w' G' := by
  obtain ⟨c0, c1, c2, c3, c4, c5, c6⟩ := hp.ports
  have q1 := hmr.pitch
  have q2 := hmr.time
  have hv : loadF m 65285 = m.pitch / 256 := by first | rfl | exact wrap_u8_id _ (by omega) (by omega)
  rw [hv]
  have q3 : m.pitch.tdiv 256 = m.pitch / 256 := Int.tdiv_eq_ediv_of_nonneg q1.1
  have q4 : m.time.tdiv 256 = m.time / 256 := Int.tdiv_eq_ediv_of_nonneg q2.1
  clear hv hp hmr
  go_enter Tryz.func70, Tryz.ntmps70
  go_wp2
  go_ret
  exact ⟨rfl, G, Adv.refl _ _ _⟩
theorem rload_65286 (G : Nat → Nat) (d D ra sa : Nat) (bs : List Nat) (bv tv : Value) (m : MemS) (hm : MemOk m) (hmr : MemR m) (w : World) (hp : RMx w G d D ra sa bs bv tv m) : Calls Tryz.prog 70 #[.pointer (some ⟨D, 0, none⟩), .int .u16 65286] w fun e w' => e = .returned (.int .u8 (loadF m 65286)) ∧ ∃ G', Adv (fun _ => False) w G w' G' := by
  obtain ⟨c0, c1, c2, c3, c4, c5, c6⟩ := hp.ports
  have q1 := hmr.pitch
  have q2 := hmr.time
  have hv : loadF m 65286 = m.volume := by first | rfl | exact wrap_u8_id _ (by omega) (by omega)
  rw [hv]
  have q3 : m.pitch.tdiv 256 = m.pitch / 256 := Int.tdiv_eq_ediv_of_nonneg q1.1
  have q4 : m.time.tdiv 256 = m.time / 256 := Int.tdiv_eq_ediv_of_nonneg q2.1
  clear hv hp hmr
  go_enter Tryz.func70, Tryz.ntmps70
  go_wp2
  go_ret
  exact ⟨rfl, G, Adv.refl _ _ _⟩
theorem rload_65288 (G : Nat → Nat) (d D ra sa : Nat) (bs : List Nat) (bv tv : Value) (m : MemS) (hm : MemOk m) (hmr : MemR m) (w : World) (hp : RMx w G d D ra sa bs bv tv m) : Calls Tryz.prog 70 #[.pointer (some ⟨D, 0, none⟩), .int .u16 65288] w fun e w' => e = .returned (.int .u8 (loadF m 65288)) ∧ ∃ G', Adv (fun _ => False) w G w' G' := by
  obtain ⟨c0, c1, c2, c3, c4, c5, c6⟩ := hp.ports
  have q1 := hmr.pitch
  have q2 := hmr.time
  have hv : loadF m 65288 = IntKind.wrap .u8 m.time := by first | rfl | exact wrap_u8_id _ (by omega) (by omega)
  rw [hv]
  have q3 : m.pitch.tdiv 256 = m.pitch / 256 := Int.tdiv_eq_ediv_of_nonneg q1.1
  have q4 : m.time.tdiv 256 = m.time / 256 := Int.tdiv_eq_ediv_of_nonneg q2.1
  clear hv hp hmr
  go_enter Tryz.func70, Tryz.ntmps70
  go_wp2
  go_ret
  exact ⟨rfl, G, Adv.refl _ _ _⟩
theorem rload_65289 (G : Nat → Nat) (d D ra sa : Nat) (bs : List Nat) (bv tv : Value) (m : MemS) (hm : MemOk m) (hmr : MemR m) (w : World) (hp : RMx w G d D ra sa bs bv tv m) : Calls Tryz.prog 70 #[.pointer (some ⟨D, 0, none⟩), .int .u16 65289] w fun e w' => e = .returned (.int .u8 (loadF m 65289)) ∧ ∃ G', Adv (fun _ => False) w G w' G' := by
  obtain ⟨c0, c1, c2, c3, c4, c5, c6⟩ := hp.ports
  have q1 := hmr.pitch
  have q2 := hmr.time
  have hv : loadF m 65289 = m.time / 256 := by first | rfl | exact wrap_u8_id _ (by omega) (by omega)
  rw [hv]
  have q3 : m.pitch.tdiv 256 = m.pitch / 256 := Int.tdiv_eq_ediv_of_nonneg q1.1
  have q4 : m.time.tdiv 256 = m.time / 256 := Int.tdiv_eq_ediv_of_nonneg q2.1
  clear hv hp hmr
  go_enter Tryz.func70, Tryz.ntmps70
  go_wp2
  go_ret
  exact ⟨rfl, G, Adv.refl _ _ _⟩
theorem rload_else (G : Nat → Nat) (d D ra sa : Nat) (bs : List Nat) (bv tv : Value) (m : MemS) (hm : MemOk m) (a : Int) (h1 : 52224 ≤ a) (h9 : a < 65536) (hne : a ≠ 65280 ∧ a ≠ 65282 ∧ a ≠ 65284 ∧ a ≠ 65285 ∧ a ≠ 65286 ∧ a ≠ 65288 ∧ a ≠ 65289) (w : World) (hp : RMx w G d D ra sa bs bv tv m) : Calls Tryz.prog 70 #[.pointer (some ⟨D, 0, none⟩), .int .u16 a] w fun e w' => e = .returned (.int .u8 (loadF m a)) ∧ ∃ G', Adv (fun _ => False) w G w' G' := by
  obtain ⟨n1, n2, n3, n4, n5, n6, n7⟩ := hne
  have hv : loadF m a = 0 := by
    unfold loadF portF
    rw [if_neg (by omega), if_neg (by omega), if_neg (by omega), if_neg (by omega), if_neg n1, if_neg n2, if_neg n3, if_neg n4, if_neg n5, if_neg n6, if_neg n7]
  rw [hv]
  have hw : IntKind.i64.wrap a = a := IntWalk.i64_in _ (by omega)
  have b1 : decide (a < 16384) = false := by simp; omega
  have b2 : decide (a < 32768) = false := by simp; omega
  have b3 : decide (a < 49152) = false := by simp; omega
  have b4 : decide (a < 52224) = false := by simp; omega
  have e1 : (a == 65280) = false := by simpa using n1
  have e2 : (a == 65282) = false := by simpa using n2
  have e3 : (a == 65284) = false := by simpa using n3
  have e4 : (a == 65285) = false := by simpa using n4
  have e5 : (a == 65286) = false := by simpa using n5
  have e6 : (a == 65288) = false := by simpa using n6
  have e7 : (a == 65289) = false := by simpa using n7
  clear hp hv
  go_enter Tryz.func70, Tryz.ntmps70
  go_wp2
  go_ret
  exact ⟨rfl, G, Adv.refl _ _ _⟩
set_option maxRecDepth 100000 in
theorem rload_bank (G : Nat → Nat) (d D ra sa : Nat) (bs : List Nat) (bv tv : Value) (m : MemS) (hm : MemOk m) (hn2 : m.banks.length ≤ 1000000) (hc : 0 ≤ m.chosen ∧ m.chosen < 256) (k : Nat) (hk : k < 16384) (w : World) (hp : RMx w G d D ra sa bs bv tv m) : Calls Tryz.prog 70 #[.pointer (some ⟨D, 0, none⟩), .int .u16 (16384 + (k : Int))] w fun e w' => e = .returned (.int .u8 (loadF m (16384 + (k : Int)))) ∧ ∃ G', Adv (fun _ => False) w G w' G' := by
  have hv : loadF m (16384 + (k : Int)) = ((bankF m.banks m.chosen).getD []).getD k 0 := by
    unfold loadF
    rw [if_neg (by omega), if_pos (by omega), show (16384 + (k : Int) - 16384).toNat = k from by omega]
  rw [hv]
  have hw : IntKind.i64.wrap (16384 + (k : Int)) = 16384 + (k : Int) := IntWalk.i64_in _ (by omega)
  have hw3 : wrap64 (16384 + (k : Int) - 16384) = (k : Int) := by unfold wrap64; omega
  have b1 : decide (16384 + (k : Int) < 16384) = false := by simp; omega
  have b2 : decide (16384 + (k : Int) < 32768) = true := by simp; omega
  have HP := Lib.hid hp
  have HM := Lib.hid hm
  have hE := fun (w : World) (a : Option Addr) (l c : Nat) => Lib.run_eql_slice_nil (P := Tryz.prog) w 30 5 a l c 0 0 Tryz.underlying30
  clear hv hp hm
  go_enter Tryz.func70, Tryz.ntmps70
  go_wp2_with fail
  refine (refBank_any G d D ra sa bs bv tv m HM.out hn2 w HP.out hc).mono ?_
  rintro e w1 ⟨rfl, G1, a1⟩
  have A1 := Lib.hid a1
  clear a1
  cases hb : bankB m.banks bs m.chosen with
  | none =>
    obtain ⟨hf, -⟩ := bankB_none _ _ _ HP.out.blen hb
    have HF := Lib.hid hf
    clear hb hf
    unfold bankV
    go_wp2
    go_ret
    exact ⟨by rw [HF.out]; rfl, G1, A1.out⟩
  | some b =>
    obtain ⟨j, p, e1, e2, -, hf⟩ := bankB_some _ _ _ _ hb
    have HF := Lib.hid hf
    have hrow := (HP.out.adv A1.out (fun _ _ => id)).bank j p b e1 e2
    have hcell := (hrow.at (by omega)).2.2.2 k (.int .u8 (p.2.getD k 0)) (u8s_at _ k _ (by rw [List.getD_eq_getElem?_getD]; simp [HM.out.banks p (List.mem_of_getElem? e1), hk]))
    clear hb hf e1 e2 hrow
    unfold bankV
    go_wp2
    go_ret
    exact ⟨by rw [HF.out]; simp, G1, A1.out⟩
/-- Load, at every address. -/
theorem refLoad_any (G : Nat → Nat) (d D : Nat) (m : MemS) (hm : MemOk m) (hmr : MemR m) (hn2 : m.banks.length ≤ 1000000) (a : Int) (h0 : 0 ≤ a) (h9 : a < 65536) (w : World) (hp : RM w G d D m) :
    Calls Tryz.prog 70 #[.pointer (some ⟨D, 0, none⟩), .int .u16 a] w fun e w' => e = .returned (.int .u8 (loadF m a)) ∧ ∃ G', Adv (fun _ => False) w G w' G' := by
  obtain ⟨ra, sa, bs, bv, tv, hp⟩ := hp
  by_cases h1 : a < 16384
  · exact rload_low G d D ra sa bs bv tv m hm a h0 h1 w hp
  by_cases h2 : a < 32768
  · obtain ⟨k, rfl⟩ : ∃ k : Nat, a = 16384 + (k : Int) := ⟨(a - 16384).toNat, by omega⟩
    exact rload_bank G d D ra sa bs bv tv m hm hn2 (by have := hmr.chosen; omega) k (by omega) w hp
  by_cases h3 : a < 49152
  · obtain ⟨k, rfl⟩ : ∃ k : Nat, a = 32768 + (k : Int) := ⟨(a - 32768).toNat, by omega⟩
    exact rload_ram G d D ra sa bs bv tv m hm k (by omega) w hp
  by_cases h4 : a < 52224
  · obtain ⟨k, rfl⟩ : ∃ k : Nat, a = 49152 + (k : Int) := ⟨(a - 49152).toNat, by omega⟩
    exact rload_screen G d D ra sa bs bv tv m hm k (by omega) w hp
  by_cases e65280 : a = 65280
  · subst e65280; exact rload_65280 G d D ra sa bs bv tv m hm hmr w hp
  by_cases e65282 : a = 65282
  · subst e65282; exact rload_65282 G d D ra sa bs bv tv m hm hmr w hp
  by_cases e65284 : a = 65284
  · subst e65284; exact rload_65284 G d D ra sa bs bv tv m hm hmr w hp
  by_cases e65285 : a = 65285
  · subst e65285; exact rload_65285 G d D ra sa bs bv tv m hm hmr w hp
  by_cases e65286 : a = 65286
  · subst e65286; exact rload_65286 G d D ra sa bs bv tv m hm hmr w hp
  by_cases e65288 : a = 65288
  · subst e65288; exact rload_65288 G d D ra sa bs bv tv m hm hmr w hp
  by_cases e65289 : a = 65289
  · subst e65289; exact rload_65289 G d D ra sa bs bv tv m hm hmr w hp
  exact rload_else G d D ra sa bs bv tv m hm a (by omega) h9 ⟨e65280, e65282, e65284, e65285, e65286, e65288, e65289⟩ w hp
end Go.Proofs.YtdnalhjdmlkbmaaGreatDoor
namespace Go.Proofs.YtdnalhjdmlkbmaaGreatDoor
open Go.RowKit
set_option linter.unusedVariables false
theorem retU16 {a b : Int} (h : a = b) : Ending.returned (.int .u16 a) = .returned (.int .u16 b) := by rw [h]
theorem cell_sum (lo hi : Int) (h0 : 0 ≤ lo) (h1 : lo < 256) (h2 : 0 ≤ hi) (h3 : hi < 256) : bits BinOp.or .u16 (IntKind.wrap .u16 lo) (IntKind.wrap .u16 (IntKind.wrap .u16 hi * 256)) = hi * 256 + lo := by
  obtain ⟨a, rfl⟩ : ∃ a : Nat, lo = a := ⟨lo.toNat, by omega⟩
  obtain ⟨b, rfl⟩ : ∃ b : Nat, hi = b := ⟨hi.toNat, by omega⟩
  rw [wrap_u16_id (a : Int) (by omega) (by omega), wrap_u16_id (b : Int) (by omega) (by omega), wrap_u16_id ((b : Int) * 256) (by omega) (by omega), bits_or_nat a b (by omega) (by omega)]
  simp
theorem cellF_sum {m : MemS} (hmr : MemR m) (a : Int) : cellF m a = loadF m (nextA a) * 256 + loadF m a := by
  have h1 := loadF_rng hmr a
  have h2 := loadF_rng hmr (nextA a)
  exact cell_sum _ _ h1.1 h1.2 h2.1 h2.2
set_option maxRecDepth 100000 in
theorem refCell_mem (G : Nat → Nat) (d D : Nat) (m : MemS) (hm : MemOk m) (hmr : MemR m) (hn2 : m.banks.length ≤ 1000000) (a : Int) (h0 : 0 ≤ a) (h9 : a < 65536) (w : World) (hp : RM w G d D m) :
    Calls Tryz.prog 106 #[.pointer (some ⟨D, 0, none⟩), .int .u16 a] w fun e w' => e = .returned (.int .u16 (cellF m a)) ∧ ∃ G', Adv (fun _ => False) w G w' G' := by
  have HP := Lib.hid hp
  have l1 := loadF_rng hmr a
  have l2 := loadF_rng hmr (nextA a)
  have hv := cellF_sum hmr a
  obtain ⟨x, hx⟩ : ∃ x, x = loadF m a := ⟨_, rfl⟩
  obtain ⟨y, hy⟩ : ∃ y, y = loadF m (nextA a) := ⟨_, rfl⟩
  rw [← hx] at l1 hv
  rw [← hy] at l2 hv
  have HX := Lib.hid hx
  have HY := Lib.hid hy
  have HV := Lib.hid hv
  clear hp hx hy hv
  go_enter Tryz.func106, Tryz.ntmps106
  go_wp2_with fail
  refine (refLoad_any G d D m hm hmr hn2 a h0 h9 w HP.out).mono ?_
  rintro e w1 ⟨rfl, G1, a1⟩
  have A1 := Lib.hid a1
  rw [← HX.out]
  clear a1
  go_wp2_with fail
  refine (refLoad_any G1 d D m hm hmr hn2 (IntKind.wrap .u16 (a + 1)) (nextA_lo a).1 (nextA_lo a).2 w1 (HP.out.adv A1.out (fun _ _ => id))).mono ?_
  rintro e w2 ⟨rfl, G2, a2⟩
  have A2 := Lib.hid (A1.out.trans a2)
  rw [show loadF m (IntKind.wrap .u16 (a + 1)) = y from HY.out.symm]
  clear a2
  go_wp2
  go_ret
  exact ⟨retU16 (by rw [HV.out]; first | omega | (simp only [wrap_u16_mod]; omega)), G2, A2.out⟩
end Go.Proofs.YtdnalhjdmlkbmaaGreatDoor
namespace Go.Proofs.YtdnalhjdmlkbmaaGreatDoor
open Go.RowKit
set_option linter.unusedVariables false
theorem and_hi (p : Nat) (hp : p < 65536) : p &&& 65280 = p / 256 * 256 := by
  apply Nat.eq_of_testBit_eq
  intro i
  rw [Nat.testBit_and, show (65280 : Nat) = (2 ^ 8 - 1) <<< 8 from rfl, Nat.testBit_shiftLeft, Nat.testBit_two_pow_sub_one]
  rw [show p / 256 * 256 = (p >>> 8) <<< 8 from by rw [Nat.shiftLeft_eq, Nat.shiftRight_eq_div_pow], Nat.testBit_shiftLeft, Nat.testBit_shiftRight]
  by_cases h : 8 ≤ i
  · rw [show 8 + (i - 8) = i from by omega]
    by_cases h2 : i < 16
    · simp [h, show i - 8 < 8 from by omega]
    · have hp2 : p.testBit i = false := Nat.testBit_lt_two_pow (Nat.lt_of_lt_of_le hp (by rw [show (65536 : Nat) = 2 ^ 16 from rfl]; exact Nat.pow_le_pow_right (by omega) (by omega)))
      simp [hp2]
  · simp [h]
theorem and_lo (p : Nat) : p &&& 255 = p % 256 := Nat.and_two_pow_sub_one_eq_mod p 8
theorem pitch_loR (p x : Int) (h0 : 0 ≤ p) (h1 : p < 65536) (h2 : 0 ≤ x) (h3 : x < 256) : bits BinOp.or .u16 (bits BinOp.and .u16 p 65280) (IntKind.wrap .u16 x) = p / 256 * 256 + x := by
  obtain ⟨a, rfl⟩ : ∃ a : Nat, p = a := ⟨p.toNat, by omega⟩
  obtain ⟨b, rfl⟩ : ∃ b : Nat, x = b := ⟨x.toNat, by omega⟩
  have e1 : bits BinOp.and .u16 (a : Int) 65280 = ((a / 256 * 256 : Nat) : Int) := by
    show IntKind.wrap .u16 ((BitVec.ofInt 16 (a : Int) &&& BitVec.ofInt 16 ((65280 : Nat) : Int)).toNat : Nat) = _
    rw [BitVec.toNat_and, ofInt16 _ (by omega), ofInt16 _ (by omega), and_hi a (by omega)]
    exact wrap_u16_id _ (Int.natCast_nonneg _) (by omega)
  rw [e1, wrap_u16_id (b : Int) (by omega) (by omega)]
  show IntKind.wrap .u16 ((BitVec.ofInt 16 ((a / 256 * 256 : Nat) : Int) ||| BitVec.ofInt 16 (b : Int)).toNat : Nat) = _
  rw [BitVec.toNat_or, ofInt16 _ (by omega), ofInt16 _ (by omega)]
  have h := Nat.shiftLeft_add_eq_or_of_lt (i := 8) (b := b) (by omega) (a / 256)
  rw [Nat.shiftLeft_eq, show (2 : Nat) ^ 8 = 256 from rfl] at h
  rw [← h]
  rw [wrap_u16_id _ (Int.natCast_nonneg _) (by omega)]
  omega
theorem pitch_hiR (p x : Int) (h0 : 0 ≤ p) (h1 : p < 65536) (h2 : 0 ≤ x) (h3 : x < 256) : bits BinOp.or .u16 (bits BinOp.and .u16 p 255) (IntKind.wrap .u16 (IntKind.wrap .u16 x * 256)) = p % 256 + 256 * x := by
  obtain ⟨a, rfl⟩ : ∃ a : Nat, p = a := ⟨p.toNat, by omega⟩
  obtain ⟨b, rfl⟩ : ∃ b : Nat, x = b := ⟨x.toNat, by omega⟩
  have e1 : bits BinOp.and .u16 (a : Int) 255 = ((a % 256 : Nat) : Int) := by
    show IntKind.wrap .u16 ((BitVec.ofInt 16 (a : Int) &&& BitVec.ofInt 16 ((255 : Nat) : Int)).toNat : Nat) = _
    rw [BitVec.toNat_and, ofInt16 _ (by omega), ofInt16 _ (by omega), and_lo a]
    exact wrap_u16_id _ (Int.natCast_nonneg _) (by omega)
  rw [e1, wrap_u16_id (b : Int) (by omega) (by omega), wrap_u16_id ((b : Int) * 256) (by omega) (by omega), bits_or_nat (a % 256) b (by omega) (by omega)]
  omega
/-- A row that does not lie in the block that is written. -/
theorem Row.other {e size : Nat} {w : World} {G : Nat → Nat} {i g c n : Nat} {xs : List Value} (h : Row e size w G i (.slice (some ⟨g, 0, none⟩) c n) c xs) (b k : Nat) (hne : g ≠ b) (u : Value) : Row e size (w.setCell ⟨b, k, none⟩ u) G i (.slice (some ⟨g, 0, none⟩) c n) c xs :=
  ⟨ownsRow_of_block h.row fun b' e => by cases e; exact Below.heap_setCell _ _ _ _ hne, h.own⟩
section
variable {w : World} {G : Nat → Nat} {d D ra sa : Nat} {bs : List Nat} {bv tv : Value} {m : MemS}
def SD (d : Nat) : Nat → Prop := fun o => d ≤ o ∧ o < d + 4
theorem RMx.setRam (h : RMx w G d D ra sa bs bv tv m) (hm : MemOk m) (k : Nat) (hk : k < 16384) (x : Int) : Adv (SD d) w G (w.setCell ⟨ra, k, none⟩ (.int .u8 x)) G ∧ RMx (w.setCell ⟨ra, k, none⟩ (.int .u8 x)) G d D ra sa bs bv tv { m with ram := m.ram.set k x } := by
  obtain ⟨h1, h2⟩ := h.ram.store k (by rw [u8s_length, hm.ram]; exact hk) (.int .u8 x)
  have hn := h.nodup
  rw [List.nodup_cons] at hn
  have hl := h.lt
  refine ⟨h1.mono fun o e => by subst e; exact ⟨by omega, by omega⟩, (h1.keep D hl (by rw [h.hown]; omega)).trans h.head, h.hown, h.row.adv h1 (by omega), h.blen, ?_, h.scr.other ra k (fun e => hn.1 (by rw [← e]; exact List.mem_cons_self)) _, fun j p b hp hb => (h.bank j p b hp hb).other ra k (fun e => hn.1 (by rw [← e]; exact List.mem_cons_of_mem _ (List.mem_of_getElem? hb))) _, h.tones.adv h1 (by omega), h.nodup⟩
  simpa [u8s, List.map_set] using h2
theorem RMx.setScr (h : RMx w G d D ra sa bs bv tv m) (hm : MemOk m) (k : Nat) (hk : k < 3072) (x : Int) : Adv (SD d) w G (w.setCell ⟨sa, k, none⟩ (.int .u8 x)) G ∧ RMx (w.setCell ⟨sa, k, none⟩ (.int .u8 x)) G d D ra sa bs bv tv { m with screen := m.screen.set k x } := by
  obtain ⟨h1, h2⟩ := h.scr.store k (by rw [u8s_length, hm.screen]; exact hk) (.int .u8 x)
  have hn := h.nodup
  rw [List.nodup_cons, List.nodup_cons] at hn
  have hl := h.lt
  refine ⟨h1.mono fun o e => by subst e; exact ⟨by omega, by omega⟩, (h1.keep D hl (by rw [h.hown]; omega)).trans h.head, h.hown, h.row.adv h1 (by omega), h.blen, h.ram.other sa k (fun e => hn.1 (by rw [e]; exact List.mem_cons_self)) _, ?_, fun j p b hp hb => (h.bank j p b hp hb).other sa k (fun e => hn.2.1 (by rw [← e]; exact List.mem_of_getElem? hb)) _, h.tones.adv h1 (by omega), h.nodup⟩
  simpa [u8s, List.map_set] using h2
theorem bankC_set (ch : Int) (k : Nat) (x : Int) : ∀ (l : List (Int × List Int)) (bs : List Nat), bankC (bankSet l ch k x) bs = bankC l bs
  | [], _ => rfl
  | p :: l, [] => by unfold bankC; simp
  | p :: l, b :: bs => by
    unfold bankSet
    by_cases e : p.1 = ch
    · rw [if_pos e]; rfl
    · rw [if_neg e]
      have h := bankC_set ch k x l bs
      show [Value.int .i64 p.1, .slice (some ⟨b, 0, none⟩) 16384 16384] ++ bankC (bankSet l ch k x) bs = [Value.int .i64 p.1, .slice (some ⟨b, 0, none⟩) 16384 16384] ++ bankC l bs
      rw [h]
theorem bankSet_size (ch : Int) (k : Nat) (x : Int) : ∀ (l : List (Int × List Int)), (bankSet l ch k x).length = l.length
  | [] => rfl
  | p :: l => by
    unfold bankSet
    by_cases e : p.1 = ch
    · rw [if_pos e]; rfl
    · rw [if_neg e]; simp [bankSet_size ch k x l]
/-- What bankSet leaves at each place. -/
theorem bankSet_at (ch : Int) (k : Nat) (x : Int) : ∀ (l : List (Int × List Int)) (bs : List Nat) (c : Nat), bankB l bs ch = some c → bs.Nodup → bs.length = l.length → ∀ (j : Nat) (p : Int × List Int) (b : Nat), (bankSet l ch k x)[j]? = some p → bs[j]? = some b →
    ∃ q, l[j]? = some q ∧ ((b = c ∧ p.2 = q.2.set k x) ∨ (b ≠ c ∧ p = q))
  | [], _, _, h, _, _, _, _, _, _, _ => by cases h
  | _ :: _, [], _, h, _, _, _, _, _, _, _ => by cases h
  | a :: l, y :: bs, c, h, hn, hl, j, p, b, hp, hb => by
    unfold bankB at h
    unfold bankSet at hp
    rw [List.nodup_cons] at hn
    by_cases e : a.1 = ch
    · rw [if_pos e] at h hp
      cases h
      match j, hp, hb with
      | 0, hp, hb => simp at hp hb; subst hp; subst hb; exact ⟨a, rfl, .inl ⟨rfl, rfl⟩⟩
      | j + 1, hp, hb =>
        refine ⟨p, by simpa using hp, .inr ⟨?_, rfl⟩⟩
        rintro rfl
        exact hn.1 (List.mem_of_getElem? (by simpa using hb))
    · rw [if_neg e] at h hp
      match j, hp, hb with
      | 0, hp, hb =>
        simp at hp hb
        subst hp; subst hb
        refine ⟨a, rfl, .inr ⟨?_, rfl⟩⟩
        rintro rfl
        obtain ⟨k', q, h1, h2, _⟩ := bankB_some l bs ch _ h
        exact hn.1 (List.mem_of_getElem? h2)
      | j + 1, hp, hb =>
        obtain ⟨q, h1, h2⟩ := bankSet_at ch k x l bs c h hn.2 (by simpa using hl) j p b (by simpa using hp) (by simpa using hb)
        exact ⟨q, by simpa using h1, h2⟩
theorem RMx.setBank (h : RMx w G d D ra sa bs bv tv m) (hm : MemOk m) (c : Nat) (hc : bankB m.banks bs m.chosen = some c) (k : Nat) (hk : k < 16384) (x : Int) : Adv (SD d) w G (w.setCell ⟨c, k, none⟩ (.int .u8 x)) G ∧ RMx (w.setCell ⟨c, k, none⟩ (.int .u8 x)) G d D ra sa bs bv tv { m with banks := bankSet m.banks m.chosen k x } := by
  obtain ⟨j0, p0, e1, e2, -, -⟩ := bankB_some _ _ _ _ hc
  obtain ⟨h1, h2⟩ := (h.bank j0 p0 c e1 e2).store k (by rw [u8s_length, hm.banks p0 (List.mem_of_getElem? e1)]; exact hk) (.int .u8 x)
  have hn := h.nodup
  rw [List.nodup_cons, List.nodup_cons] at hn
  have hl := h.lt
  have hcm : c ∈ bs := List.mem_of_getElem? e2
  refine ⟨h1.mono fun o e => by subst e; exact ⟨by omega, by omega⟩, (h1.keep D hl (by rw [h.hown]; omega)).trans h.head, h.hown, ?_, by rw [h.blen]; exact (bankSet_size _ _ _ _).symm, h.ram.other c k (fun e => hn.1 (by rw [e]; exact List.mem_cons_of_mem _ hcm)) _, h.scr.other c k (fun e => hn.2.1 (by rw [e]; exact hcm)) _, ?_, h.tones.adv h1 (by omega), h.nodup⟩
  · have hr := h.row.adv h1 (by omega)
    show Row _ 2 _ G (d + 1) bv (bankSet m.banks m.chosen k x).length (bankC (bankSet m.banks m.chosen k x) bs)
    rw [bankC_set, bankSet_size]
    exact hr
  · intro j p b hp hb
    obtain ⟨q, g1, g2⟩ := bankSet_at m.chosen k x m.banks bs c hc hn.2.2 h.blen j p b hp hb
    rcases g2 with ⟨rfl, g3⟩ | ⟨g3, rfl⟩
    · obtain ⟨-, h4⟩ := (h.bank j q b g1 hb).store k (by rw [u8s_length, hm.banks q (List.mem_of_getElem? g1)]; exact hk) (.int .u8 x)
      rw [g3]
      simpa [u8s, List.map_set] using h4
    · exact (h.bank j p b g1 hb).other c k g3 _
theorem RMx.setHead (h : RMx w G d D ra sa bs bv tv m) (k : Nat) (v : Value) (m' : MemS) (hb : m'.banks = m.banks) (hr : m'.ram = m.ram) (hs : m'.screen = m.screen) (ht : m'.tones = m.tones)
    (hh : (w.setCell ⟨D, k, none⟩ v).heap[D]? = some (.cells #[bv, .slice (some ⟨ra, 0, none⟩) 16384 16384, .slice (some ⟨sa, 0, none⟩) 3072 3072, .int .u8 m'.chosen, .int .u8 m'.pad, .int .u16 m'.pitch, .int .u8 m'.volume, .int .u16 m'.time, .int .i64 m'.cycle, tv] 74 (0, 0))) :
    Adv (SD d) w G (w.setCell ⟨D, k, none⟩ v) G ∧ RMx (w.setCell ⟨D, k, none⟩ v) G d D ra sa bs bv tv m' := by
  have ha := (Adv.refl (fun o => o = d) w G).setCell (p := ⟨D, k, none⟩) h.hown v
  refine ⟨ha.mono fun o e => by subst e; exact ⟨by omega, by omega⟩, hh, h.hown, ?_, by rw [hb]; exact h.blen, ?_, ?_, ?_, ?_, h.nodup⟩
  · rw [hb]; exact h.row.adv ha (by omega)
  · rw [hr]; exact h.ram.adv ha (by omega)
  · rw [hs]; exact h.scr.adv ha (by omega)
  · rw [hb]; exact fun j p b hp hb => (h.bank j p b hp hb).adv ha (by omega)
  · rw [ht]; exact h.tones.adv ha (by omega)
theorem RMx.setChosen (h : RMx w G d D ra sa bs bv tv m) (x : Int) : Adv (SD d) w G (w.setCell ⟨D, 3, none⟩ (.int .u8 x)) G ∧ RMx (w.setCell ⟨D, 3, none⟩ (.int .u8 x)) G d D ra sa bs bv tv { m with chosen := x } :=
  h.setHead 3 _ { m with chosen := x } rfl rfl rfl rfl (by simp only [World.setCell, Array.getElem?_modify, h.head]; simp)
theorem RMx.setPitch (h : RMx w G d D ra sa bs bv tv m) (x : Int) : Adv (SD d) w G (w.setCell ⟨D, 5, none⟩ (.int .u16 x)) G ∧ RMx (w.setCell ⟨D, 5, none⟩ (.int .u16 x)) G d D ra sa bs bv tv { m with pitch := x } :=
  h.setHead 5 _ { m with pitch := x } rfl rfl rfl rfl (by simp only [World.setCell, Array.getElem?_modify, h.head]; simp)
theorem RMx.setVolume (h : RMx w G d D ra sa bs bv tv m) (x : Int) : Adv (SD d) w G (w.setCell ⟨D, 6, none⟩ (.int .u8 x)) G ∧ RMx (w.setCell ⟨D, 6, none⟩ (.int .u8 x)) G d D ra sa bs bv tv { m with volume := x } :=
  h.setHead 6 _ { m with volume := x } rfl rfl rfl rfl (by simp only [World.setCell, Array.getElem?_modify, h.head]; simp)
end
end Go.Proofs.YtdnalhjdmlkbmaaGreatDoor
namespace Go.Proofs.YtdnalhjdmlkbmaaGreatDoor
open Go.RowKit
set_option linter.unusedVariables false
/-- What Store leaves. -/
def RStore (w : World) (G : Nat → Nat) (d D : Nat) (m' : MemS) (e : Ending) (w' : World) : Prop := e = .returned (.tuple #[]) ∧ ∃ G', Adv (SD d) w G w' G' ∧ RM w' G' d D m'
section
variable {w : World} {G : Nat → Nat} {d D ra sa : Nat} {bs : List Nat} {bv tv : Value} {m : MemS}
theorem RMx.played {w2 : World} {G2 : Nat → Nat} {n : Nat} {v' : Value} (h : RMx w G d D ra sa bs bv tv m) (t : Int × Int × Int) (ha : Adv (· = d + 3) w G w2 G2) (hn : n = m.tones.length + 1) (hr : Row 152 3 w2 G2 (d + 3) v' n (tonesC (m.tones ++ [t]))) :
    Adv (SD d) w G (w2.setCell ⟨D, 9, none⟩ v') G2 ∧ RMx (w2.setCell ⟨D, 9, none⟩ v') G2 d D ra sa bs bv v' { m with tones := m.tones ++ [t] } := by
  have hD := (ha.keep D h.lt (by rw [h.hown]; omega)).trans h.head
  have hG := (ha.own D h.lt).trans h.hown
  have hb := (Adv.refl (fun o => o = d) w2 G2).setCell (p := ⟨D, 9, none⟩) hG v'
  refine ⟨(ha.mono fun o e => by subst e; exact ⟨by omega, by omega⟩).trans (hb.mono fun o e => by subst e; exact ⟨by omega, by omega⟩), ?_, hG, (h.row.adv ha (by omega)).adv hb (by omega), h.blen, (h.ram.adv ha (by omega)).adv hb (by omega), (h.scr.adv ha (by omega)).adv hb (by omega), fun k p b hp hb' => ((h.bank k p b hp hb').adv ha (by omega)).adv hb (by omega), ?_, h.nodup⟩
  · simp only [World.setCell, Array.getElem?_modify, hD]; simp
  · show Row _ 3 _ G2 (d + 3) v' (m.tones ++ [t]).length (tonesC (m.tones ++ [t]))
    rw [show (m.tones ++ [t]).length = n from by simp [hn]]
    exact hr.adv hb (by omega)
end
theorem rstore_low (G : Nat → Nat) (d D ra sa : Nat) (bs : List Nat) (bv tv : Value) (m : MemS) (hm : MemOk m) (a : Int) (h0 : 0 ≤ a) (h : a < 16384) (x : Int) (hx : 0 ≤ x ∧ x < 256) (w : World) (hp : RMx w G d D ra sa bs bv tv m) : Calls Tryz.prog 43 #[.pointer (some ⟨D, 0, none⟩), .int .u16 a, .int .u8 x] w (RStore w G d D (storeF m a x)) := by
  have hv : storeF m a x = m := if_pos h
  rw [hv]
  have hw : IntKind.i64.wrap a = a := IntWalk.i64_in _ (by omega)
  have b1 : decide (a < 16384) = true := by simpa using h
  have HP := Lib.hid hp
  clear hp hv
  go_enter Tryz.func43, Tryz.ntmps43
  go_wp2
  go_end0
  exact ⟨rfl, G, Adv.refl _ _ _, ra, sa, bs, bv, tv, HP.out⟩
theorem rstore_ram (G : Nat → Nat) (d D ra sa : Nat) (bs : List Nat) (bv tv : Value) (m : MemS) (hm : MemOk m) (k : Nat) (hk : k < 16384) (x : Int) (hx : 0 ≤ x ∧ x < 256) (w : World) (hp : RMx w G d D ra sa bs bv tv m) : Calls Tryz.prog 43 #[.pointer (some ⟨D, 0, none⟩), .int .u16 (32768 + (k : Int)), .int .u8 x] w (RStore w G d D (storeF m (32768 + (k : Int)) x)) := by
  have hv : storeF m (32768 + (k : Int)) x = { m with ram := m.ram.set k x } := by
    unfold storeF
    rw [if_neg (by omega), if_neg (by omega), if_pos (by omega), show (32768 + (k : Int) - 32768).toNat = k from by omega]
  rw [hv]
  have hw : IntKind.i64.wrap (32768 + (k : Int)) = 32768 + (k : Int) := IntWalk.i64_in _ (by omega)
  have hw3 : wrap64 (32768 + (k : Int) - 32768) = (k : Int) := by unfold wrap64; omega
  have b0 : decide (32768 + (k : Int) < 16384) = false := by simp; omega
  have b1 : decide (32768 + (k : Int) < 32768) = false := by simp; omega
  have b2 : decide (32768 + (k : Int) < 49152) = true := by simp; omega
  obtain ⟨c1, c2⟩ := hp.ramc hm k hk
  have f2 := (hp.ram.at (by omega)).2.2.1 k
  have HS := Lib.hid (hp.setRam hm k hk x)
  clear hv hp
  go_enter Tryz.func43, Tryz.ntmps43
  go_wp2
  go_end0
  exact ⟨rfl, G, by simpa using HS.out.1, ra, sa, bs, bv, tv, by simpa using HS.out.2⟩
theorem rstore_screen (G : Nat → Nat) (d D ra sa : Nat) (bs : List Nat) (bv tv : Value) (m : MemS) (hm : MemOk m) (k : Nat) (hk : k < 3072) (x : Int) (hx : 0 ≤ x ∧ x < 256) (w : World) (hp : RMx w G d D ra sa bs bv tv m) : Calls Tryz.prog 43 #[.pointer (some ⟨D, 0, none⟩), .int .u16 (49152 + (k : Int)), .int .u8 x] w (RStore w G d D (storeF m (49152 + (k : Int)) x)) := by
  have hv : storeF m (49152 + (k : Int)) x = { m with screen := m.screen.set k x } := by
    unfold storeF
    rw [if_neg (by omega), if_neg (by omega), if_neg (by omega), if_pos (by omega), show (49152 + (k : Int) - 49152).toNat = k from by omega]
  rw [hv]
  have hw : IntKind.i64.wrap (49152 + (k : Int)) = 49152 + (k : Int) := IntWalk.i64_in _ (by omega)
  have hw3 : wrap64 (49152 + (k : Int) - 49152) = (k : Int) := by unfold wrap64; omega
  have b0 : decide (49152 + (k : Int) < 16384) = false := by simp; omega
  have b1 : decide (49152 + (k : Int) < 32768) = false := by simp; omega
  have b2 : decide (49152 + (k : Int) < 49152) = false := by simp; omega
  have b3 : decide (49152 + (k : Int) < 52224) = true := by simp; omega
  obtain ⟨c1, c2⟩ := hp.scrc hm k hk
  have f2 := (hp.scr.at (by omega)).2.2.1 k
  have HS := Lib.hid (hp.setScr hm k hk x)
  clear hv hp
  go_enter Tryz.func43, Tryz.ntmps43
  go_wp2
  go_end0
  exact ⟨rfl, G, by simpa using HS.out.1, ra, sa, bs, bv, tv, by simpa using HS.out.2⟩
theorem bankSet_no (ch : Int) (k : Nat) (x : Int) : ∀ (l : List (Int × List Int)), (∀ p ∈ l, p.1 ≠ ch) → bankSet l ch k x = l
  | [], _ => rfl
  | p :: l, h => by
    unfold bankSet
    rw [if_neg (h p List.mem_cons_self), bankSet_no ch k x l fun q hq => h q (List.mem_cons_of_mem _ hq)]
set_option maxRecDepth 100000 in
theorem rstore_bank (G : Nat → Nat) (d D ra sa : Nat) (bs : List Nat) (bv tv : Value) (m : MemS) (hm : MemOk m) (hn2 : m.banks.length ≤ 1000000) (hc : 0 ≤ m.chosen ∧ m.chosen < 256) (k : Nat) (hk : k < 16384) (x : Int) (hx : 0 ≤ x ∧ x < 256) (w : World) (hp : RMx w G d D ra sa bs bv tv m) : Calls Tryz.prog 43 #[.pointer (some ⟨D, 0, none⟩), .int .u16 (16384 + (k : Int)), .int .u8 x] w (RStore w G d D (storeF m (16384 + (k : Int)) x)) := by
  have hv : storeF m (16384 + (k : Int)) x = { m with banks := bankSet m.banks m.chosen k x } := by
    unfold storeF
    rw [if_neg (by omega), if_pos (by omega), show (16384 + (k : Int) - 16384).toNat = k from by omega]
  rw [hv]
  have hw : IntKind.i64.wrap (16384 + (k : Int)) = 16384 + (k : Int) := IntWalk.i64_in _ (by omega)
  have hw3 : wrap64 (16384 + (k : Int) - 16384) = (k : Int) := by unfold wrap64; omega
  have b0 : decide (16384 + (k : Int) < 16384) = false := by simp; omega
  have b1 : decide (16384 + (k : Int) < 32768) = true := by simp; omega
  have hE := fun (w : World) (a : Option Addr) (l c : Nat) => Lib.run_eql_slice_nil (P := Tryz.prog) w 30 5 a l c 0 0 Tryz.underlying30
  have HP := Lib.hid hp
  have HM := Lib.hid hm
  clear hv hp hm
  go_enter Tryz.func43, Tryz.ntmps43
  go_wp2_with fail
  refine (refBank_any G d D ra sa bs bv tv m HM.out hn2 w HP.out hc).mono ?_
  rintro e w1 ⟨rfl, G1, a1⟩
  have A1 := Lib.hid a1
  have H1 := Lib.hid (HP.out.adv a1 (fun _ _ => id))
  clear a1
  cases hb : bankB m.banks bs m.chosen with
  | none =>
    obtain ⟨hf, hno⟩ := bankB_none _ _ _ HP.out.blen hb
    have HF := Lib.hid hno
    clear hb hf hno
    unfold bankV
    go_wp2
    go_end0
    refine ⟨rfl, G1, A1.out.mono (fun _ h => h.elim), ra, sa, bs, bv, tv, ?_⟩
    rw [show bankSet m.banks m.chosen k x = m.banks from bankSet_no _ _ _ _ HF.out]
    exact H1.out
  | some b =>
    obtain ⟨j, p, e1, e2, -, -⟩ := bankB_some _ _ _ _ hb
    have hrow := H1.out.bank j p b e1 e2
    have hcell := (hrow.at (by omega)).2.2.2 k (.int .u8 (p.2.getD k 0)) (u8s_at _ k _ (by rw [List.getD_eq_getElem?_getD]; simp [HM.out.banks p (List.mem_of_getElem? e1), hk]))
    have f2 := (hrow.at (by omega)).2.2.1 k
    have HS := Lib.hid (H1.out.setBank HM.out b hb k hk x)
    clear hb e1 e2 hrow
    unfold bankV
    go_wp2
    go_end0
    exact ⟨rfl, G1, by simpa using (A1.out.mono (T := SD d) (fun _ h => h.elim)).trans HS.out.1, ra, sa, bs, bv, tv, by simpa using HS.out.2⟩
theorem rstore_65280 (G : Nat → Nat) (d D ra sa : Nat) (bs : List Nat) (bv tv : Value) (m : MemS) (hm : MemOk m) (x : Int) (hx : 0 ≤ x ∧ x < 256) (w : World) (hp : RMx w G d D ra sa bs bv tv m) : Calls Tryz.prog 43 #[.pointer (some ⟨D, 0, none⟩), .int .u16 65280, .int .u8 x] w (RStore w G d D (storeF m 65280 x)) := by
  have hv : storeF m 65280 x = { m with chosen := x.tmod 16 } := rfl
  rw [hv]
  obtain ⟨c0, c1, c2, c3, c4, c5, c6⟩ := hp.ports
  have f0 := block_free hp.head 3
  have HS := Lib.hid (hp.setChosen (x.tmod 16))
  have q0 : x.tmod 16 = x % 16 := Int.tmod_eq_emod_of_nonneg hx.1
  clear hv hp
  go_enter Tryz.func43, Tryz.ntmps43
  go_wp2
  go_end0
  exact ⟨rfl, G, by first | exact HS.out.1 | (rw [← q0]; exact HS.out.1), ra, sa, bs, bv, tv, by first | exact HS.out.2 | (rw [← q0]; exact HS.out.2)⟩
theorem rstore_65284 (G : Nat → Nat) (d D ra sa : Nat) (bs : List Nat) (bv tv : Value) (m : MemS) (hm : MemOk m) (hmr : MemR m) (x : Int) (hx : 0 ≤ x ∧ x < 256) (w : World) (hp : RMx w G d D ra sa bs bv tv m) : Calls Tryz.prog 43 #[.pointer (some ⟨D, 0, none⟩), .int .u16 65284, .int .u8 x] w (RStore w G d D (storeF m 65284 x)) := by
  have q1 := hmr.pitch
  have hv : storeF m 65284 x = { m with pitch := m.pitch / 256 * 256 + x } := by
    show ({ m with pitch := bits BinOp.or .u16 (bits BinOp.and .u16 m.pitch 65280) (IntKind.wrap .u16 x) } : MemS) = _
    rw [pitch_loR _ _ q1.1 q1.2 hx.1 hx.2]
  rw [hv]
  obtain ⟨c0, c1, c2, c3, c4, c5, c6⟩ := hp.ports
  have f0 := block_free hp.head 5
  have HS := Lib.hid (hp.setPitch (m.pitch / 256 * 256 + x))
  have q3 : m.pitch.tdiv 256 = m.pitch / 256 := Int.tdiv_eq_ediv_of_nonneg q1.1
  have q4 : IntKind.u16.wrap (m.pitch / 256 * 256) = m.pitch / 256 * 256 := wrap_u16_id _ (by omega) (by omega)
  have q5 : IntKind.u16.wrap (m.pitch / 256 * 256 + x) = m.pitch / 256 * 256 + x := wrap_u16_id _ (by omega) (by omega)
  have q6 : IntKind.u16.wrap x = x := wrap_u16_id _ (by omega) (by omega)
  clear hv hp hmr
  go_enter Tryz.func43, Tryz.ntmps43
  go_wp2
  go_end0
  exact ⟨rfl, G, by first | exact HS.out.1 | simpa [q4, q5, q6] using HS.out.1, ra, sa, bs, bv, tv, by first | exact HS.out.2 | simpa [q4, q5, q6] using HS.out.2⟩
theorem rstore_65285 (G : Nat → Nat) (d D ra sa : Nat) (bs : List Nat) (bv tv : Value) (m : MemS) (hm : MemOk m) (hmr : MemR m) (x : Int) (hx : 0 ≤ x ∧ x < 256) (w : World) (hp : RMx w G d D ra sa bs bv tv m) : Calls Tryz.prog 43 #[.pointer (some ⟨D, 0, none⟩), .int .u16 65285, .int .u8 x] w (RStore w G d D (storeF m 65285 x)) := by
  have q1 := hmr.pitch
  have hv : storeF m 65285 x = { m with pitch := m.pitch % 256 + 256 * x } := by
    show ({ m with pitch := bits BinOp.or .u16 (bits BinOp.and .u16 m.pitch 255) (IntKind.wrap .u16 (IntKind.wrap .u16 x * 256)) } : MemS) = _
    rw [pitch_hiR _ _ q1.1 q1.2 hx.1 hx.2]
  rw [hv]
  obtain ⟨c0, c1, c2, c3, c4, c5, c6⟩ := hp.ports
  have f0 := block_free hp.head 5
  have HS := Lib.hid (hp.setPitch (m.pitch % 256 + 256 * x))
  have q3 : m.pitch.tmod 256 = m.pitch % 256 := Int.tmod_eq_emod_of_nonneg q1.1
  have q4 : IntKind.u16.wrap (256 * x) = 256 * x := wrap_u16_id _ (by omega) (by omega)
  have q5 : IntKind.u16.wrap (m.pitch % 256 + 256 * x) = m.pitch % 256 + 256 * x := wrap_u16_id _ (by omega) (by omega)
  have q6 : IntKind.u16.wrap x = x := wrap_u16_id _ (by omega) (by omega)
  clear hv hp hmr
  go_enter Tryz.func43, Tryz.ntmps43
  go_wp2
  go_end0
  exact ⟨rfl, G, by first | exact HS.out.1 | simpa [q4, q5, q6] using HS.out.1, ra, sa, bs, bv, tv, by first | exact HS.out.2 | simpa [q4, q5, q6] using HS.out.2⟩
set_option maxRecDepth 100000 in
set_option maxHeartbeats 1000000 in
theorem rstore_65286 (G : Nat → Nat) (d D ra sa : Nat) (bs : List Nat) (bv tv : Value) (m : MemS) (hm : MemOk m) (hn : m.tones.length ≤ 1000000) (x : Int) (hx : 0 ≤ x ∧ x < 256) (w : World) (hp : RMx w G d D ra sa bs bv tv m) : Calls Tryz.prog 43 #[.pointer (some ⟨D, 0, none⟩), .int .u16 65286, .int .u8 x] w (RStore w G d D (storeF m 65286 x)) := by
  have hv : storeF m 65286 x = { m with volume := x, tones := m.tones ++ [(m.cycle, m.pitch, x)] } := rfl
  rw [hv]
  obtain ⟨i0, hi, hz0, hz1, hz2⟩ := info_parts Tryz.info152
  obtain ⟨va, vc, rfl, hvc, hnc, -⟩ := hp.tones.slice
  obtain ⟨tn, htn⟩ : ∃ v, v = m.tones.length := ⟨_, rfl⟩
  obtain ⟨-, -, -, c6, -, -, -⟩ := hp.ports
  have f6 := block_free hp.head 6
  have hS := hp.setVolume x
  obtain ⟨-, -, d5, -, -, d8, d9⟩ := hS.2.ports
  rw [← htn] at d9
  have hrow := hS.2.tones.adv (((Adv.refl (fun _ => False) (w.setCell ⟨D, 6, none⟩ (.int .u8 x)) G).drew).alloc (.cells #[.int .i64 m.cycle, .int .u16 m.pitch, .int .u8 x] 152) 1000) id
  have hrow : Row 152 3 ((w.setCell ⟨D, 6, none⟩ (.int .u8 x)).drew.alloc (.cells #[.int .i64 m.cycle, .int .u16 m.pitch, .int .u8 x] 152)) (own1 (w.setCell ⟨D, 6, none⟩ (.int .u8 x)).drew G 1000) (d + 3) (.slice va tn vc) tn (tonesC m.tones) := by rw [htn]; exact hrow
  have HROW := Lib.hid hrow
  have HS := Lib.hid hS
  have hone : ∀ u ∈ [Value.int .i64 m.cycle, .int .u16 m.pitch, .int .u8 x], u.oneCell' = true := by
    intro u hu; simp at hu; rcases hu with rfl | rfl | rfl <;> rfl
  have hce : ∀ (j : Nat) (u : Value), [Value.int .i64 m.cycle, .int .u16 m.pitch, .int .u8 x][j]? = some u → (((w.setCell ⟨D, 6, none⟩ (.int .u8 x)).alloc (.cells #[.int .i64 m.cycle, .int .u16 m.pitch, .int .u8 x] 152)).drew).cell? ((⟨w.heap.size, 0, none⟩ : Addr).add j) = some u := fun j u h => by
    have := new_cells (w.setCell ⟨D, 6, none⟩ (.int .u8 x)) [Value.int .i64 m.cycle, .int .u16 m.pitch, .int .u8 x] 152 j u h
    rw [World.size_setCell] at this
    exact this
  have HCE := Lib.hid hce
  have hDl : D < (w.setCell ⟨D, 6, none⟩ (.int .u8 x)).heap.size := hS.2.lt
  have hDl0 : D < w.heap.size := by simpa using hDl
  have hkeep : ∀ (w2 : World) (G2 : Nat → Nat), Adv (fun o => o = d + 3) ((w.setCell ⟨D, 6, none⟩ (.int .u8 x)).drew.alloc (.cells #[.int .i64 m.cycle, .int .u16 m.pitch, .int .u8 x] 152)) (own1 (w.setCell ⟨D, 6, none⟩ (.int .u8 x)).drew G 1000) w2 G2 →
      w2.cell? ⟨D, 9, none⟩ = some (.slice va tn vc) ∧ w2.frozen? ⟨D, 9, none⟩ = false := fun w2 G2 h => by
    have h2 := HS.out.2.adv ((((Adv.refl (fun _ => False) (w.setCell ⟨D, 6, none⟩ (.int .u8 x)) G).drew).alloc (.cells #[.int .i64 m.cycle, .int .u16 m.pitch, .int .u8 x] 152) 1000).mono (T := fun _ => False) (fun _ h => h)) (fun _ _ => id)
    have hD2 := (h.keep D h2.lt (by rw [h2.hown]; omega)).trans h2.head
    refine ⟨?_, block_free hD2 9⟩
    have := block_cell hD2 9 _ rfl
    rw [← htn] at this
    exact this
  have HKP := Lib.hid hkeep
  have HTN := Lib.hid htn
  rw [← htn] at hn
  clear hv hp hS hrow hce hkeep hDl htn hnc
  go_enter Tryz.func43, Tryz.ntmps43
  go_upto_region 18 with fail
  go_region_law (refine step_append_row rfl (.tmp 96) (.tmp 107) 72 rfl 152 i0 (.agg #[.int .i64 0, .int .u16 0, .int .u8 0]) 3 16 Tryz.underlying72 hi hz0 hz1 hz2 rfl (by decide) _ (d + 3) va tn vc (tonesC m.tones) rfl HROW.out ⟨w.heap.size, 0, none⟩ 1 1 [.int .i64 m.cycle, .int .u16 m.pitch, .int .u8 x] rfl rfl HCE.out hone (by unfold maxLen; omega) (by omega) ?_; intro va2 vc2 w2 G2 hr2 ha2; have HR2 := Lib.hid hr2; have HA2 := Lib.hid ha2; obtain ⟨k9, f9⟩ := HKP.out w2 G2 ha2; clear hr2 ha2)
  all_goals
    go_wp2
    go_end0
    have e : tonesC (m.tones ++ [(m.cycle, m.pitch, x)]) = tonesC m.tones ++ [.int .i64 m.cycle, .int .u16 m.pitch, .int .u8 x] := by simp [tonesC]
    have hpl := HS.out.2.played (m.cycle, m.pitch, x) ((((Adv.refl (fun o => o = d + 3) (w.setCell ⟨D, 6, none⟩ (.int .u8 x)) G).drew).alloc (.cells #[.int .i64 m.cycle, .int .u16 m.pitch, .int .u8 x] 152) 1000).trans HA2.out) (by show tn + 1 = m.tones.length + 1; rw [HTN.out]) (by show Row _ 3 w2 G2 (d + 3) _ (tn + 1) (tonesC (m.tones ++ [(m.cycle, m.pitch, x)])); rw [e]; exact HR2.out)
    exact ⟨rfl, _, HS.out.1.trans hpl.1, ra, sa, bs, bv, _, hpl.2⟩
theorem rstore_else (G : Nat → Nat) (d D ra sa : Nat) (bs : List Nat) (bv tv : Value) (m : MemS) (hm : MemOk m) (a : Int) (h1 : 52224 ≤ a) (h9 : a < 65536) (hne : a ≠ 65280 ∧ a ≠ 65284 ∧ a ≠ 65285 ∧ a ≠ 65286) (x : Int) (hx : 0 ≤ x ∧ x < 256) (w : World) (hp : RMx w G d D ra sa bs bv tv m) : Calls Tryz.prog 43 #[.pointer (some ⟨D, 0, none⟩), .int .u16 a, .int .u8 x] w (RStore w G d D (storeF m a x)) := by
  obtain ⟨n1, n2, n3, n4⟩ := hne
  have hv : storeF m a x = m := by
    unfold storeF
    rw [if_neg (by omega), if_neg (by omega), if_neg (by omega), if_neg (by omega), if_neg n1, if_neg n2, if_neg n3, if_neg n4]
  rw [hv]
  have hw : IntKind.i64.wrap a = a := IntWalk.i64_in _ (by omega)
  have b0 : decide (a < 16384) = false := by simp; omega
  have b1 : decide (a < 32768) = false := by simp; omega
  have b2 : decide (a < 49152) = false := by simp; omega
  have b3 : decide (a < 52224) = false := by simp; omega
  have e1 : (a == 65280) = false := by simpa using n1
  have e2 : (a == 65284) = false := by simpa using n2
  have e3 : (a == 65285) = false := by simpa using n3
  have e4 : (a == 65286) = false := by simpa using n4
  have HP := Lib.hid hp
  clear hp hv
  go_enter Tryz.func43, Tryz.ntmps43
  go_wp2
  go_end0
  exact ⟨rfl, G, Adv.refl _ _ _, ra, sa, bs, bv, tv, HP.out⟩
/-- Store, at every address. -/
theorem refStore_any (G : Nat → Nat) (d D : Nat) (m : MemS) (hm : MemOk m) (hmr : MemR m) (hn2 : m.banks.length ≤ 1000000) (hn : m.tones.length ≤ 1000000) (a : Int) (h0 : 0 ≤ a) (h9 : a < 65536) (x : Int) (hx : 0 ≤ x ∧ x < 256) (w : World) (hp : RM w G d D m) :
    Calls Tryz.prog 43 #[.pointer (some ⟨D, 0, none⟩), .int .u16 a, .int .u8 x] w (RStore w G d D (storeF m a x)) := by
  obtain ⟨ra, sa, bs, bv, tv, hp⟩ := hp
  by_cases h1 : a < 16384
  · exact rstore_low G d D ra sa bs bv tv m hm a h0 h1 x hx w hp
  by_cases h2 : a < 32768
  · obtain ⟨k, rfl⟩ : ∃ k : Nat, a = 16384 + (k : Int) := ⟨(a - 16384).toNat, by omega⟩
    exact rstore_bank G d D ra sa bs bv tv m hm hn2 (by have := hmr.chosen; omega) k (by omega) x hx w hp
  by_cases h3 : a < 49152
  · obtain ⟨k, rfl⟩ : ∃ k : Nat, a = 32768 + (k : Int) := ⟨(a - 32768).toNat, by omega⟩
    exact rstore_ram G d D ra sa bs bv tv m hm k (by omega) x hx w hp
  by_cases h4 : a < 52224
  · obtain ⟨k, rfl⟩ : ∃ k : Nat, a = 49152 + (k : Int) := ⟨(a - 49152).toNat, by omega⟩
    exact rstore_screen G d D ra sa bs bv tv m hm k (by omega) x hx w hp
  by_cases e1 : a = 65280
  · subst e1; exact rstore_65280 G d D ra sa bs bv tv m hm x hx w hp
  by_cases e2 : a = 65284
  · subst e2; exact rstore_65284 G d D ra sa bs bv tv m hm hmr x hx w hp
  by_cases e3 : a = 65285
  · subst e3; exact rstore_65285 G d D ra sa bs bv tv m hm hmr x hx w hp
  by_cases e4 : a = 65286
  · subst e4; exact rstore_65286 G d D ra sa bs bv tv m hm hn x hx w hp
  exact rstore_else G d D ra sa bs bv tv m hm a (by omega) h9 ⟨e1, e2, e3, e4⟩ x hx w hp
end Go.Proofs.YtdnalhjdmlkbmaaGreatDoor
namespace Go.Proofs.YtdnalhjdmlkbmaaGreatDoor
open Go.RowKit
set_option linter.unusedVariables false
/-- A memory that may be, with at most so many tones. -/
structure MGood (m : MemS) (t : Nat) : Prop where
  ok : MemOk m
  rng : MemR m
  bl : m.banks.length ≤ 1000000
  tn : m.tones.length ≤ t
theorem storeF_bl (m : MemS) (a x : Int) : (storeF m a x).banks.length = m.banks.length := by
  have h := congrArg List.length (storeF_keys m a x)
  unfold keysF at h
  rwa [List.length_map, List.length_map] at h
theorem MGood.store {m : MemS} {t : Nat} (h : MGood m t) (a : Int) {x : Int} (hx : 0 ≤ x ∧ x < 256) : MGood (storeF m a x) (t + 1) :=
  ⟨storeF_ok m h.ok a x, storeF_rng h.rng a hx, by rw [storeF_bl]; exact h.bl, Nat.le_trans (storeF_tones m a x) (Nat.succ_le_succ h.tn)⟩
theorem MGood.wide {m : MemS} {t t' : Nat} (h : MGood m t) (ht : t ≤ t') : MGood m t' := ⟨h.ok, h.rng, h.bl, Nat.le_trans h.tn ht⟩
theorem refStore_good (G : Nat → Nat) (d D : Nat) (m : MemS) (t : Nat) (hg : MGood m t) (ht : t ≤ 1000000) (a : Int) (h0 : 0 ≤ a) (h9 : a < 65536) (x : Int) (hx : 0 ≤ x ∧ x < 256) (w : World) (hp : RM w G d D m) :
    Calls Tryz.prog 43 #[.pointer (some ⟨D, 0, none⟩), .int .u16 a, .int .u8 x] w (RStore w G d D (storeF m a x)) :=
  refStore_any G d D m hg.ok hg.rng hg.bl (Nat.le_trans hg.tn ht) a h0 h9 x hx w hp
set_option maxRecDepth 100000 in
set_option maxHeartbeats 1000000 in
theorem refSetCell_any (G : Nat → Nat) (d D : Nat) (m : MemS) (t : Nat) (hg : MGood m t) (ht : t ≤ 999999) (a : Int) (h0 : 0 ≤ a) (h9 : a < 65536) (x : Int) (x0 : 0 ≤ x) (x9 : x < 65536) (w : World) (hp : RM w G d D m) :
    Calls Tryz.prog 111 #[.pointer (some ⟨D, 0, none⟩), .int .u16 a, .int .u16 x] w (RStore w G d D (setCellF m a x)) := by
  rw [show setCellF m a x = storeF (storeF m a (x % 256)) (nextA a) (x / 256 % 256) from rfl]
  have hg1 : MGood (storeF m a (x % 256)) (t + 1) := hg.store a (byte_rng _)
  obtain ⟨m1, hm1⟩ : ∃ v, v = storeF m a (x % 256) := ⟨_, rfl⟩
  rw [← hm1] at hg1 ⊢
  have HM1 := Lib.hid hm1
  clear hm1
  have hq : IntKind.u16.wrap (x.tdiv 256) = x / 256 := by rw [Int.tdiv_eq_ediv_of_nonneg x0]; exact wrap_u16_id _ (by omega) (by omega)
  have HP := Lib.hid hp
  clear hp x0 x9
  go_enter Tryz.func111, Tryz.ntmps111
  go_wp2_with fail
  refine (refStore_good G d D m t hg (by omega) a h0 h9 (x % 256) (by omega) _ HP.out).mono ?_
  rintro e w1 ⟨rfl, G1, ha1, hp1⟩
  rw [← HM1.out] at hp1
  have H1 := Lib.hid (And.intro ha1 hp1)
  clear ha1 hp1
  go_wp2_with fail
  refine (refStore_good G1 d D m1 (t + 1) hg1 (by omega) (nextA a) (nextA_lo a).1 (nextA_lo a).2 (x / 256 % 256) (by omega) _ H1.out.2).mono ?_
  rintro e w2 ⟨rfl, G2, ha2, hp2⟩
  have H2 := Lib.hid (And.intro (H1.out.1.trans ha2) hp2)
  clear ha2 hp2
  go_wp2_with fail
  go_end0
  exact ⟨rfl, G2, H2.out.1, H2.out.2⟩
theorem MGood.setCell {m : MemS} {t : Nat} (h : MGood m t) (a x : Int) : MGood (setCellF m a x) (t + 2) := (h.store a (x := x % 256) (by omega)).store (nextA a) (x := x / 256 % 256) (by omega)
set_option maxRecDepth 100000 in
set_option maxHeartbeats 1000000 in
theorem refPlay_any (G : Nat → Nat) (d D : Nat) (m : MemS) (t : Nat) (hg : MGood m t) (ht : t ≤ 99999) (p v : Int) (h0 : 0 ≤ p) (h9 : p < 65536) (hv : 0 ≤ v ∧ v < 256) (w : World) (hp : RM w G d D m) :
    Calls Tryz.prog 113 #[.pointer (some ⟨D, 0, none⟩), .int .u16 p, .int .u8 v] w (RStore w G d D (playF m p v)) := by
  rw [show playF m p v = storeF (setCellF m 65284 p) 65286 v from rfl]
  have hg1 : MGood (setCellF m 65284 p) (t + 2) := hg.setCell _ _
  obtain ⟨m1, hm1⟩ : ∃ u, u = setCellF m 65284 p := ⟨_, rfl⟩
  rw [← hm1] at hg1 ⊢
  have HM1 := Lib.hid hm1
  clear hm1
  have HP := Lib.hid hp
  clear hp
  go_enter Tryz.func113, Tryz.ntmps113
  go_wp2_with fail
  refine (refSetCell_any G d D m t hg (by omega) 65284 (by decide) (by decide) p h0 h9 _ HP.out).mono ?_
  rintro e w1 ⟨rfl, G1, ha1, hp1⟩
  rw [← HM1.out] at hp1
  have H1 := Lib.hid (And.intro ha1 hp1)
  clear ha1 hp1
  go_wp2_with fail
  refine (refStore_good G1 d D m1 (t + 2) hg1 (by omega) 65286 (by decide) (by decide) v hv _ H1.out.2).mono ?_
  rintro e w2 ⟨rfl, G2, ha2, hp2⟩
  have H2 := Lib.hid (And.intro (H1.out.1.trans ha2) hp2)
  clear ha2 hp2
  go_wp2_with fail
  go_end0
  exact ⟨rfl, G2, H2.out.1, H2.out.2⟩
set_option maxRecDepth 100000 in
set_option maxHeartbeats 1000000 in
theorem refChoose_any (G : Nat → Nat) (d D : Nat) (m : MemS) (t : Nat) (hg : MGood m t) (ht : t ≤ 999999) (n : Int) (h0 : 0 ≤ n) (h9 : n < 65536) (w : World) (hp : RM w G d D m) :
    Calls Tryz.prog 114 #[.pointer (some ⟨D, 0, none⟩), .int .u16 n] w (RStore w G d D (storeF m 65280 (n % 256))) := by
  have HP := Lib.hid hp
  clear hp
  go_enter Tryz.func114, Tryz.ntmps114
  go_wp2_with fail
  refine (refStore_good G d D m t hg (by omega) 65280 (by decide) (by decide) (n % 256) (by omega) _ HP.out).mono ?_
  rintro e w1 ⟨rfl, G1, ha1, hp1⟩
  have H1 := Lib.hid (And.intro ha1 hp1)
  clear ha1 hp1
  go_wp2_with fail
  go_end0
  exact ⟨rfl, G1, H1.out.1, H1.out.2⟩
set_option maxRecDepth 100000 in
set_option maxHeartbeats 1000000 in
theorem refPlot_any (G : Nat → Nat) (d D : Nat) (m : MemS) (t : Nat) (hg : MGood m t) (ht : t ≤ 999999) (x y c : Int) (x0 : 0 ≤ x) (x9 : x < 65536) (y0 : 0 ≤ y) (y9 : y < 65536) (c0 : 0 ≤ c) (c9 : c < 65536) (w : World) (hp : RM w G d D m) :
    Calls Tryz.prog 112 #[.pointer (some ⟨D, 0, none⟩), .int .u16 x, .int .u16 y, .int .u16 c] w (RStore w G d D (plotF m x y c)) := by
  have HP := Lib.hid hp
  clear hp
  by_cases hx : x < 64
  · have b1 : decide (x < 64) = true := by simpa using hx
    by_cases hy : y < 48
    · have b2 : decide (y < 48) = true := by simpa using hy
      have HE := Lib.hid (show plotF m x y c = storeF m (49152 + 64 * y + x) (c % 256) from if_pos ⟨hx, hy⟩)
      go_enter Tryz.func112, Tryz.ntmps112
      go_wp2_with fail
      refine (refStore_good G d D m t hg (by omega) (49152 + 64 * y + x) (by omega) (by omega) (c % 256) (by omega) _ HP.out).mono ?_
      rintro e w1 ⟨rfl, G1, ha1, hp1⟩
      have H1 := Lib.hid (And.intro ha1 hp1)
      clear ha1 hp1
      go_wp2_with fail
      go_end0
      exact ⟨rfl, G1, H1.out.1, by rw [HE.out]; exact H1.out.2⟩
    · have b2 : decide (y < 48) = false := by simp; omega
      have HE := Lib.hid (show plotF m x y c = m from if_neg (by omega))
      go_enter Tryz.func112, Tryz.ntmps112
      go_wp2
      go_end0
      exact ⟨rfl, G, Adv.refl _ _ _, by rw [HE.out]; exact HP.out⟩
  · have b1 : decide (x < 64) = false := by simp; omega
    have HE := Lib.hid (show plotF m x y c = m from if_neg (by omega))
    go_enter Tryz.func112, Tryz.ntmps112
    go_wp2
    go_end0
    exact ⟨rfl, G, Adv.refl _ _ _, by rw [HE.out]; exact HP.out⟩
end Go.Proofs.YtdnalhjdmlkbmaaGreatDoor
namespace Go.Proofs.YtdnalhjdmlkbmaaGreatDoor
open Go.RowKit
set_option linter.unusedVariables false
set_option maxRecDepth 100000 in
set_option maxHeartbeats 1000000 in
theorem refMem_50 (G : Nat → Nat) (d Z : Nat) (hd : d ≠ 0) (m : MemS) (t : Nat) (hg : MGood m t) (ht : t ≤ 99999) (gx ox cx : Nat) (a : Int) (w : World) (hz : RM w G d Z m) (ha : w.cell? ⟨gx, ox, none⟩ = some (.int .u16 a)) (qa : 0 ≤ a ∧ a < 65536) :
    Calls Tryz.prog 102 #[.int .i64 50, .slice (some ⟨gx, ox, none⟩) 1 cx, .pointer (some ⟨Z, 0, none⟩)] w (OutIs (SD d) w G [cellF m a] (fun w' G' => RM w' G' d Z m)) := by
  have HZ := Lib.hid hz
  clear hz
  go_enter Tryz.func102, Tryz.ntmps102
  go_wp2_with fail
  refine (refCell_mem G d Z m hg.ok hg.rng hg.bl a qa.1 qa.2 w HZ.out).mono ?_
  rintro e w1 ⟨rfl, G1, a1⟩
  have A1 := Lib.hid a1
  clear a1
  go_wp2
  go_ret
  have al := (Adv.refl (fun _ => False) w1 G1).alloc (.cells #[.int .u16 (cellF m a)] 31) 0
  exact ⟨_, 1, _, rfl, Nat.le_refl _, ((A1.out.trans al).mono fun _ h => h.elim), ⟨Reads.new w1 (cellsU [(cellF m a)]) 31, fun ad e => by cases e; exact ⟨own1_new _ _ _, by simp⟩⟩, (HZ.out.adv (A1.out.trans al) (fun _ _ => id))⟩
set_option maxRecDepth 100000 in
set_option maxHeartbeats 1000000 in
theorem refMem_52 (G : Nat → Nat) (d Z : Nat) (hd : d ≠ 0) (m : MemS) (t : Nat) (hg : MGood m t) (ht : t ≤ 99999) (gx ox cx : Nat) (a : Int) (w : World) (hz : RM w G d Z m) (ha : w.cell? ⟨gx, ox, none⟩ = some (.int .u16 a)) (qa : 0 ≤ a ∧ a < 65536) :
    Calls Tryz.prog 102 #[.int .i64 52, .slice (some ⟨gx, ox, none⟩) 1 cx, .pointer (some ⟨Z, 0, none⟩)] w (OutIs (SD d) w G [loadF m a] (fun w' G' => RM w' G' d Z m)) := by
  have HZ := Lib.hid hz
  clear hz
  go_enter Tryz.func102, Tryz.ntmps102
  have hlr := loadF_rng hg.rng a
  have hlw : IntKind.u16.wrap (loadF m a) = loadF m a := wrap_u16_id _ (by omega) (by omega)
  go_wp2_with fail
  refine (refLoad_any G d Z m hg.ok hg.rng hg.bl a qa.1 qa.2 w HZ.out).mono ?_
  rintro e w1 ⟨rfl, G1, a1⟩
  have A1 := Lib.hid a1
  clear a1
  go_wp2
  go_ret
  have al := (Adv.refl (fun _ => False) w1 G1).alloc (.cells #[.int .u16 (loadF m a)] 31) 0
  exact ⟨_, 1, _, rfl, Nat.le_refl _, ((A1.out.trans al).mono fun _ h => h.elim), ⟨Reads.new w1 (cellsU [(loadF m a)]) 31, fun ad e => by cases e; exact ⟨own1_new _ _ _, by simp⟩⟩, (HZ.out.adv (A1.out.trans al) (fun _ _ => id))⟩
set_option maxRecDepth 100000 in
set_option maxHeartbeats 1000000 in
theorem refMem_61 (G : Nat → Nat) (d Z : Nat) (hd : d ≠ 0) (m : MemS) (t : Nat) (hg : MGood m t) (ht : t ≤ 99999) (gx ox cx : Nat) (xa : Option Addr) (w : World) (hz : RM w G d Z m)  :
    Calls Tryz.prog 102 #[.int .i64 61, .slice xa 0 cx, .pointer (some ⟨Z, 0, none⟩)] w (OutIs (SD d) w G [m.pad] (fun w' G' => RM w' G' d Z m)) := by
  have HZ := Lib.hid hz
  clear hz
  go_enter Tryz.func102, Tryz.ntmps102
  obtain ⟨ra, sa, bs, bv, tv, hz⟩ := HZ.out
  have c4 := hz.ports.2.1
  have hpr := hg.rng.pad
  have hlw : IntKind.u16.wrap m.pad = m.pad := wrap_u16_id _ (by omega) (by omega)
  clear hz
  go_wp2
  go_ret
  have al := (Adv.refl (fun _ => False) w G).alloc (.cells #[.int .u16 m.pad] 31) 0
  exact ⟨_, 1, _, rfl, Nat.le_refl _, (al.mono fun _ h => h.elim), ⟨Reads.new w (cellsU [m.pad]) 31, fun ad e => by cases e; exact ⟨own1_new _ _ _, by simp⟩⟩, (HZ.out.adv al (fun _ _ => id))⟩
set_option maxRecDepth 100000 in
set_option maxHeartbeats 1000000 in
theorem refMem_51 (G : Nat → Nat) (d Z : Nat) (hd : d ≠ 0) (m : MemS) (t : Nat) (hg : MGood m t) (ht : t ≤ 99999) (gx ox cx : Nat) (a b : Int) (w : World) (hz : RM w G d Z m) (ha : w.cell? ⟨gx, ox, none⟩ = some (.int .u16 a)) (qa : 0 ≤ a ∧ a < 65536) (hb : w.cell? ⟨gx, ox + 1, none⟩ = some (.int .u16 b)) (qb : 0 ≤ b ∧ b < 65536) :
    Calls Tryz.prog 102 #[.int .i64 51, .slice (some ⟨gx, ox, none⟩) 2 cx, .pointer (some ⟨Z, 0, none⟩)] w (OutIs (SD d) w G [] (fun w' G' => RM w' G' d Z (setCellF m b a))) := by
  have HZ := Lib.hid hz
  clear hz
  go_enter Tryz.func102, Tryz.ntmps102
  have hdr := (Adv.refl (SD d) w G).drew
  have HZ := Lib.hid (HZ.out.adv ((Adv.refl (fun _ => False) w G).drew) (fun _ _ => id))
  go_wp2_with fail
  go_still_tail 7, (by kernel_rfl)
  change wpList _ _ _ _ _ w.drew
  go_wp2_with fail
  refine (refSetCell_any G d Z m t hg (by omega) b qb.1 qb.2 a qa.1 qa.2 _ HZ.out).mono ?_
  rintro e w1 ⟨rfl, G1, a1, z1⟩
  have A1 := Lib.hid (hdr.trans a1)
  have Z1 := Lib.hid z1
  clear a1 z1
  go_wp2
  go_ret
  exact out_nil _ _ _ _ G1 A1.out _ Z1.out
set_option maxRecDepth 100000 in
set_option maxHeartbeats 1000000 in
theorem refMem_53 (G : Nat → Nat) (d Z : Nat) (hd : d ≠ 0) (m : MemS) (t : Nat) (hg : MGood m t) (ht : t ≤ 99999) (gx ox cx : Nat) (a b : Int) (w : World) (hz : RM w G d Z m) (ha : w.cell? ⟨gx, ox, none⟩ = some (.int .u16 a)) (qa : 0 ≤ a ∧ a < 65536) (hb : w.cell? ⟨gx, ox + 1, none⟩ = some (.int .u16 b)) (qb : 0 ≤ b ∧ b < 65536) :
    Calls Tryz.prog 102 #[.int .i64 53, .slice (some ⟨gx, ox, none⟩) 2 cx, .pointer (some ⟨Z, 0, none⟩)] w (OutIs (SD d) w G [] (fun w' G' => RM w' G' d Z (storeF m b (a % 256)))) := by
  have HZ := Lib.hid hz
  clear hz
  go_enter Tryz.func102, Tryz.ntmps102
  have hdr := (Adv.refl (SD d) w G).drew
  have HZ := Lib.hid (HZ.out.adv ((Adv.refl (fun _ => False) w G).drew) (fun _ _ => id))
  go_wp2_with fail
  go_still_tail 8, (by kernel_rfl)
  change wpList _ _ _ _ _ w.drew
  go_wp2_with fail
  refine (refStore_good G d Z m t hg (by omega) b qb.1 qb.2 (a % 256) (by omega) _ HZ.out).mono ?_
  rintro e w1 ⟨rfl, G1, a1, z1⟩
  have A1 := Lib.hid (hdr.trans a1)
  have Z1 := Lib.hid z1
  clear a1 z1
  go_wp2
  go_ret
  exact out_nil _ _ _ _ G1 A1.out _ Z1.out
set_option maxRecDepth 100000 in
set_option maxHeartbeats 1000000 in
theorem refMem_60 (G : Nat → Nat) (d Z : Nat) (hd : d ≠ 0) (m : MemS) (t : Nat) (hg : MGood m t) (ht : t ≤ 99999) (gx ox cx : Nat) (a b c : Int) (w : World) (hz : RM w G d Z m) (ha : w.cell? ⟨gx, ox, none⟩ = some (.int .u16 a)) (qa : 0 ≤ a ∧ a < 65536) (hb : w.cell? ⟨gx, ox + 1, none⟩ = some (.int .u16 b)) (qb : 0 ≤ b ∧ b < 65536) (hc : w.cell? ⟨gx, ox + 2, none⟩ = some (.int .u16 c)) (qc : 0 ≤ c ∧ c < 65536) :
    Calls Tryz.prog 102 #[.int .i64 60, .slice (some ⟨gx, ox, none⟩) 3 cx, .pointer (some ⟨Z, 0, none⟩)] w (OutIs (SD d) w G [] (fun w' G' => RM w' G' d Z (plotF m a b c))) := by
  have HZ := Lib.hid hz
  clear hz
  go_enter Tryz.func102, Tryz.ntmps102
  have hdr := (Adv.refl (SD d) w G).drew
  have HZ := Lib.hid (HZ.out.adv ((Adv.refl (fun _ => False) w G).drew) (fun _ _ => id))
  go_wp2_with fail
  go_still_tail 10, (by kernel_rfl)
  change wpList _ _ _ _ _ w.drew
  go_wp2_with fail
  refine (refPlot_any G d Z m t hg (by omega) a b c qa.1 qa.2 qb.1 qb.2 qc.1 qc.2 _ HZ.out).mono ?_
  rintro e w1 ⟨rfl, G1, a1, z1⟩
  have A1 := Lib.hid (hdr.trans a1)
  have Z1 := Lib.hid z1
  clear a1 z1
  go_wp2
  go_ret
  exact out_nil _ _ _ _ G1 A1.out _ Z1.out
set_option maxRecDepth 100000 in
set_option maxHeartbeats 1000000 in
theorem refMem_62 (G : Nat → Nat) (d Z : Nat) (hd : d ≠ 0) (m : MemS) (t : Nat) (hg : MGood m t) (ht : t ≤ 99999) (gx ox cx : Nat) (a b : Int) (w : World) (hz : RM w G d Z m) (ha : w.cell? ⟨gx, ox, none⟩ = some (.int .u16 a)) (qa : 0 ≤ a ∧ a < 65536) (hb : w.cell? ⟨gx, ox + 1, none⟩ = some (.int .u16 b)) (qb : 0 ≤ b ∧ b < 65536) :
    Calls Tryz.prog 102 #[.int .i64 62, .slice (some ⟨gx, ox, none⟩) 2 cx, .pointer (some ⟨Z, 0, none⟩)] w (OutIs (SD d) w G [] (fun w' G' => RM w' G' d Z (playF m a (b % 256)))) := by
  have HZ := Lib.hid hz
  clear hz
  go_enter Tryz.func102, Tryz.ntmps102
  have hdr := (Adv.refl (SD d) w G).drew
  have HZ := Lib.hid (HZ.out.adv ((Adv.refl (fun _ => False) w G).drew) (fun _ _ => id))
  go_wp2_with fail
  go_still_tail 8, (by kernel_rfl)
  change wpList _ _ _ _ _ w.drew
  go_wp2_with fail
  refine (refPlay_any G d Z m t hg (by omega) a (b % 256) qa.1 qa.2 (by omega) _ HZ.out).mono ?_
  rintro e w1 ⟨rfl, G1, a1, z1⟩
  have A1 := Lib.hid (hdr.trans a1)
  have Z1 := Lib.hid z1
  clear a1 z1
  go_wp2
  go_ret
  exact out_nil _ _ _ _ G1 A1.out _ Z1.out
set_option maxRecDepth 100000 in
set_option maxHeartbeats 1000000 in
theorem refMem_63 (G : Nat → Nat) (d Z : Nat) (hd : d ≠ 0) (m : MemS) (t : Nat) (hg : MGood m t) (ht : t ≤ 99999) (gx ox cx : Nat) (a : Int) (w : World) (hz : RM w G d Z m) (ha : w.cell? ⟨gx, ox, none⟩ = some (.int .u16 a)) (qa : 0 ≤ a ∧ a < 65536) :
    Calls Tryz.prog 102 #[.int .i64 63, .slice (some ⟨gx, ox, none⟩) 1 cx, .pointer (some ⟨Z, 0, none⟩)] w (OutIs (SD d) w G [] (fun w' G' => RM w' G' d Z (storeF m 65280 (a % 256)))) := by
  have HZ := Lib.hid hz
  clear hz
  go_enter Tryz.func102, Tryz.ntmps102
  go_wp2_with fail
  refine (refChoose_any G d Z m t hg (by omega) a qa.1 qa.2 w HZ.out).mono ?_
  rintro e w1 ⟨rfl, G1, a1, z1⟩
  have A1 := Lib.hid a1
  have Z1 := Lib.hid z1
  clear a1 z1
  go_wp2
  go_ret
  exact out_nil _ _ _ _ G1 A1.out _ Z1.out
set_option maxRecDepth 100000 in
set_option maxHeartbeats 1000000 in
theorem refMem_54 (G : Nat → Nat) (d Z : Nat) (hd : d ≠ 0) (m : MemS) (t : Nat) (hg : MGood m t) (ht : t ≤ 99999) (gx ox cx : Nat) (a b : Int) (w : World) (hgx : G gx = 0) (hz : RM w G d Z m) (ha : w.cell? ⟨gx, ox, none⟩ = some (.int .u16 a)) (qa : 0 ≤ a ∧ a < 65536) (hb : w.cell? ⟨gx, ox + 1, none⟩ = some (.int .u16 b)) (qb : 0 ≤ b ∧ b < 65536) :
    Calls Tryz.prog 102 #[.int .i64 54, .slice (some ⟨gx, ox, none⟩) 2 cx, .pointer (some ⟨Z, 0, none⟩)] w (OutIs (SD d) w G [] (fun w' G' => RM w' G' d Z (setCellF m b ((cellF m b + a) % 65536)))) := by
  have HZ := Lib.hid hz
  clear hz
  go_enter Tryz.func102, Tryz.ntmps102
  have hcr := cellF_rng m b
  have hww : IntKind.u16.wrap (cellF m b + a) = (cellF m b + a) % 65536 := wrap_u16_mod _
  have hdr := (Adv.refl (fun _ => False) w G).drew
  have A0 := Lib.hid (hdr.mono (T := SD d) fun _ h => h.elim)
  have HZ := Lib.hid (HZ.out.adv hdr (fun _ _ => id))
  have QC : w.drew.cell? ⟨gx, ox, none⟩ = some (.int .u16 a) ∧ w.drew.cell? ⟨gx, ox + 1, none⟩ = some (.int .u16 b) := ⟨ha, hb⟩
  have HG := Lib.hid hgx
  have hsd : ¬ SD d 0 := by unfold SD; omega
  obtain ⟨V, hV⟩ : ∃ v, v = (cellF m b + a) % 65536 := ⟨_, rfl⟩
  have hVr : 0 ≤ V ∧ V < 65536 := by omega
  rw [← hV] at hww ⊢
  clear hdr hgx hV hcr
  go_upto_region 11 with fail
  go_region_held3 (fun w' => w'.cell? ⟨gx, ox, none⟩ = some (.int .u16 a) ∧ w'.cell? ⟨gx, ox + 1, none⟩ = some (.int .u16 b)) (first | with_reducible exact QC | with_reducible assumption)
    (first | (go_at_call 106; refine (refCell_mem G d Z m hg.ok hg.rng hg.bl b qb.1 qb.2 _ HZ.out).mono ?_; rintro e w1 ⟨rfl, G1, a1⟩; have A0 := Lib.hid (A0.out.trans (a1.mono (T := SD d) fun _ h => h.elim)); have HZ := Lib.hid (HZ.out.adv a1 (fun _ _ => id)); have HG := Lib.hid ((a1.own gx (World.block_lt_of_cell? _ _ QC.1)).trans HG.out); have QC : w1.cell? ⟨gx, ox, none⟩ = some (.int .u16 a) ∧ w1.cell? ⟨gx, ox + 1, none⟩ = some (.int .u16 b) := ⟨a1.cell_some QC.1 id, a1.cell_some QC.2 id⟩; clear a1) | (go_at_call 111; refine (refSetCell_any G1 d Z m t hg (by omega) b qb.1 qb.2 V hVr.1 hVr.2 _ HZ.out).mono ?_; rintro e w2 ⟨rfl, G2, a2, z2⟩; have A2 := Lib.hid (A0.out.trans a2); have Z2 := Lib.hid z2; have QC : w2.cell? ⟨gx, ox, none⟩ = some (.int .u16 a) ∧ w2.cell? ⟨gx, ox + 1, none⟩ = some (.int .u16 b) := ⟨a2.cell_some QC.1 (by rw [HG.out]; exact hsd), a2.cell_some QC.2 (by rw [HG.out]; exact hsd)⟩; clear a2 z2))
  go_wp2
  go_ret
  exact out_nil _ _ _ _ G2 A2.out _ Z2.out
end Go.Proofs.YtdnalhjdmlkbmaaGreatDoor
namespace Go.Proofs.YtdnalhjdmlkbmaaGreatDoor
open Go.RowKit
set_option linter.unusedVariables false
theorem reads1 {w : World} {xa : Option Addr} {a : Int} (h : Reads w xa (cellsU [a])) : ∃ g o, xa = some ⟨g, o, none⟩ ∧ g < w.heap.size ∧ w.cell? ⟨g, o, none⟩ = some (.int .u16 a) := by
  obtain ⟨g, o, e, hc, hl⟩ := h.some (by simp [cellsU])
  exact ⟨g, o, e, hl, hc 0 _ rfl⟩
theorem reads2 {w : World} {xa : Option Addr} {a b : Int} (h : Reads w xa (cellsU [a, b])) : ∃ g o, xa = some ⟨g, o, none⟩ ∧ g < w.heap.size ∧ w.cell? ⟨g, o, none⟩ = some (.int .u16 a) ∧ w.cell? ⟨g, o + 1, none⟩ = some (.int .u16 b) := by
  obtain ⟨g, o, e, hc, hl⟩ := h.some (by simp [cellsU])
  exact ⟨g, o, e, hl, hc 0 _ rfl, hc 1 _ rfl⟩
theorem reads3 {w : World} {xa : Option Addr} {a b c : Int} (h : Reads w xa (cellsU [a, b, c])) : ∃ g o, xa = some ⟨g, o, none⟩ ∧ g < w.heap.size ∧ w.cell? ⟨g, o, none⟩ = some (.int .u16 a) ∧ w.cell? ⟨g, o + 1, none⟩ = some (.int .u16 b) ∧ w.cell? ⟨g, o + 2, none⟩ = some (.int .u16 c) := by
  obtain ⟨g, o, e, hc, hl⟩ := h.some (by simp [cellsU])
  exact ⟨g, o, e, hl, hc 0 _ rfl, hc 1 _ rfl, hc 2 _ rfl⟩
theorem list1 {xs : List Int} (h : xs.length = 1) : ∃ a, xs = [a] := by
  match xs, h with
  | [a], _ => exact ⟨a, rfl⟩
theorem list2 {xs : List Int} (h : xs.length = 2) : ∃ a b, xs = [a, b] := by
  match xs, h with
  | [a, b], _ => exact ⟨a, b, rfl⟩
theorem list3 {xs : List Int} (h : xs.length = 3) : ∃ a b c, xs = [a, b, c] := by
  match xs, h with
  | [a, b, c], _ => exact ⟨a, b, c, rfl⟩
theorem refShuf_any (k : Nat) (h1 : 12 ≤ k) (h2 : k ≤ 20) (G : Nat → Nat) (xa : Option Addr) (n cx : Nat) (xs : List Int) (w : World) (hn : (n : Int) = takesN k) (hl : xs.length = n) (hr : Reads w xa (cellsU xs)) :
    Calls Tryz.prog 100 #[.int .i64 k, .slice xa n cx] w (OutIs (fun _ => False) w G (picks xs (shufP k)) (fun _ _ => True)) := by
  rcases (show k = 12 ∨ k = 13 ∨ k = 14 ∨ k = 15 ∨ k = 16 ∨ k = 17 ∨ k = 18 ∨ k = 19 ∨ k = 20 by omega) with rfl | rfl | rfl | rfl | rfl | rfl | rfl | rfl | rfl
  · obtain rfl : n = 1 := by have : takesN 12 = 1 := rfl; omega
    obtain ⟨a, rfl⟩ := list1 hl
    obtain ⟨g, o, rfl, hg, c1⟩ := reads1 hr
    exact refShuf_12 G g o cx a w hg c1
  · obtain rfl : n = 1 := by have : takesN 13 = 1 := rfl; omega
    obtain ⟨a, rfl⟩ := list1 hl
    obtain ⟨g, o, rfl, hg, c1⟩ := reads1 hr
    exact refShuf_13 G g o cx a w hg c1
  · obtain rfl : n = 2 := by have : takesN 14 = 2 := rfl; omega
    obtain ⟨a, b, rfl⟩ := list2 hl
    obtain ⟨g, o, rfl, hg, c1, c2⟩ := reads2 hr
    exact refShuf_14 G g o cx a b w hg c1 c2
  · obtain rfl : n = 2 := by have : takesN 15 = 2 := rfl; omega
    obtain ⟨a, b, rfl⟩ := list2 hl
    obtain ⟨g, o, rfl, hg, c1, c2⟩ := reads2 hr
    exact refShuf_15 G g o cx a b w hg c1 c2
  · obtain rfl : n = 3 := by have : takesN 16 = 3 := rfl; omega
    obtain ⟨a, b, c, rfl⟩ := list3 hl
    obtain ⟨g, o, rfl, hg, c1, c2, c3⟩ := reads3 hr
    exact refShuf_16 G g o cx a b c w hg c1 c2 c3
  · obtain rfl : n = 2 := by have : takesN 17 = 2 := rfl; omega
    obtain ⟨a, b, rfl⟩ := list2 hl
    obtain ⟨g, o, rfl, hg, c1, c2⟩ := reads2 hr
    exact refShuf_17 G g o cx a b w hg c1 c2
  · obtain rfl : n = 2 := by have : takesN 18 = 2 := rfl; omega
    obtain ⟨a, b, rfl⟩ := list2 hl
    obtain ⟨g, o, rfl, hg, c1, c2⟩ := reads2 hr
    exact refShuf_18 G g o cx a b w hg c1 c2
  · obtain rfl : n = 2 := by have : takesN 19 = 2 := rfl; omega
    obtain ⟨a, b, rfl⟩ := list2 hl
    obtain ⟨g, o, rfl, hg, c1, c2⟩ := reads2 hr
    exact refShuf_19 G g o cx a b w hg c1 c2
  · obtain rfl : n = 2 := by have : takesN 20 = 2 := rfl; omega
    obtain ⟨a, b, rfl⟩ := list2 hl
    obtain ⟨g, o, rfl, hg, c1, c2⟩ := reads2 hr
    exact refShuf_20 G g o cx a b w hg c1 c2
end Go.Proofs.YtdnalhjdmlkbmaaGreatDoor
