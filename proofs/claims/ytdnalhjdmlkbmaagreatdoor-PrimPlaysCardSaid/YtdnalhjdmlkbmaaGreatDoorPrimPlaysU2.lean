/- wispref01: divides, Binary; The zero values of a bank and of a memory; Maps with integer keys, told as lists of pairs: look-up and update at the operation; Rows that somebody owns, without a pointer to them; append of whatever is read; The program's memory as a record of lists; mem.New; mem.New; wispref04: full, MayBanks; append to a row, as one step of a region that draws its order; wispref04.New: it makes a memory (what is in it is not told here); What the functions of stack.pile do, at uint16; What the methods of stack.Data do; What the functions of stack.pile do, at api.Cell; What the methods of stack.Return do. -/
import Derived.Test.YtdnalhjdmlkbmaaGreatDoorProg
import Derived.MapKept
import Derived.ChangeMaps4
import Derived.RangeFuncRecord
import Derived.Outline
import Derived.Deep.QuietTactic
import Derived.BigQuiet
import Derived.Deep.RegionHeld3
import Derived.Deep.DeepCutAuto
import Derived.Deep.RegionLaw
import Derived.RegionTactic
import Derived.Test.YtdnalhjdmlkbmaaGreatDoorPrimPlaysU1
set_option linter.unusedVariables false
set_option linter.unusedSimpArgs false
set_option linter.unnecessarySimpa false
namespace Go.Proofs.YtdnalhjdmlkbmaaGreatDoor
open Go.RowKit
set_option linter.unusedVariables false
theorem quot_mul (s t : Int) (h0 : -65536 ≤ s) (h1 : s ≤ 65536) : -65536 ≤ s.tdiv t * t ∧ s.tdiv t * t ≤ 131072 ∧ -131072 ≤ s - s.tdiv t * t ∧ s - s.tdiv t * t ≤ 131072 := by
  have h := Int.tmod_add_mul_tdiv s t
  rw [Int.mul_comm] at h
  have h2 : (s.tmod t).natAbs ≤ s.natAbs := by rw [Int.natAbs_tmod]; exact Nat.mod_le _ _
  rcases Int.le_total 0 s with hs | hs
  · have h3 := Int.tmod_nonneg t hs
    generalize s.tdiv t * t = q at h ⊢
    generalize s.tmod t = r at h h2 h3
    omega
  · have h3 : s.tmod t ≤ 0 := by
      have := Int.tmod_nonneg t (show 0 ≤ -s by omega)
      rw [Int.neg_tmod] at this
      omega
    generalize s.tdiv t * t = q at h ⊢
    generalize s.tmod t = r at h h2 h3
    omega
set_option maxHeartbeats 400000 in
theorem refDiv_24 (x y : Int) (h0 : 0 ≤ x) (h1 : x < 65536) (h2 : 0 ≤ y) (h3 : y < 65536) (hy : y ≠ 0) (w : World) : Calls Tryz.prog 144 #[.int .i64 24, .int .u16 x, .int .u16 y] w fun e w' => e = .returned (.int .u16 (binF 24 x y)) ∧ w = w' := by
  have hr := sgn_rng x h0 h1
  have hs := sgn_rng y h2 h3
  have hsy := sgn_ne y h2 h3 hy
  have hw0 : IntKind.i64.wrap x = x := IntWalk.i64_in _ (by omega)
  have hw1 : IntKind.i64.wrap y = y := IntWalk.i64_in _ (by omega)
  have hz : (y == 0) = false := by simpa using hy
  go_enter Tryz.func144, Tryz.ntmps144
  go_wp2_with (first | (go_at_call 140; refine (refSigned_any _ _ (by assumption) (by assumption)).mono ?_; rintro e w' ⟨rfl, rfl⟩) | (go_at_call 141; refine (refCellN_any _ _).mono ?_; rintro e w' ⟨rfl, rfl⟩) | (go_at_call 143; refine (refFlag_any _ _).mono ?_; rintro e w' ⟨rfl, rfl⟩) | (go_at_call 167; refine (refQuot_any _ _ _ (by omega) (by omega) (by omega) (by omega) (by assumption)).mono ?_; rintro e w' ⟨rfl, rfl⟩))
  go_ret
  exact ⟨ret16R (by first | exact b_24 x y hy | (simp only [*]; exact b_24 x y hy)), rfl⟩
set_option maxHeartbeats 400000 in
theorem refDiv_25 (x y : Int) (h0 : 0 ≤ x) (h1 : x < 65536) (h2 : 0 ≤ y) (h3 : y < 65536) (hy : y ≠ 0) (w : World) : Calls Tryz.prog 144 #[.int .i64 25, .int .u16 x, .int .u16 y] w fun e w' => e = .returned (.int .u16 (binF 25 x y)) ∧ w = w' := by
  have hr := sgn_rng x h0 h1
  have hs := sgn_rng y h2 h3
  have hsy := sgn_ne y h2 h3 hy
  have hw0 : IntKind.i64.wrap x = x := IntWalk.i64_in _ (by omega)
  have hw1 : IntKind.i64.wrap y = y := IntWalk.i64_in _ (by omega)
  have hz : (y == 0) = false := by simpa using hy
  have hq := quot_mul (sgn x) (sgn y) (by omega) (by omega)
  have hw2 : wrap64 ((sgn x).tdiv (sgn y) * sgn y) = (sgn x).tdiv (sgn y) * sgn y := by generalize (sgn x).tdiv (sgn y) * sgn y = q at hq ⊢; unfold wrap64; omega
  have hw3 : wrap64 (sgn x - (sgn x).tdiv (sgn y) * sgn y) = sgn x - (sgn x).tdiv (sgn y) * sgn y := by generalize (sgn x).tdiv (sgn y) * sgn y = q at hq ⊢; clear hw2; unfold wrap64; omega
  go_enter Tryz.func144, Tryz.ntmps144
  go_wp2_with (first | (go_at_call 140; refine (refSigned_any _ _ (by assumption) (by assumption)).mono ?_; rintro e w' ⟨rfl, rfl⟩) | (go_at_call 141; refine (refCellN_any _ _).mono ?_; rintro e w' ⟨rfl, rfl⟩) | (go_at_call 143; refine (refFlag_any _ _).mono ?_; rintro e w' ⟨rfl, rfl⟩) | (go_at_call 167; refine (refQuot_any _ _ _ (by omega) (by omega) (by omega) (by omega) (by assumption)).mono ?_; rintro e w' ⟨rfl, rfl⟩))
  go_ret
  exact ⟨ret16R (by first | exact b_25 x y hy | (simp only [*]; exact b_25 x y hy)), rfl⟩
set_option maxHeartbeats 400000 in
theorem refDiv_26 (x y : Int) (h0 : 0 ≤ x) (h1 : x < 65536) (h2 : 0 ≤ y) (h3 : y < 65536) (hy : y ≠ 0) (w : World) : Calls Tryz.prog 144 #[.int .i64 26, .int .u16 x, .int .u16 y] w fun e w' => e = .returned (.int .u16 (binF 26 x y)) ∧ w = w' := by
  have hr := sgn_rng x h0 h1
  have hs := sgn_rng y h2 h3
  have hsy := sgn_ne y h2 h3 hy
  have hw0 : IntKind.i64.wrap x = x := IntWalk.i64_in _ (by omega)
  have hw1 : IntKind.i64.wrap y = y := IntWalk.i64_in _ (by omega)
  have hz : (y == 0) = false := by simpa using hy
  have hd : x.tdiv y = x / y := Int.tdiv_eq_ediv_of_nonneg h0
  have hq1 := Int.ediv_nonneg h0 h2
  have hq2 := Int.ediv_le_self y h0
  have hw2 : wrap64 (x / y) = x / y := by generalize x / y = q at hq1 hq2 ⊢; unfold wrap64; omega
  go_enter Tryz.func144, Tryz.ntmps144
  go_wp2_with (first | (go_at_call 140; refine (refSigned_any _ _ (by assumption) (by assumption)).mono ?_; rintro e w' ⟨rfl, rfl⟩) | (go_at_call 141; refine (refCellN_any _ _).mono ?_; rintro e w' ⟨rfl, rfl⟩) | (go_at_call 143; refine (refFlag_any _ _).mono ?_; rintro e w' ⟨rfl, rfl⟩) | (go_at_call 167; refine (refQuot_any _ _ _ (by omega) (by omega) (by omega) (by omega) (by assumption)).mono ?_; rintro e w' ⟨rfl, rfl⟩))
  go_ret
  exact ⟨ret16R (by first | exact b_26 x y hy | (simp only [*]; exact b_26 x y hy)), rfl⟩
set_option maxHeartbeats 400000 in
theorem refDiv_27 (x y : Int) (h0 : 0 ≤ x) (h1 : x < 65536) (h2 : 0 ≤ y) (h3 : y < 65536) (hy : y ≠ 0) (w : World) : Calls Tryz.prog 144 #[.int .i64 27, .int .u16 x, .int .u16 y] w fun e w' => e = .returned (.int .u16 (binF 27 x y)) ∧ w = w' := by
  have hr := sgn_rng x h0 h1
  have hs := sgn_rng y h2 h3
  have hsy := sgn_ne y h2 h3 hy
  have hw0 : IntKind.i64.wrap x = x := IntWalk.i64_in _ (by omega)
  have hw1 : IntKind.i64.wrap y = y := IntWalk.i64_in _ (by omega)
  have hz : (y == 0) = false := by simpa using hy
  have hd : x.tdiv y = x / y := Int.tdiv_eq_ediv_of_nonneg h0
  have hq1 := Int.ediv_nonneg h0 h2
  have hq2 := Int.ediv_le_self y h0
  have hq3 : x / y * y ≤ x ∧ 0 ≤ x / y * y := ⟨Int.ediv_mul_le x hy, Int.mul_nonneg hq1 h2⟩
  have hw2 : wrap64 (x / y) = x / y := by clear hq3; generalize x / y = q at hq1 hq2 ⊢; unfold wrap64; omega
  have hw3 : wrap64 (x / y * y) = x / y * y := by clear hw2; generalize x / y * y = q at hq3 ⊢; unfold wrap64; omega
  have hw4 : wrap64 (x - x / y * y) = x - x / y * y := by clear hw2 hw3; generalize x / y * y = q at hq3 ⊢; unfold wrap64; omega
  go_enter Tryz.func144, Tryz.ntmps144
  go_wp2_with (first | (go_at_call 140; refine (refSigned_any _ _ (by assumption) (by assumption)).mono ?_; rintro e w' ⟨rfl, rfl⟩) | (go_at_call 141; refine (refCellN_any _ _).mono ?_; rintro e w' ⟨rfl, rfl⟩) | (go_at_call 143; refine (refFlag_any _ _).mono ?_; rintro e w' ⟨rfl, rfl⟩) | (go_at_call 167; refine (refQuot_any _ _ _ (by omega) (by omega) (by omega) (by omega) (by assumption)).mono ?_; rintro e w' ⟨rfl, rfl⟩))
  go_ret
  exact ⟨ret16R (by first | exact b_27 x y hy | (simp only [*]; exact b_27 x y hy)), rfl⟩
set_option maxHeartbeats 400000 in
theorem refBin_21 (x y : Int) (h0 : 0 ≤ x) (h1 : x < 65536) (h2 : 0 ≤ y) (h3 : y < 65536) (w : World) : Calls Tryz.prog 104 #[.int .i64 21, .int .u16 x, .int .u16 y] w fun e w' => e = .returned (.tuple #[.int .u16 (binF 21 x y), .bool true]) ∧ w = w' := by
  have hr := sgn_rng x h0 h1
  have hs := sgn_rng y h2 h3
  have hv0 : IntKind.i64.wrap x = x := IntWalk.i64_in _ (by omega)
  have hv1 : IntKind.i64.wrap y = y := IntWalk.i64_in _ (by omega)
  have hw : wrap64 (x + y) = x + y := by unfold wrap64; omega
  go_enter Tryz.func104, Tryz.ntmps104
  go_wp2_with (first | (go_at_call 140; refine (refSigned_any _ _ (by assumption) (by assumption)).mono ?_; rintro e w' ⟨rfl, rfl⟩) | (go_at_call 141; refine (refCellN_any _ _).mono ?_; rintro e w' ⟨rfl, rfl⟩) | (go_at_call 143; refine (refFlag_any _ _).mono ?_; rintro e w' ⟨rfl, rfl⟩) | (go_at_call 167; refine (refQuot_any _ _ _ (by omega) (by omega) (by omega) (by omega) (by assumption)).mono ?_; rintro e w' ⟨rfl, rfl⟩))
  all_goals
    go_ret2
    exact ⟨tupR (by first | exact b_21 x y | (simp only [*]; exact b_21 x y)), rfl⟩
set_option maxHeartbeats 400000 in
theorem refBin_22 (x y : Int) (h0 : 0 ≤ x) (h1 : x < 65536) (h2 : 0 ≤ y) (h3 : y < 65536) (w : World) : Calls Tryz.prog 104 #[.int .i64 22, .int .u16 x, .int .u16 y] w fun e w' => e = .returned (.tuple #[.int .u16 (binF 22 x y), .bool true]) ∧ w = w' := by
  have hr := sgn_rng x h0 h1
  have hs := sgn_rng y h2 h3
  have hv0 : IntKind.i64.wrap x = x := IntWalk.i64_in _ (by omega)
  have hv1 : IntKind.i64.wrap y = y := IntWalk.i64_in _ (by omega)
  have hw : wrap64 (x - y) = x - y := by unfold wrap64; omega
  go_enter Tryz.func104, Tryz.ntmps104
  go_wp2_with (first | (go_at_call 140; refine (refSigned_any _ _ (by assumption) (by assumption)).mono ?_; rintro e w' ⟨rfl, rfl⟩) | (go_at_call 141; refine (refCellN_any _ _).mono ?_; rintro e w' ⟨rfl, rfl⟩) | (go_at_call 143; refine (refFlag_any _ _).mono ?_; rintro e w' ⟨rfl, rfl⟩) | (go_at_call 167; refine (refQuot_any _ _ _ (by omega) (by omega) (by omega) (by omega) (by assumption)).mono ?_; rintro e w' ⟨rfl, rfl⟩))
  all_goals
    go_ret2
    exact ⟨tupR (by first | exact b_22 x y | (simp only [*]; exact b_22 x y)), rfl⟩
set_option maxHeartbeats 400000 in
theorem refBin_23 (x y : Int) (h0 : 0 ≤ x) (h1 : x < 65536) (h2 : 0 ≤ y) (h3 : y < 65536) (w : World) : Calls Tryz.prog 104 #[.int .i64 23, .int .u16 x, .int .u16 y] w fun e w' => e = .returned (.tuple #[.int .u16 (binF 23 x y), .bool true]) ∧ w = w' := by
  have hr := sgn_rng x h0 h1
  have hs := sgn_rng y h2 h3
  have hv0 : IntKind.i64.wrap x = x := IntWalk.i64_in _ (by omega)
  have hv1 : IntKind.i64.wrap y = y := IntWalk.i64_in _ (by omega)
  have hm0 := Int.mul_nonneg h0 h2
  have hm1 : x * y ≤ 65536 * 65536 := Int.mul_le_mul (by omega) (by omega) h2 (by omega)
  have hw : wrap64 (x * y) = x * y := by generalize x * y = q at hm0 hm1 ⊢; unfold wrap64; omega
  clear hm0 hm1
  go_enter Tryz.func104, Tryz.ntmps104
  go_wp2_with (first | (go_at_call 140; refine (refSigned_any _ _ (by assumption) (by assumption)).mono ?_; rintro e w' ⟨rfl, rfl⟩) | (go_at_call 141; refine (refCellN_any _ _).mono ?_; rintro e w' ⟨rfl, rfl⟩) | (go_at_call 143; refine (refFlag_any _ _).mono ?_; rintro e w' ⟨rfl, rfl⟩) | (go_at_call 167; refine (refQuot_any _ _ _ (by omega) (by omega) (by omega) (by omega) (by assumption)).mono ?_; rintro e w' ⟨rfl, rfl⟩))
  all_goals
    go_ret2
    exact ⟨tupR (by first | exact b_23 x y | (simp only [*]; exact b_23 x y)), rfl⟩
set_option maxHeartbeats 400000 in
theorem refBin_24 (x y : Int) (h0 : 0 ≤ x) (h1 : x < 65536) (h2 : 0 ≤ y) (h3 : y < 65536) (w : World) : Calls Tryz.prog 104 #[.int .i64 24, .int .u16 x, .int .u16 y] w fun e w' => e = .returned (.tuple #[.int .u16 (binF 24 x y), .bool true]) ∧ w = w' := by
  have hr := sgn_rng x h0 h1
  have hs := sgn_rng y h2 h3
  have hv0 : IntKind.i64.wrap x = x := IntWalk.i64_in _ (by omega)
  have hv1 : IntKind.i64.wrap y = y := IntWalk.i64_in _ (by omega)
  by_cases hy : y = 0
  · subst hy
    go_enter Tryz.func104, Tryz.ntmps104
    go_wp2_with (first | (go_at_call 140; refine (refSigned_any _ _ (by assumption) (by assumption)).mono ?_; rintro e w' ⟨rfl, rfl⟩) | (go_at_call 141; refine (refCellN_any _ _).mono ?_; rintro e w' ⟨rfl, rfl⟩) | (go_at_call 143; refine (refFlag_any _ _).mono ?_; rintro e w' ⟨rfl, rfl⟩) | (go_at_call 167; refine (refQuot_any _ _ _ (by omega) (by omega) (by omega) (by omega) (by assumption)).mono ?_; rintro e w' ⟨rfl, rfl⟩))
    go_ret2
    exact ⟨rfl, rfl⟩
  · have hb : (y == 0) = false := by simpa using hy
    go_enter Tryz.func104, Tryz.ntmps104
    go_wp2_with (first | (go_at_call 140; refine (refSigned_any _ _ (by assumption) (by assumption)).mono ?_; rintro e w' ⟨rfl, rfl⟩) | (go_at_call 141; refine (refCellN_any _ _).mono ?_; rintro e w' ⟨rfl, rfl⟩) | (go_at_call 143; refine (refFlag_any _ _).mono ?_; rintro e w' ⟨rfl, rfl⟩) | (go_at_call 167; refine (refQuot_any _ _ _ (by omega) (by omega) (by omega) (by omega) (by assumption)).mono ?_; rintro e w' ⟨rfl, rfl⟩) | (go_at_call 144; refine (refDiv_24 x y h0 h1 h2 h3 hy _).mono ?_; rintro e w' ⟨rfl, rfl⟩))
    go_ret2
    exact ⟨rfl, rfl⟩
set_option maxHeartbeats 400000 in
theorem refBin_25 (x y : Int) (h0 : 0 ≤ x) (h1 : x < 65536) (h2 : 0 ≤ y) (h3 : y < 65536) (w : World) : Calls Tryz.prog 104 #[.int .i64 25, .int .u16 x, .int .u16 y] w fun e w' => e = .returned (.tuple #[.int .u16 (binF 25 x y), .bool true]) ∧ w = w' := by
  have hr := sgn_rng x h0 h1
  have hs := sgn_rng y h2 h3
  have hv0 : IntKind.i64.wrap x = x := IntWalk.i64_in _ (by omega)
  have hv1 : IntKind.i64.wrap y = y := IntWalk.i64_in _ (by omega)
  by_cases hy : y = 0
  · subst hy
    go_enter Tryz.func104, Tryz.ntmps104
    go_wp2_with (first | (go_at_call 140; refine (refSigned_any _ _ (by assumption) (by assumption)).mono ?_; rintro e w' ⟨rfl, rfl⟩) | (go_at_call 141; refine (refCellN_any _ _).mono ?_; rintro e w' ⟨rfl, rfl⟩) | (go_at_call 143; refine (refFlag_any _ _).mono ?_; rintro e w' ⟨rfl, rfl⟩) | (go_at_call 167; refine (refQuot_any _ _ _ (by omega) (by omega) (by omega) (by omega) (by assumption)).mono ?_; rintro e w' ⟨rfl, rfl⟩))
    go_ret2
    exact ⟨rfl, rfl⟩
  · have hb : (y == 0) = false := by simpa using hy
    go_enter Tryz.func104, Tryz.ntmps104
    go_wp2_with (first | (go_at_call 140; refine (refSigned_any _ _ (by assumption) (by assumption)).mono ?_; rintro e w' ⟨rfl, rfl⟩) | (go_at_call 141; refine (refCellN_any _ _).mono ?_; rintro e w' ⟨rfl, rfl⟩) | (go_at_call 143; refine (refFlag_any _ _).mono ?_; rintro e w' ⟨rfl, rfl⟩) | (go_at_call 167; refine (refQuot_any _ _ _ (by omega) (by omega) (by omega) (by omega) (by assumption)).mono ?_; rintro e w' ⟨rfl, rfl⟩) | (go_at_call 144; refine (refDiv_25 x y h0 h1 h2 h3 hy _).mono ?_; rintro e w' ⟨rfl, rfl⟩))
    go_ret2
    exact ⟨rfl, rfl⟩
set_option maxHeartbeats 400000 in
theorem refBin_26 (x y : Int) (h0 : 0 ≤ x) (h1 : x < 65536) (h2 : 0 ≤ y) (h3 : y < 65536) (w : World) : Calls Tryz.prog 104 #[.int .i64 26, .int .u16 x, .int .u16 y] w fun e w' => e = .returned (.tuple #[.int .u16 (binF 26 x y), .bool true]) ∧ w = w' := by
  have hr := sgn_rng x h0 h1
  have hs := sgn_rng y h2 h3
  have hv0 : IntKind.i64.wrap x = x := IntWalk.i64_in _ (by omega)
  have hv1 : IntKind.i64.wrap y = y := IntWalk.i64_in _ (by omega)
  by_cases hy : y = 0
  · subst hy
    go_enter Tryz.func104, Tryz.ntmps104
    go_wp2_with (first | (go_at_call 140; refine (refSigned_any _ _ (by assumption) (by assumption)).mono ?_; rintro e w' ⟨rfl, rfl⟩) | (go_at_call 141; refine (refCellN_any _ _).mono ?_; rintro e w' ⟨rfl, rfl⟩) | (go_at_call 143; refine (refFlag_any _ _).mono ?_; rintro e w' ⟨rfl, rfl⟩) | (go_at_call 167; refine (refQuot_any _ _ _ (by omega) (by omega) (by omega) (by omega) (by assumption)).mono ?_; rintro e w' ⟨rfl, rfl⟩))
    go_ret2
    exact ⟨rfl, rfl⟩
  · have hb : (y == 0) = false := by simpa using hy
    go_enter Tryz.func104, Tryz.ntmps104
    go_wp2_with (first | (go_at_call 140; refine (refSigned_any _ _ (by assumption) (by assumption)).mono ?_; rintro e w' ⟨rfl, rfl⟩) | (go_at_call 141; refine (refCellN_any _ _).mono ?_; rintro e w' ⟨rfl, rfl⟩) | (go_at_call 143; refine (refFlag_any _ _).mono ?_; rintro e w' ⟨rfl, rfl⟩) | (go_at_call 167; refine (refQuot_any _ _ _ (by omega) (by omega) (by omega) (by omega) (by assumption)).mono ?_; rintro e w' ⟨rfl, rfl⟩) | (go_at_call 144; refine (refDiv_26 x y h0 h1 h2 h3 hy _).mono ?_; rintro e w' ⟨rfl, rfl⟩))
    go_ret2
    exact ⟨rfl, rfl⟩
set_option maxHeartbeats 400000 in
theorem refBin_27 (x y : Int) (h0 : 0 ≤ x) (h1 : x < 65536) (h2 : 0 ≤ y) (h3 : y < 65536) (w : World) : Calls Tryz.prog 104 #[.int .i64 27, .int .u16 x, .int .u16 y] w fun e w' => e = .returned (.tuple #[.int .u16 (binF 27 x y), .bool true]) ∧ w = w' := by
  have hr := sgn_rng x h0 h1
  have hs := sgn_rng y h2 h3
  have hv0 : IntKind.i64.wrap x = x := IntWalk.i64_in _ (by omega)
  have hv1 : IntKind.i64.wrap y = y := IntWalk.i64_in _ (by omega)
  by_cases hy : y = 0
  · subst hy
    go_enter Tryz.func104, Tryz.ntmps104
    go_wp2_with (first | (go_at_call 140; refine (refSigned_any _ _ (by assumption) (by assumption)).mono ?_; rintro e w' ⟨rfl, rfl⟩) | (go_at_call 141; refine (refCellN_any _ _).mono ?_; rintro e w' ⟨rfl, rfl⟩) | (go_at_call 143; refine (refFlag_any _ _).mono ?_; rintro e w' ⟨rfl, rfl⟩) | (go_at_call 167; refine (refQuot_any _ _ _ (by omega) (by omega) (by omega) (by omega) (by assumption)).mono ?_; rintro e w' ⟨rfl, rfl⟩))
    go_ret2
    exact ⟨rfl, rfl⟩
  · have hb : (y == 0) = false := by simpa using hy
    go_enter Tryz.func104, Tryz.ntmps104
    go_wp2_with (first | (go_at_call 140; refine (refSigned_any _ _ (by assumption) (by assumption)).mono ?_; rintro e w' ⟨rfl, rfl⟩) | (go_at_call 141; refine (refCellN_any _ _).mono ?_; rintro e w' ⟨rfl, rfl⟩) | (go_at_call 143; refine (refFlag_any _ _).mono ?_; rintro e w' ⟨rfl, rfl⟩) | (go_at_call 167; refine (refQuot_any _ _ _ (by omega) (by omega) (by omega) (by omega) (by assumption)).mono ?_; rintro e w' ⟨rfl, rfl⟩) | (go_at_call 144; refine (refDiv_27 x y h0 h1 h2 h3 hy _).mono ?_; rintro e w' ⟨rfl, rfl⟩))
    go_ret2
    exact ⟨rfl, rfl⟩
set_option maxHeartbeats 400000 in
theorem refBin_30 (x y : Int) (h0 : 0 ≤ x) (h1 : x < 65536) (h2 : 0 ≤ y) (h3 : y < 65536) (w : World) : Calls Tryz.prog 104 #[.int .i64 30, .int .u16 x, .int .u16 y] w fun e w' => e = .returned (.tuple #[.int .u16 (binF 30 x y), .bool true]) ∧ w = w' := by
  have hr := sgn_rng x h0 h1
  have hs := sgn_rng y h2 h3
  have hv0 : IntKind.i64.wrap x = x := IntWalk.i64_in _ (by omega)
  have hv1 : IntKind.i64.wrap y = y := IntWalk.i64_in _ (by omega)
  go_enter Tryz.func104, Tryz.ntmps104
  go_wp2_with (first | (go_at_call 140; refine (refSigned_any _ _ (by assumption) (by assumption)).mono ?_; rintro e w' ⟨rfl, rfl⟩) | (go_at_call 141; refine (refCellN_any _ _).mono ?_; rintro e w' ⟨rfl, rfl⟩) | (go_at_call 143; refine (refFlag_any _ _).mono ?_; rintro e w' ⟨rfl, rfl⟩) | (go_at_call 167; refine (refQuot_any _ _ _ (by omega) (by omega) (by omega) (by omega) (by assumption)).mono ?_; rintro e w' ⟨rfl, rfl⟩))
  all_goals
    go_ret2
    exact ⟨tupR (by rw [← b_30 x y h0 h1 h2 h3]; first | rfl | (congr 1; omega)), rfl⟩
set_option maxHeartbeats 400000 in
theorem refBin_31 (x y : Int) (h0 : 0 ≤ x) (h1 : x < 65536) (h2 : 0 ≤ y) (h3 : y < 65536) (w : World) : Calls Tryz.prog 104 #[.int .i64 31, .int .u16 x, .int .u16 y] w fun e w' => e = .returned (.tuple #[.int .u16 (binF 31 x y), .bool true]) ∧ w = w' := by
  have hr := sgn_rng x h0 h1
  have hs := sgn_rng y h2 h3
  have hv0 : IntKind.i64.wrap x = x := IntWalk.i64_in _ (by omega)
  have hv1 : IntKind.i64.wrap y = y := IntWalk.i64_in _ (by omega)
  go_enter Tryz.func104, Tryz.ntmps104
  go_wp2_with (first | (go_at_call 140; refine (refSigned_any _ _ (by assumption) (by assumption)).mono ?_; rintro e w' ⟨rfl, rfl⟩) | (go_at_call 141; refine (refCellN_any _ _).mono ?_; rintro e w' ⟨rfl, rfl⟩) | (go_at_call 143; refine (refFlag_any _ _).mono ?_; rintro e w' ⟨rfl, rfl⟩) | (go_at_call 167; refine (refQuot_any _ _ _ (by omega) (by omega) (by omega) (by omega) (by assumption)).mono ?_; rintro e w' ⟨rfl, rfl⟩))
  all_goals
    go_ret2
    exact ⟨tupR (by rw [← b_31 x y h0 h1 h2 h3]; first | rfl | (congr 1; omega)), rfl⟩
theorem refBitsI_36 (x y : Int) (h0 : 0 ≤ x) (h1 : x < 65536) (h2 : 0 ≤ y) (h3 : y < 65536) (w : World) : Calls Tryz.prog 145 #[.int .i64 36, .int .u16 x, .int .u16 y] w fun e w' => e = .returned (.int .u16 (binF 36 x y)) ∧ w = w' := by
  obtain ⟨a, rfl⟩ : ∃ a : Nat, x = a := ⟨x.toNat, by omega⟩
  obtain ⟨b, rfl⟩ : ∃ b : Nat, y = b := ⟨y.toNat, by omega⟩
  exact refBits_36 a b (by omega) (by omega) w
set_option maxHeartbeats 400000 in
theorem refBin_36 (x y : Int) (h0 : 0 ≤ x) (h1 : x < 65536) (h2 : 0 ≤ y) (h3 : y < 65536) (w : World) : Calls Tryz.prog 104 #[.int .i64 36, .int .u16 x, .int .u16 y] w fun e w' => e = .returned (.tuple #[.int .u16 (binF 36 x y), .bool true]) ∧ w = w' := by
  have hr := sgn_rng x h0 h1
  have hs := sgn_rng y h2 h3
  have hv0 : IntKind.i64.wrap x = x := IntWalk.i64_in _ (by omega)
  have hv1 : IntKind.i64.wrap y = y := IntWalk.i64_in _ (by omega)
  go_enter Tryz.func104, Tryz.ntmps104
  go_wp2_with (first | (go_at_call 140; refine (refSigned_any _ _ (by assumption) (by assumption)).mono ?_; rintro e w' ⟨rfl, rfl⟩) | (go_at_call 141; refine (refCellN_any _ _).mono ?_; rintro e w' ⟨rfl, rfl⟩) | (go_at_call 143; refine (refFlag_any _ _).mono ?_; rintro e w' ⟨rfl, rfl⟩) | (go_at_call 167; refine (refQuot_any _ _ _ (by omega) (by omega) (by omega) (by omega) (by assumption)).mono ?_; rintro e w' ⟨rfl, rfl⟩) | (go_at_call 145; refine (refBitsI_36 x y h0 h1 h2 h3 _).mono ?_; rintro e w' ⟨rfl, rfl⟩))
  go_ret2
  exact ⟨rfl, rfl⟩
theorem refBitsI_37 (x y : Int) (h0 : 0 ≤ x) (h1 : x < 65536) (h2 : 0 ≤ y) (h3 : y < 65536) (w : World) : Calls Tryz.prog 145 #[.int .i64 37, .int .u16 x, .int .u16 y] w fun e w' => e = .returned (.int .u16 (binF 37 x y)) ∧ w = w' := by
  obtain ⟨a, rfl⟩ : ∃ a : Nat, x = a := ⟨x.toNat, by omega⟩
  obtain ⟨b, rfl⟩ : ∃ b : Nat, y = b := ⟨y.toNat, by omega⟩
  exact refBits_37 a b (by omega) (by omega) w
set_option maxHeartbeats 400000 in
theorem refBin_37 (x y : Int) (h0 : 0 ≤ x) (h1 : x < 65536) (h2 : 0 ≤ y) (h3 : y < 65536) (w : World) : Calls Tryz.prog 104 #[.int .i64 37, .int .u16 x, .int .u16 y] w fun e w' => e = .returned (.tuple #[.int .u16 (binF 37 x y), .bool true]) ∧ w = w' := by
  have hr := sgn_rng x h0 h1
  have hs := sgn_rng y h2 h3
  have hv0 : IntKind.i64.wrap x = x := IntWalk.i64_in _ (by omega)
  have hv1 : IntKind.i64.wrap y = y := IntWalk.i64_in _ (by omega)
  go_enter Tryz.func104, Tryz.ntmps104
  go_wp2_with (first | (go_at_call 140; refine (refSigned_any _ _ (by assumption) (by assumption)).mono ?_; rintro e w' ⟨rfl, rfl⟩) | (go_at_call 141; refine (refCellN_any _ _).mono ?_; rintro e w' ⟨rfl, rfl⟩) | (go_at_call 143; refine (refFlag_any _ _).mono ?_; rintro e w' ⟨rfl, rfl⟩) | (go_at_call 167; refine (refQuot_any _ _ _ (by omega) (by omega) (by omega) (by omega) (by assumption)).mono ?_; rintro e w' ⟨rfl, rfl⟩) | (go_at_call 145; refine (refBitsI_37 x y h0 h1 h2 h3 _).mono ?_; rintro e w' ⟨rfl, rfl⟩))
  go_ret2
  exact ⟨rfl, rfl⟩
theorem refBitsI_38 (x y : Int) (h0 : 0 ≤ x) (h1 : x < 65536) (h2 : 0 ≤ y) (h3 : y < 65536) (w : World) : Calls Tryz.prog 145 #[.int .i64 38, .int .u16 x, .int .u16 y] w fun e w' => e = .returned (.int .u16 (binF 38 x y)) ∧ w = w' := by
  obtain ⟨a, rfl⟩ : ∃ a : Nat, x = a := ⟨x.toNat, by omega⟩
  obtain ⟨b, rfl⟩ : ∃ b : Nat, y = b := ⟨y.toNat, by omega⟩
  exact refBits_38 a b (by omega) (by omega) w
set_option maxHeartbeats 400000 in
theorem refBin_38 (x y : Int) (h0 : 0 ≤ x) (h1 : x < 65536) (h2 : 0 ≤ y) (h3 : y < 65536) (w : World) : Calls Tryz.prog 104 #[.int .i64 38, .int .u16 x, .int .u16 y] w fun e w' => e = .returned (.tuple #[.int .u16 (binF 38 x y), .bool true]) ∧ w = w' := by
  have hr := sgn_rng x h0 h1
  have hs := sgn_rng y h2 h3
  have hv0 : IntKind.i64.wrap x = x := IntWalk.i64_in _ (by omega)
  have hv1 : IntKind.i64.wrap y = y := IntWalk.i64_in _ (by omega)
  go_enter Tryz.func104, Tryz.ntmps104
  go_wp2_with (first | (go_at_call 140; refine (refSigned_any _ _ (by assumption) (by assumption)).mono ?_; rintro e w' ⟨rfl, rfl⟩) | (go_at_call 141; refine (refCellN_any _ _).mono ?_; rintro e w' ⟨rfl, rfl⟩) | (go_at_call 143; refine (refFlag_any _ _).mono ?_; rintro e w' ⟨rfl, rfl⟩) | (go_at_call 167; refine (refQuot_any _ _ _ (by omega) (by omega) (by omega) (by omega) (by assumption)).mono ?_; rintro e w' ⟨rfl, rfl⟩) | (go_at_call 145; refine (refBitsI_38 x y h0 h1 h2 h3 _).mono ?_; rintro e w' ⟨rfl, rfl⟩))
  go_ret2
  exact ⟨rfl, rfl⟩
theorem refPowerI (y p : Int) (h0 : 0 ≤ y) (h1 : y ≤ 15) (hp : p = ((2 ^ y.toNat : Nat) : Int)) (w : World) : Calls Tryz.prog 146 #[.int .i64 y] w fun e w' => e = .returned (.int .i64 p) ∧ w = w' := by
  obtain ⟨n, rfl⟩ : ∃ b : Nat, y = b := ⟨y.toNat, by omega⟩
  subst hp
  exact refPower_any n (by omega) w
theorem pow_rng (y : Int) (h0 : 0 ≤ y) (h1 : y ≤ 15) : (0 : Int) < ((2 ^ y.toNat : Nat) : Int) ∧ ((2 ^ y.toNat : Nat) : Int) ≤ 65536 := by
  have h2 : 0 < 2 ^ y.toNat := Nat.pow_pos (by omega)
  have h3 : (2 ^ y.toNat : Nat) ≤ 65536 := by rw [show (65536 : Nat) = 2 ^ 16 from rfl]; exact Nat.pow_le_pow_right (by omega) (by omega)
  omega
set_option maxHeartbeats 400000 in
theorem refBin_40 (x y : Int) (h0 : 0 ≤ x) (h1 : x < 65536) (h2 : 0 ≤ y) (h3 : y < 65536) (w : World) : Calls Tryz.prog 104 #[.int .i64 40, .int .u16 x, .int .u16 y] w fun e w' => e = .returned (.tuple #[.int .u16 (binF 40 x y), .bool true]) ∧ w = w' := by
  have hr := sgn_rng x h0 h1
  have hs := sgn_rng y h2 h3
  have hv0 : IntKind.i64.wrap x = x := IntWalk.i64_in _ (by omega)
  have hv1 : IntKind.i64.wrap y = y := IntWalk.i64_in _ (by omega)
  by_cases hn : 15 < y
  · have hb : decide (15 < y) = true := by simpa using hn
    have HZ := Lib.hid (b_40' x y (by omega))
    go_enter Tryz.func104, Tryz.ntmps104
    go_wp2_with (first | (go_at_call 140; refine (refSigned_any _ _ (by assumption) (by assumption)).mono ?_; rintro e w' ⟨rfl, rfl⟩) | (go_at_call 141; refine (refCellN_any _ _).mono ?_; rintro e w' ⟨rfl, rfl⟩) | (go_at_call 143; refine (refFlag_any _ _).mono ?_; rintro e w' ⟨rfl, rfl⟩) | (go_at_call 167; refine (refQuot_any _ _ _ (by omega) (by omega) (by omega) (by omega) (by assumption)).mono ?_; rintro e w' ⟨rfl, rfl⟩))
    go_ret2
    exact ⟨tupR HZ.out, rfl⟩
  · have hb : decide (15 < y) = false := by simp; omega
    have hy15 : y ≤ 15 := by omega
    have hpr := pow_rng y h2 hy15
    obtain ⟨p, hp⟩ : ∃ p : Int, p = ((2 ^ y.toNat : Nat) : Int) := ⟨_, rfl⟩
    rw [← hp] at hpr
    have hm1 : x * p ≤ 65536 * 65536 := Int.mul_le_mul (by omega) (by omega) (by omega) (by omega)
    have hm0 : 0 ≤ x * p := Int.mul_nonneg h0 (by omega)
    have hbb := b_40 x y (by omega) h2
    rw [← hp] at hbb
    have hw : wrap64 (x * p) = x * p := by generalize x * p = q at hm0 hm1 ⊢; clear hbb hp; unfold wrap64; omega
    clear hm0 hm1
    have HPP := Lib.hid hp
    have HBB := Lib.hid hbb
    clear hp hbb
    go_enter Tryz.func104, Tryz.ntmps104
    go_wp2_with (first | (go_at_call 140; refine (refSigned_any _ _ (by assumption) (by assumption)).mono ?_; rintro e w' ⟨rfl, rfl⟩) | (go_at_call 141; refine (refCellN_any _ _).mono ?_; rintro e w' ⟨rfl, rfl⟩) | (go_at_call 143; refine (refFlag_any _ _).mono ?_; rintro e w' ⟨rfl, rfl⟩) | (go_at_call 167; refine (refQuot_any _ _ _ (by omega) (by omega) (by omega) (by omega) (by assumption)).mono ?_; rintro e w' ⟨rfl, rfl⟩) | (go_at_call 146; refine (refPowerI y p h2 hy15 HPP.out _).mono ?_; rintro e w' ⟨rfl, rfl⟩))
    go_ret2
    exact ⟨tupR (by first | exact HBB.out | (simp only [*]; exact HBB.out)), rfl⟩
set_option maxHeartbeats 400000 in
theorem refBin_41 (x y : Int) (h0 : 0 ≤ x) (h1 : x < 65536) (h2 : 0 ≤ y) (h3 : y < 65536) (w : World) : Calls Tryz.prog 104 #[.int .i64 41, .int .u16 x, .int .u16 y] w fun e w' => e = .returned (.tuple #[.int .u16 (binF 41 x y), .bool true]) ∧ w = w' := by
  have hr := sgn_rng x h0 h1
  have hs := sgn_rng y h2 h3
  have hv0 : IntKind.i64.wrap x = x := IntWalk.i64_in _ (by omega)
  have hv1 : IntKind.i64.wrap y = y := IntWalk.i64_in _ (by omega)
  by_cases hn : 15 < y
  · have hb : decide (15 < y) = true := by simpa using hn
    have HZ := Lib.hid (b_41' x y h0 h1 (by omega))
    go_enter Tryz.func104, Tryz.ntmps104
    go_wp2_with (first | (go_at_call 140; refine (refSigned_any _ _ (by assumption) (by assumption)).mono ?_; rintro e w' ⟨rfl, rfl⟩) | (go_at_call 141; refine (refCellN_any _ _).mono ?_; rintro e w' ⟨rfl, rfl⟩) | (go_at_call 143; refine (refFlag_any _ _).mono ?_; rintro e w' ⟨rfl, rfl⟩) | (go_at_call 167; refine (refQuot_any _ _ _ (by omega) (by omega) (by omega) (by omega) (by assumption)).mono ?_; rintro e w' ⟨rfl, rfl⟩))
    go_ret2
    exact ⟨tupR HZ.out, rfl⟩
  · have hb : decide (15 < y) = false := by simp; omega
    have hy15 : y ≤ 15 := by omega
    have hpr := pow_rng y h2 hy15
    obtain ⟨p, hp⟩ : ∃ p : Int, p = ((2 ^ y.toNat : Nat) : Int) := ⟨_, rfl⟩
    rw [← hp] at hpr
    have hbb := b_41 x y h0 h1 (by omega) h2
    rw [← hp] at hbb
    have hd : x.tdiv p = x / p := Int.tdiv_eq_ediv_of_nonneg h0
    have hq1 := Int.ediv_nonneg h0 (show (0 : Int) ≤ p by omega)
    have hq2 := Int.ediv_le_self p h0
    have hz : (p == 0) = false := by simp; omega
    have hw : wrap64 (x / p) = x / p := by clear hbb hd; generalize x / p = q at hq1 hq2 ⊢; unfold wrap64; omega
    clear hq1 hq2
    have HPP := Lib.hid hp
    have HBB := Lib.hid hbb
    clear hp hbb
    go_enter Tryz.func104, Tryz.ntmps104
    go_wp2_with (first | (go_at_call 140; refine (refSigned_any _ _ (by assumption) (by assumption)).mono ?_; rintro e w' ⟨rfl, rfl⟩) | (go_at_call 141; refine (refCellN_any _ _).mono ?_; rintro e w' ⟨rfl, rfl⟩) | (go_at_call 143; refine (refFlag_any _ _).mono ?_; rintro e w' ⟨rfl, rfl⟩) | (go_at_call 167; refine (refQuot_any _ _ _ (by omega) (by omega) (by omega) (by omega) (by assumption)).mono ?_; rintro e w' ⟨rfl, rfl⟩) | (go_at_call 146; refine (refPowerI y p h2 hy15 HPP.out _).mono ?_; rintro e w' ⟨rfl, rfl⟩))
    go_ret2
    exact ⟨tupR (by first | exact HBB.out | (simp only [*]; exact HBB.out)), rfl⟩
set_option maxHeartbeats 400000 in
theorem refBin_42 (x y : Int) (h0 : 0 ≤ x) (h1 : x < 65536) (h2 : 0 ≤ y) (h3 : y < 65536) (w : World) : Calls Tryz.prog 104 #[.int .i64 42, .int .u16 x, .int .u16 y] w fun e w' => e = .returned (.tuple #[.int .u16 (binF 42 x y), .bool true]) ∧ w = w' := by
  have hr := sgn_rng x h0 h1
  have hs := sgn_rng y h2 h3
  have hv0 : IntKind.i64.wrap x = x := IntWalk.i64_in _ (by omega)
  have hv1 : IntKind.i64.wrap y = y := IntWalk.i64_in _ (by omega)
  go_enter Tryz.func104, Tryz.ntmps104
  go_wp2_with (first | (go_at_call 140; refine (refSigned_any _ _ (by assumption) (by assumption)).mono ?_; rintro e w' ⟨rfl, rfl⟩) | (go_at_call 141; refine (refCellN_any _ _).mono ?_; rintro e w' ⟨rfl, rfl⟩) | (go_at_call 143; refine (refFlag_any _ _).mono ?_; rintro e w' ⟨rfl, rfl⟩) | (go_at_call 167; refine (refQuot_any _ _ _ (by omega) (by omega) (by omega) (by omega) (by assumption)).mono ?_; rintro e w' ⟨rfl, rfl⟩))
  all_goals
    go_ret2
    exact ⟨rfl, rfl⟩
set_option maxHeartbeats 400000 in
theorem refBin_43 (x y : Int) (h0 : 0 ≤ x) (h1 : x < 65536) (h2 : 0 ≤ y) (h3 : y < 65536) (w : World) : Calls Tryz.prog 104 #[.int .i64 43, .int .u16 x, .int .u16 y] w fun e w' => e = .returned (.tuple #[.int .u16 (binF 43 x y), .bool true]) ∧ w = w' := by
  have hr := sgn_rng x h0 h1
  have hs := sgn_rng y h2 h3
  have hv0 : IntKind.i64.wrap x = x := IntWalk.i64_in _ (by omega)
  have hv1 : IntKind.i64.wrap y = y := IntWalk.i64_in _ (by omega)
  go_enter Tryz.func104, Tryz.ntmps104
  go_wp2_with (first | (go_at_call 140; refine (refSigned_any _ _ (by assumption) (by assumption)).mono ?_; rintro e w' ⟨rfl, rfl⟩) | (go_at_call 141; refine (refCellN_any _ _).mono ?_; rintro e w' ⟨rfl, rfl⟩) | (go_at_call 143; refine (refFlag_any _ _).mono ?_; rintro e w' ⟨rfl, rfl⟩) | (go_at_call 167; refine (refQuot_any _ _ _ (by omega) (by omega) (by omega) (by omega) (by assumption)).mono ?_; rintro e w' ⟨rfl, rfl⟩))
  all_goals
    go_ret2
    exact ⟨rfl, rfl⟩
set_option maxHeartbeats 400000 in
theorem refBin_44 (x y : Int) (h0 : 0 ≤ x) (h1 : x < 65536) (h2 : 0 ≤ y) (h3 : y < 65536) (w : World) : Calls Tryz.prog 104 #[.int .i64 44, .int .u16 x, .int .u16 y] w fun e w' => e = .returned (.tuple #[.int .u16 (binF 44 x y), .bool true]) ∧ w = w' := by
  have hr := sgn_rng x h0 h1
  have hs := sgn_rng y h2 h3
  have hv0 : IntKind.i64.wrap x = x := IntWalk.i64_in _ (by omega)
  have hv1 : IntKind.i64.wrap y = y := IntWalk.i64_in _ (by omega)
  go_enter Tryz.func104, Tryz.ntmps104
  go_wp2_with (first | (go_at_call 140; refine (refSigned_any _ _ (by assumption) (by assumption)).mono ?_; rintro e w' ⟨rfl, rfl⟩) | (go_at_call 141; refine (refCellN_any _ _).mono ?_; rintro e w' ⟨rfl, rfl⟩) | (go_at_call 143; refine (refFlag_any _ _).mono ?_; rintro e w' ⟨rfl, rfl⟩) | (go_at_call 167; refine (refQuot_any _ _ _ (by omega) (by omega) (by omega) (by omega) (by assumption)).mono ?_; rintro e w' ⟨rfl, rfl⟩))
  all_goals
    go_ret2
    exact ⟨rfl, rfl⟩
set_option maxHeartbeats 400000 in
theorem refBin_45 (x y : Int) (h0 : 0 ≤ x) (h1 : x < 65536) (h2 : 0 ≤ y) (h3 : y < 65536) (w : World) : Calls Tryz.prog 104 #[.int .i64 45, .int .u16 x, .int .u16 y] w fun e w' => e = .returned (.tuple #[.int .u16 (binF 45 x y), .bool true]) ∧ w = w' := by
  have hr := sgn_rng x h0 h1
  have hs := sgn_rng y h2 h3
  have hv0 : IntKind.i64.wrap x = x := IntWalk.i64_in _ (by omega)
  have hv1 : IntKind.i64.wrap y = y := IntWalk.i64_in _ (by omega)
  go_enter Tryz.func104, Tryz.ntmps104
  go_wp2_with (first | (go_at_call 140; refine (refSigned_any _ _ (by assumption) (by assumption)).mono ?_; rintro e w' ⟨rfl, rfl⟩) | (go_at_call 141; refine (refCellN_any _ _).mono ?_; rintro e w' ⟨rfl, rfl⟩) | (go_at_call 143; refine (refFlag_any _ _).mono ?_; rintro e w' ⟨rfl, rfl⟩) | (go_at_call 167; refine (refQuot_any _ _ _ (by omega) (by omega) (by omega) (by omega) (by assumption)).mono ?_; rintro e w' ⟨rfl, rfl⟩))
  all_goals
    go_ret2
    exact ⟨rfl, rfl⟩
set_option maxHeartbeats 400000 in
theorem refBin_46 (x y : Int) (h0 : 0 ≤ x) (h1 : x < 65536) (h2 : 0 ≤ y) (h3 : y < 65536) (w : World) : Calls Tryz.prog 104 #[.int .i64 46, .int .u16 x, .int .u16 y] w fun e w' => e = .returned (.tuple #[.int .u16 (binF 46 x y), .bool true]) ∧ w = w' := by
  have hr := sgn_rng x h0 h1
  have hs := sgn_rng y h2 h3
  have hv0 : IntKind.i64.wrap x = x := IntWalk.i64_in _ (by omega)
  have hv1 : IntKind.i64.wrap y = y := IntWalk.i64_in _ (by omega)
  go_enter Tryz.func104, Tryz.ntmps104
  go_wp2_with (first | (go_at_call 140; refine (refSigned_any _ _ (by assumption) (by assumption)).mono ?_; rintro e w' ⟨rfl, rfl⟩) | (go_at_call 141; refine (refCellN_any _ _).mono ?_; rintro e w' ⟨rfl, rfl⟩) | (go_at_call 143; refine (refFlag_any _ _).mono ?_; rintro e w' ⟨rfl, rfl⟩) | (go_at_call 167; refine (refQuot_any _ _ _ (by omega) (by omega) (by omega) (by omega) (by assumption)).mono ?_; rintro e w' ⟨rfl, rfl⟩))
  all_goals
    go_ret2
    exact ⟨rfl, rfl⟩
set_option maxHeartbeats 400000 in
theorem refBin_47 (x y : Int) (h0 : 0 ≤ x) (h1 : x < 65536) (h2 : 0 ≤ y) (h3 : y < 65536) (w : World) : Calls Tryz.prog 104 #[.int .i64 47, .int .u16 x, .int .u16 y] w fun e w' => e = .returned (.tuple #[.int .u16 (binF 47 x y), .bool true]) ∧ w = w' := by
  have hr := sgn_rng x h0 h1
  have hs := sgn_rng y h2 h3
  have hv0 : IntKind.i64.wrap x = x := IntWalk.i64_in _ (by omega)
  have hv1 : IntKind.i64.wrap y = y := IntWalk.i64_in _ (by omega)
  go_enter Tryz.func104, Tryz.ntmps104
  go_wp2_with (first | (go_at_call 140; refine (refSigned_any _ _ (by assumption) (by assumption)).mono ?_; rintro e w' ⟨rfl, rfl⟩) | (go_at_call 141; refine (refCellN_any _ _).mono ?_; rintro e w' ⟨rfl, rfl⟩) | (go_at_call 143; refine (refFlag_any _ _).mono ?_; rintro e w' ⟨rfl, rfl⟩) | (go_at_call 167; refine (refQuot_any _ _ _ (by omega) (by omega) (by omega) (by omega) (by assumption)).mono ?_; rintro e w' ⟨rfl, rfl⟩))
  all_goals
    go_ret2
    exact ⟨rfl, rfl⟩
end Go.Proofs.YtdnalhjdmlkbmaaGreatDoor
namespace Go.Proofs.YtdnalhjdmlkbmaaGreatDoor
open Go.RowKit

def u8s (l : List Int) : List Value := l.map (.int .u8)
noncomputable abbrev bankZ : Array Value := Tryz.zeroCells200
noncomputable abbrev memZ : Array Value := Tryz.zeroCells171
set_option maxRecDepth 1000000 in
theorem bankZ_list : Tryz.zeroCells200.toList = u8s (List.replicate 16384 0) := by kernel_rfl
set_option maxRecDepth 1000000 in
theorem memZ_list : Tryz.zeroCells171.toList = [.map none] ++ u8s (List.replicate 19456 0) ++ [.int .u8 0, .int .u8 0, .int .u8 0, .int .u16 0, .int .u16 0, .int .i64 0, .slice none 0 0] := by kernel_rfl
end Go.Proofs.YtdnalhjdmlkbmaaGreatDoor
namespace Go.Proofs.YtdnalhjdmlkbmaaGreatDoor
open Go.RowKit

/-- Block B is a map with keys of kind q that holds these pairs, in the order in which they came. -/
def MapI (q : IntKind) (w : World) (B : Nat) (l : List (Int × Value)) : Prop :=
  ∃ es clk, w.heap[B]? = some (.map es clk) ∧ es.toList.map (fun e => (e.key, e.val)) = l.map (fun p => (Value.int q p.1, p.2)) ∧ MapKept.Stamped es clk
theorem MapI.lt {q : IntKind} {w : World} {B : Nat} {l : List (Int × Value)} (h : MapI q w B l) : B < w.heap.size := by
  obtain ⟨es, clk, h, _⟩ := h
  exact (Array.getElem?_eq_some_iff.1 h).1
theorem MapI.of_block {q : IntKind} {w w' : World} {B : Nat} {l : List (Int × Value)} (h : MapI q w B l) (hb : w'.heap[B]? = w.heap[B]?) : MapI q w' B l := by
  obtain ⟨es, clk, h1, h2⟩ := h
  exact ⟨es, clk, hb.trans h1, h2⟩
theorem MapI.made (q : IntKind) (w : World) : MapI q (w.alloc (.map #[] 0)) w.heap.size [] := ⟨#[], 0, heap_alloc_new w _, rfl, MapKept.stamped_empty 0⟩

/-- The value of a key; none. -/
def valI : List (Int × Value) → Int → Option Value
  | [], _ => none
  | p :: l, k => if p.1 = k then some p.2 else valI l k
theorem findNow_I (q : IntKind) (k : Int) : ∀ (es : List MapEntry) (l : List (Int × Value)) (i : Nat), es.map (fun e => (e.key, e.val)) = l.map (fun p => (Value.int q p.1, p.2)) →
    (valI l k = none → Instr.findNow (.int q) (.int q k) es i = some none) ∧ (∀ v, valI l k = some v → ∃ j, Instr.findNow (.int q) (.int q k) es i = some (some (j, v)))
  | [], [], i, _ => ⟨fun _ => rfl, fun v h => by cases h⟩
  | [], _ :: _, _, h => by simp at h
  | _ :: _, [], _, h => by simp at h
  | e :: es, p :: l, i, h => by
    simp only [List.map_cons, List.cons.injEq, Prod.mk.injEq] at h
    obtain ⟨⟨hk, hv⟩, ht⟩ := h
    obtain ⟨h1, h2⟩ := findNow_I q k es l (i + 1) ht
    unfold valI Instr.findNow
    rw [hk, ← hv]
    simp only [Instr.sameNow, if_true]
    by_cases he : p.1 = k
    · subst he
      simp
    · have hne : (k == p.1) = false := by simp; exact fun h => he h.symm
      rw [if_neg he, hne]
      exact ⟨h1, h2⟩
theorem valI_apart {k : Int} : ∀ {l : List (Int × Value)}, valI l k = none → ∀ p ∈ l, p.1 ≠ k
  | [], _, p, hp => by cases hp
  | a :: l, h, p, hp => by
    unfold valI at h
    by_cases e : a.1 = k
    · rw [if_pos e] at h; cases h
    · rw [if_neg e] at h
      rcases List.mem_cons.1 hp with rfl | hp
      · exact e
      · exact valI_apart h p hp
theorem keys_apart {q : IntKind} {k : Int} {es : List MapEntry} {l : List (Int × Value)} (hl : es.map (fun e => (e.key, e.val)) = l.map (fun p => (Value.int q p.1, p.2))) (hv : valI l k = none) : ∀ x ∈ es, x.key ≠ Value.int q k := by
  intro x hx e
  have h1 : (x.key, x.val) ∈ es.map (fun e => (e.key, e.val)) := List.mem_map.2 ⟨x, hx, rfl⟩
  rw [hl] at h1
  obtain ⟨p, hp, h2⟩ := List.mem_map.1 h1
  have h3 : Value.int q p.1 = x.key := congrArg (·.1) h2
  rw [e] at h3
  cases h3
  exact valI_apart hv p hp rfl
theorem checkKey_I {P : Program} {kt : TypeId} {q : IntKind} (hk : P.underlying kt = some (.int q)) (w : World) (x : Int) (em : Bool) : (Instr.checkKey em 10000 kt (.int q x)).run P w = .ok () w :=
  MapKept.run_checkKey hk (k := .int q x) (by simp [MapKept.IsKey]) em 9999
/-- v, ok := m[k]. -/
theorem lookup_I {P : Program} {t kt e : TypeId} {q : IntKind} (ht : P.underlying t = some (.map kt e)) (hk : P.underlying kt = some (.int q)) {w : World} {B : Nat} {l : List (Int × Value)} (h : MapI q w B l) (k : Int) (v : Value) (hv : valI l k = some v) :
    (Instr.lookup t (.map (some B)) (.int q k) true).run P w = .ok (.tuple #[v, .bool true]) w := by
  obtain ⟨es, clk, hb, hl, hst⟩ := h
  obtain ⟨j, hj⟩ := (findNow_I q k es.toList l 0 hl).2 v hv
  simp [Instr.lookup, run_underlying ht, MapKept.run_getObj_map hb, checkKey_I hk, MapKept.run_findKey hk hj, Result.andThen]
theorem lookup_I_no {P : Program} {t kt e : TypeId} {q : IntKind} (ht : P.underlying t = some (.map kt e)) (hk : P.underlying kt = some (.int q)) {w : World} {z : Value} (hz : (zeroValue e).run P w = .ok z w) {B : Nat} {l : List (Int × Value)} (h : MapI q w B l) (k : Int) (hv : valI l k = none) :
    (Instr.lookup t (.map (some B)) (.int q k) true).run P w = .ok (.tuple #[z, .bool false]) w := by
  obtain ⟨es, clk, hb, hl, hst⟩ := h
  have hj := (findNow_I q k es.toList l 0 hl).1 hv
  simp [Instr.lookup, run_underlying ht, MapKept.run_getObj_map hb, checkKey_I hk, MapKept.run_findKey hk hj, Result.andThen, hz]
/-- m[k] = v, at a new key. -/
theorem update_I {P : Program} {t kt e : TypeId} {q : IntKind} (ht : P.underlying t = some (.map kt e)) (hk : P.underlying kt = some (.int q)) {w : World} {B : Nat} {l : List (Int × Value)} (h : MapI q w B l) (k : Int) (v : Value) (hv : valI l k = none) :
    ∃ o, (Instr.mapUpdate t (.map (some B)) (.int q k) v).run P w = .ok () (w.putObj B o) ∧ MapI q (w.putObj B o) B (l ++ [(k, v)]) := by
  have hlt := h.lt
  obtain ⟨es, clk, hb, hl, hst⟩ := h
  have hj := (findNow_I q k es.toList l 0 hl).1 hv
  refine ⟨.map (es.push ⟨.int q k, v, clk⟩) (clk + 1), ?_, es.push ⟨.int q k, v, clk⟩, clk + 1, World.putObj_heap_same hlt, ?_, MapKept.stamped_push hst (keys_apart hl hv)⟩
  · simp [Instr.mapUpdate, run_underlying ht, MapKept.run_getObj_map hb, checkKey_I hk, MapKept.run_findKey hk hj, MapKept.run_setObj_map _ hb, Result.andThen, World.putObj]
  · simp [hl]
end Go.Proofs.YtdnalhjdmlkbmaaGreatDoor
namespace Go.Proofs.YtdnalhjdmlkbmaaGreatDoor
open Go.RowKit

/-- A slice that owns its cells, which begin a block of i's (or it is nil). -/
structure Row (e size : Nat) (w : World) (G : Nat → Nat) (i : Nat) (v : Value) (n : Nat) (xs : List Value) : Prop where
  row : w.ownsRow 0 e size v n xs
  own : Value.ownedBy G i v
theorem Row.adv {e size : Nat} {w w' : World} {G G' : Nat → Nat} {i : Nat} {v : Value} {n : Nat} {xs : List Value} {S : Nat → Prop} (h : Row e size w G i v n xs) (ha : Adv S w G w' G') (hs : ¬ S i) : Row e size w' G' i v n xs := by
  have hb : ∀ b, v.ownBlock = some b → b < w.heap.size := fun b e => (h.row.lt b e).2
  exact ⟨ownsRow_of_block h.row fun b e => ha.keep b (hb b e) (by rw [h.own b e]; exact hs), fun b e => by rw [ha.own b (hb b e)]; exact h.own b e⟩
theorem Row.nil (w : World) (G : Nat → Nat) (e size i : Nat) : Row e size w G i (.slice none 0 0) 0 [] := ⟨World.ownsRow_nil _ _ _ _, fun b e => by cases e⟩
theorem Row.nlen {e size : Nat} {w : World} {G : Nat → Nat} {i : Nat} {v : Value} {n : Nat} {xs : List Value} (h : Row e size w G i v n xs) : xs.length = n * size := h.row.1
/-- A new row that is full. -/
theorem Row.new (w : World) (G : Nat → Nat) (e size i n : Nat) (xs : List Value) (hn : n ≤ maxLen) (hx : xs.length = n * size) : Row e size (w.alloc (.cells xs.toArray e)) (own1 w G i) i (.slice (some ⟨w.heap.size, 0, none⟩) n n) n xs :=
  ⟨⟨hx, .inr ⟨w.heap.size, n, xs.toArray, rfl, Nat.zero_le _, heap_alloc_new w _, Nat.le_refl _, hn, by simpa using hx, by simp [← hx]⟩⟩, fun b e => by cases e; exact own1_new _ _ _⟩
theorem Row.slice {e size : Nat} {w : World} {G : Nat → Nat} {i : Nat} {v : Value} {n : Nat} {xs : List Value} (h : Row e size w G i v n xs) : ∃ a c, v = .slice a n c ∧ c ≤ maxLen ∧ n ≤ c ∧ (0 < n → ∃ g, a = some ⟨g, 0, none⟩) := by
  rcases h.row.2 with ⟨rfl, rfl⟩ | ⟨g, cap, cur, rfl, _, _, h1, h2, _⟩
  · exact ⟨none, 0, rfl, Nat.zero_le _, Nat.le_refl _, fun h => by omega⟩
  · exact ⟨_, cap, rfl, h2, h1, fun _ => ⟨g, rfl⟩⟩
theorem Row.reads {e size : Nat} {w : World} {G : Nat → Nat} {i : Nat} {a : Option Addr} {n c : Nat} {xs : List Value} (h : Row e size w G i (.slice a n c) n xs) : Reads w a xs := by
  rcases h.row.2 with ⟨e, h0⟩ | ⟨g, cap, cur, e, _⟩
  · have hl := h.nlen
    rw [h0, Nat.zero_mul] at hl
    exact .inl (List.eq_nil_of_length_eq_zero hl)
  · cases e
    refine .inr ⟨g, 0, rfl, fun j u hu => ?_⟩
    have := h.row.cells (g := g) rfl j u hu
    rwa [Addr.add_lit] at this
theorem Row.at {e size : Nat} {w : World} {G : Nat → Nat} {i g : Nat} {n c : Nat} {xs : List Value} (h : Row e size w G i (.slice (some ⟨g, 0, none⟩) n c) n xs) (hn : 0 < n) : g < w.heap.size ∧ G g = i ∧ (∀ j, w.frozen? ⟨g, j, none⟩ = false) ∧ (∀ j u, xs[j]? = some u → w.cell? ⟨g, j, none⟩ = some u) := by
  rcases h.row.2 with ⟨e, h0⟩ | ⟨g', cap, cur, e, _, hg, _⟩
  · omega
  · cases e
    refine ⟨(h.row.lt g rfl).2, h.own g rfl, fun j => by simp [World.frozen?, hg], fun j u hu => ?_⟩
    have := h.row.cells (g := g) rfl j u hu
    rwa [Addr.add_lit, Nat.zero_add] at this
/-- One cell is written. -/
theorem Row.store {e size : Nat} {w : World} {G : Nat → Nat} {i g : Nat} {c n : Nat} {xs : List Value} (h : Row e size w G i (.slice (some ⟨g, 0, none⟩) n c) n xs) (j : Nat) (hj : j < xs.length) (u : Value) :
    Adv (· = i) w G (w.setCell ⟨g, j, none⟩ u) G ∧ Row e size (w.setCell ⟨g, j, none⟩ u) G i (.slice (some ⟨g, 0, none⟩) n c) n (xs.set j u) := by
  have hlen := h.nlen
  have hpos : 0 < n := by rcases Nat.eq_zero_or_pos n with h0 | h0
                          · rw [h0, Nat.zero_mul] at hlen; omega
                          · exact h0
  obtain ⟨g', cap', cur, e1, hbg, hg, hnc, hcm, hcs, htake⟩ := h.row.2.resolve_left (by rintro ⟨h1, h2⟩; omega)
  obtain ⟨rfl, _, rfl⟩ : g = g' ∧ n = n ∧ c = cap' := by simpa using e1
  refine ⟨(Adv.refl _ w G).setCell (p := ⟨g, j, none⟩) (h.own g rfl) _, ⟨⟨by simpa using hlen, .inr ⟨g, c, cur.setIfInBounds j u, rfl, hbg, ?_, hnc, hcm, by simpa using hcs, ?_⟩⟩, h.own⟩⟩
  · simp only [World.setCell, Array.getElem?_modify, hg]; simp
  · rw [← htake, Array.toList_setIfInBounds, List.take_set]
theorem Row.appended {e size : Nat} {w w1 : World} {G : Nat → Nat} {i : Nat} {v v' : Value} {n m : Nat} {xs ys : List Value} (h : Row e size w G i v n xs) (hown : w1.ownsRow 0 e size v' m ys)
    (hg : w.grownBy w1 v.ownBlock) (hv : v'.ownBlock = v.ownBlock ∨ v'.ownBlock = some w.heap.size) : Adv (· = i) w G w1 (newTo w G i) ∧ Row e size w1 (newTo w G i) i v' m ys := by
  refine ⟨Adv.ofGrown hg h.own, hown, fun b e => ?_⟩
  rcases hv with x | x
  · rw [x] at e; rw [newTo_old (h.row.lt b e).2]; exact h.own b e
  · rw [x] at e; simp at e; exact newTo_new (by omega)

theorem run_append_nothing {P : Program} (w : World) (t ty e : TypeId) (i : TypeInfo) (ht : P.underlying t = some (.slice e)) (hi : P.info? e = some i) (va : Option Addr) (n vc c : Nat) (h : n ≤ vc) :
    (Builtin.append_ #[t, t] ty #[.slice va n vc, .slice none 0 c]).run P w = .ok (.slice va n vc) w := by
  cases va <;> simp [Builtin.append_, run_underlying ht, sizeOf, typeInfo, hi, Builtin.lenOf, Builtin.firstCells, h, storeCells]

/-- append of whatever is read. -/
theorem wpList_append_reads {P : Program} {w : World} {ops : Array Oper} {rest : List Oper} {o : Oper} {a : Act} {Q : Exit → Act → World → Prop} (hgd : o.guard = none) (s x : Operand) (t : TypeId)
    (ho : o.op = .call { callee := .builtin .append, args := #[s, x], argTypes := #[t, t] })
    (e : TypeId) (ti : TypeInfo) (z : Value) (size bytes : Nat) (ht : P.underlying t = some (.slice e)) (hi : P.info? e = some ti) (hz : ti.zero = some z)
    (hsize : ti.size = size) (hby : ti.bytes = bytes) (hzs : z.cells.size = size) (hsz : 0 < size)
    (G : Nat → Nat) (i : Nat) (va : Option Addr) (n vc : Nat) (xs : List Value) (hs : a.eval s = .slice va n vc) (hrow : Row e size w G i (.slice va n vc) n xs)
    (xa : Option Addr) (m c : Nat) (news : List Value) (hx : a.eval x = .slice xa m c) (hl : news.length = m * size) (hnews : Reads w xa news) (h1 : ∀ u ∈ news, u.oneCell' = true)
    (h63 : n + m ≤ maxLen) (hbytes : (n + m) * bytes ≤ 140737488355328)
    (h : ∀ va' vc' w' G', Row e size w' G' i (.slice va' (n + m) vc') (n + m) (xs ++ news) → Adv (· = i) w G w' G' → wpList P ops Q rest (a.put o.dst (.slice va' (n + m) vc')) w') :
    wpList P ops Q (o :: rest) a w := by
  by_cases hm : m = 0 ∧ xa = none
  · obtain ⟨rfl, rfl⟩ := hm
    obtain rfl : news = [] := List.eq_nil_of_length_eq_zero (by simpa using hl)
    refine wpList_plain hgd fun K hK => ?_
    have hnc : n ≤ vc := by
      obtain ⟨a', c', e1, _, h2, _⟩ := hrow.slice
      cases e1; exact h2
    have hr := run_append_nothing (P := P) w t o.type e ti ht hi va n vc c hnc
    unfold Oper.wp execOp
    simp only [ho, resolve, invoke, builtin, Sem.run_bind, Sem.run_pure, Result.andThen_ok, List.map_toArray, List.map_cons, List.map_nil, hs, hx, hr]
    refine hK _ _ ?_
    have h2 := h va vc w G (by simpa using hrow) (Adv.refl _ _ _)
    simpa using h2
  · obtain ⟨ad, rfl, hn2⟩ : ∃ ad, xa = some ad ∧ ∀ j u, news[j]? = some u → w.cell? (ad.add j) = some u := by
      rcases hnews with rfl | ⟨b, o, rfl, hr⟩
      · cases xa with
        | none =>
          exfalso
          apply hm
          refine ⟨?_, rfl⟩
          rcases Nat.eq_zero_or_pos m with h | h
          · exact h
          · exfalso
            have : 0 < m * size := Nat.mul_pos h hsz
            simp at hl; omega
        | some ad => exact ⟨ad, rfl, fun j u hu => by simp at hu⟩
      · exact ⟨_, rfl, Reads.add hr⟩
    refine wpList_append_own2 hgd s x t ho e ti z size bytes ht hi hz hsize hby hzs hsz va n vc xs hs hrow.row ad m c news hx hl hn2 h1 h63 hbytes fun va' vc' w' h2 h3 h4 => ?_
    obtain ⟨h5, h6⟩ := hrow.appended h2 h3 h4
    exact h va' vc' w' _ h6 h5
#print axioms wpList_append_reads
end Go.Proofs.YtdnalhjdmlkbmaaGreatDoor
namespace Go.Proofs.YtdnalhjdmlkbmaaGreatDoor
open Go.RowKit

/-- All that a memory holds. -/
structure MemS where
  banks : List (Int × List Int)
  ram : List Int
  screen : List Int
  chosen : Int
  pad : Int
  volume : Int
  pitch : Int
  time : Int
  cycle : Int
  tones : List (Int × Int × Int)
def tonesC (l : List (Int × Int × Int)) : List Value := l.flatMap fun t => [.int .i64 t.1, .int .u16 t.2.1, .int .u8 t.2.2]
def headC (B : Nat) (M : MemS) (tv : Value) : List Value :=
  [.map (some B)] ++ u8s M.ram ++ u8s M.screen ++ [.int .u8 M.chosen, .int .u8 M.pad, .int .u8 M.volume, .int .u16 M.pitch, .int .u16 M.time, .int .i64 M.cycle, tv]
def bankL (M : MemS) (bs : List Nat) : List (Int × Value) := List.zipWith (fun p b => (p.1, Value.pointer (some ⟨b, 0, none⟩))) M.banks bs
/-- Block D is the program's memory M: its map is block B, its banks' bytes lie in the blocks bs, its tones are tv. -/
structure PMx (w : World) (G : Nat → Nat) (i D B : Nat) (bs : List Nat) (tv : Value) (M : MemS) : Prop where
  head : ∃ C, w.heap[D]? = some (.cells C 171 (0, 0)) ∧ C.toList = headC B M tv
  hown : G D = i
  map : MapI .u8 w B (bankL M bs)
  mown : G B = i
  blen : bs.length = M.banks.length
  bank : ∀ (k : Nat) (p : Int × List Int) (b : Nat), M.banks[k]? = some p → bs[k]? = some b → (∃ C, w.heap[b]? = some (.cells C 200 (0, 0)) ∧ C.toList = u8s p.2) ∧ G b = i
  tones : Row 152 3 w G i tv M.tones.length (tonesC M.tones)
  nodup : bs.Nodup
  ne : D ∉ bs
  net : tv.ownBlock ≠ some D
  neb : ∀ b, b ∈ bs → tv.ownBlock ≠ some b
def PM (w : World) (G : Nat → Nat) (i D : Nat) (M : MemS) : Prop := ∃ B bs tv, PMx w G i D B bs tv M
theorem PMx.lt {w : World} {G : Nat → Nat} {i D B : Nat} {bs : List Nat} {tv : Value} {M : MemS} (h : PMx w G i D B bs tv M) : D < w.heap.size := by
  obtain ⟨C, h, _⟩ := h.head
  exact (Array.getElem?_eq_some_iff.1 h).1
theorem PMx.adv {w w' : World} {G G' : Nat → Nat} {i D B : Nat} {bs : List Nat} {tv : Value} {M : MemS} {S : Nat → Prop} (h : PMx w G i D B bs tv M) (ha : Adv S w G w' G') (hs : ¬ S i) : PMx w' G' i D B bs tv M := by
  refine ⟨?_, (ha.own _ h.lt).trans h.hown, h.map.of_block (ha.keep B h.map.lt (by rw [h.mown]; exact hs)), (ha.own _ h.map.lt).trans h.mown, h.blen, ?_, h.tones.adv ha hs, h.nodup, h.ne, h.net, h.neb⟩
  · obtain ⟨C, h1, h2⟩ := h.head
    exact ⟨C, (ha.keep D h.lt (by rw [h.hown]; exact hs)).trans h1, h2⟩
  · intro k p b hp hb
    obtain ⟨⟨C, h1, h2⟩, h3⟩ := h.bank k p b hp hb
    have hl : b < w.heap.size := (Array.getElem?_eq_some_iff.1 h1).1
    exact ⟨⟨C, (ha.keep b hl (by rw [h3]; exact hs)).trans h1, h2⟩, (ha.own b hl).trans h3⟩
theorem PM.adv {w w' : World} {G G' : Nat → Nat} {i D : Nat} {M : MemS} {S : Nat → Prop} (h : PM w G i D M) (ha : Adv S w G w' G') (hs : ¬ S i) : PM w' G' i D M := by
  obtain ⟨B, bs, tv, h⟩ := h
  exact ⟨B, bs, tv, h.adv ha hs⟩
/-- A new memory with banks of these bytes. -/
def newM (l : List (Int × List Int)) : MemS :=
  { banks := l.map fun p => (p.1, p.2 ++ List.replicate (16384 - p.2.length) 0), ram := List.replicate 16384 0, screen := List.replicate 3072 0, chosen := 0, pad := 0, volume := 0, pitch := 0, time := 0, cycle := 0, tones := [] }
theorem u8s_append (l m : List Int) : u8s (l ++ m) = u8s l ++ u8s m := List.map_append
theorem u8s_length (l : List Int) : (u8s l).length = l.length := List.length_map _
theorem u8s_one (l : List Int) : ∀ u ∈ u8s l, u.oneCell' = true := by
  intro u hu
  simp only [u8s, List.mem_map] at hu
  obtain ⟨x, _, rfl⟩ := hu; rfl
theorem u8s_at (l : List Int) (k : Nat) (x : Int) (h : l[k]? = some x) : (u8s l)[k]? = some (.int .u8 x) := by simp [u8s, h]
theorem head_set (B : Nat) (l m : List Int) (r : List Value) : ([Value.map none] ++ u8s (l ++ m) ++ r).set 0 (.map (some B)) = [.map (some B)] ++ u8s l ++ u8s m ++ r := by
  simp [u8s]
theorem head_new (B : Nat) : ([Value.map none] ++ u8s (List.replicate (16384 + 3072) 0) ++ ([.int .u8 0, .int .u8 0, .int .u8 0, .int .u16 0, .int .u16 0, .int .i64 0, .slice none 0 0] : List Value)).set 0 (.map (some B)) = headC B (newM []) (.slice none 0 0) := by
  rw [← List.replicate_append_replicate, head_set]
  rfl
theorem memZ_head (B : Nat) : (Tryz.zeroCells171.setIfInBounds 0 (.map (some B))).toList = headC B (newM []) (.slice none 0 0) := by
  rw [Array.toList_setIfInBounds, memZ_list]
  exact head_new B
/-- A memory without banks, just made. -/
theorem PMx.made (w : World) (G : Nat → Nat) (i : Nat) :
    PMx ((w.alloc (.map #[] 0)).alloc (.cells (Tryz.zeroCells171.setIfInBounds 0 (.map (some w.heap.size))) 171)) (own1 (w.alloc (.map #[] 0)) (own1 w G i) i) i (w.heap.size + 1) w.heap.size [] (.slice none 0 0) (newM []) := by
  refine ⟨⟨_, heap_at _ _ _ (by simp), memZ_head _⟩, by simp [own1], ?_, by simp [own1], rfl, (fun k p b h => by rw [show (newM []).banks = [] from rfl] at h; cases h), ⟨World.ownsRow_nil _ _ _ _, fun b e => by cases e⟩, List.nodup_nil, List.not_mem_nil, (fun e => by cases e), fun b h => by simp at h⟩
  exact (MapI.made .u8 w).of_block (heap_past _ _ _ (by simp))
/-- Slices of banks as they come in. -/
def BankIn (w : World) (la : Option Addr) (l : List (Int × List Int)) : Prop :=
  ∀ (k : Nat) (p : Int × List Int), l[k]? = some p → ∃ b o da dc, la = some ⟨b, o, none⟩ ∧ w.cell? ⟨b, o + k * 2, none⟩ = some (.int .i64 p.1) ∧ w.cell? ⟨b, o + k * 2 + 1, none⟩ = some (.slice da p.2.length dc) ∧ Reads w da (u8s p.2)
end Go.Proofs.YtdnalhjdmlkbmaaGreatDoor
namespace Go.Proofs.YtdnalhjdmlkbmaaGreatDoor
open Go.RowKit

/-- May the banks be? -/
def mayGo : Int → List (Int × List Int) → Bool
  | _, [] => true
  | last, p :: l => decide (last < p.1 ∧ p.1 < 16 ∧ p.2.length ≤ 16384) && mayGo p.1 l
def mayBanks (l : List (Int × List Int)) : Bool := mayGo (-1) l

theorem may_go : ∀ (l : List (Int × List Int)) (last : Int), mayGo last l = true → ∀ (k : Nat) (p : Int × List Int), l[k]? = some p →
    (((l.take k).getLast?.map (·.1)).getD last) < p.1 ∧ last < p.1 ∧ p.1 < 16 ∧ p.2.length ≤ 16384 ∧ ∀ q ∈ l.take k, q.1 < p.1
  | [], _, _, k, p, h => by simp at h
  | a :: l, last, hm, k, p, h => by
    simp only [mayGo, Bool.and_eq_true, decide_eq_true_eq] at hm
    obtain ⟨⟨h1, h2, h3⟩, h4⟩ := hm
    cases k with
    | zero => simp at h; subst h; exact ⟨by simpa using h1, h1, h2, h3, by simp⟩
    | succ k =>
      obtain ⟨g1, g2, g3, g4, g5⟩ := may_go l a.1 h4 k p (by simpa using h)
      refine ⟨?_, by omega, g3, g4, fun q hq => ?_⟩
      · cases ht : l.take k with
        | nil => simpa [ht] using g2
        | cons b m =>
          rw [ht] at g1
          have hz : (b :: m).getLast? = some ((b :: m).getLast (by simp)) := List.getLast?_eq_some_getLast (by simp)
          rw [hz] at g1
          rw [List.take_succ_cons, ht, List.getLast?_cons_cons, hz]
          exact g1
      · rw [List.take_succ_cons, List.mem_cons] at hq
        rcases hq with rfl | hq
        · exact g2
        · exact g5 q hq
def lastN (l : List (Int × List Int)) : Int := ((l.getLast?.map (·.1)).getD (-1))
theorem lastN_snoc (l : List (Int × List Int)) (k : Nat) (p : Int × List Int) (h : l[k]? = some p) : lastN (l.take (k + 1)) = p.1 := by
  rw [List.take_add_one, h]; simp [lastN]

theorem copy_into {P : Program} (w : World) (dT sT elem : TypeId) (g n dc : Nat) (cur : Array Value) (t : TypeId) (xs : List Value) (sa : Option Addr) (m sc : Nat) (hu : P.underlying dT = some (.slice elem)) (hs : (P.info? elem).map (·.size) = some 1)
    (hg : w.heap[g]? = some (.cells cur t (0, 0))) (hl : xs.length = m) (hm : m ≤ n) (hn : n ≤ cur.size) (hr : Reads w sa xs) (h1 : ∀ u ∈ xs, u.oneCell' = true) :
    ∃ w', (∀ ty, (Builtin.copy_ #[dT, sT] ty #[.slice (some ⟨g, 0, none⟩) n dc, .slice sa m sc]).run P w = .ok (goInt m) w') ∧ w'.heap[g]? = some (.cells (xs ++ cur.toList.drop m).toArray t (0, 0)) ∧
      (∀ k, k ≠ g → w'.heap[k]? = w.heap[k]?) ∧ w'.heap.size = w.heap.size ∧ w'.os = w.os ∧ w'.tape = w.tape ∧ w'.output = w.output := by
  rcases hr with rfl | ⟨b, o, rfl, hr⟩
  · obtain rfl : m = 0 := by simpa using hl.symm
    refine ⟨w, fun ty => run_copy_none w dT sT ty elem _ sa n dc 0 sc hu hs (by simp), ?_, fun _ _ => rfl, rfl, rfl, rfl, rfl⟩
    simpa using hg
  · have hmin : xs.length = Nat.min m n := by rw [hl]; exact (Nat.min_eq_left hm).symm
    have hrun := fun ty => run_copy_row (P := P) w dT sT ty elem g 0 n dc ⟨b, o, none⟩ m sc cur t xs hu hs hg hmin (Reads.add hr) (by omega) h1
    have he : (cur.toList.take 0 ++ xs ++ cur.toList.drop (0 + xs.length)).toArray = (xs ++ cur.toList.drop m).toArray := by simp [hl]
    rw [hl] at hrun
    refine ⟨_, hrun, ?_, fun k hk => setRow_other _ _ _ _ hk, ?_, rfl, rfl, rfl⟩
    · rw [setRow_heap _ _ cur _ t (0, 0) hg]; rw [← he, hl]
    · simp [World.setRow]

/-- Another block that was made since has changed. -/
theorem Adv.newBlock {S : Nat → Prop} {w w' w'' : World} {G G' : Nat → Nat} (h : Adv S w G w' G') (b : Nat) (hb : w.heap.size ≤ b) (hk : ∀ k, k ≠ b → w''.heap[k]? = w'.heap[k]?) (hz : w''.heap.size = w'.heap.size) (h1 : w''.os = w'.os) (h2 : w''.tape = w'.tape) (h3 : w''.output = w'.output) : Adv S w G w'' G' :=
  ⟨h1.trans h.os, h2.trans h.tape, h3.trans h.output, by rw [hz]; exact h.size, h.own, fun k hl hs => (hk k (by omega)).trans (h.keep k hl hs)⟩
theorem newM_snoc (l : List (Int × List Int)) (k : Nat) (p : Int × List Int) (h : l[k]? = some p) : (newM (l.take (k + 1))).banks = (newM (l.take k)).banks ++ [(p.1, p.2 ++ List.replicate (16384 - p.2.length) 0)] := by
  simp only [newM]
  rw [List.take_add_one, h]; simp
/-- A bank more. -/
theorem PMx.more {w w1 w2 : World} {G : Nat → Nat} {i D B : Nat} {bs : List Nat} {l : List (Int × List Int)} {k : Nat} {p : Int × List Int} (h : PMx w G i D B bs (.slice none 0 0) (newM (l.take k))) (hp : l[k]? = some p) (b : Nat) (hb1 : b ∉ bs) (hb2 : b ≠ D) (hG : G b = i)
    (hw : ∀ j, j ≠ b → j < w.heap.size → w1.heap[j]? = w.heap[j]?) (hbl : w.heap.size ≤ b) (hc : ∃ C, w1.heap[b]? = some (.cells C 200 (0, 0)) ∧ C.toList = u8s (p.2 ++ List.replicate (16384 - p.2.length) 0))
    (hw2 : ∀ j, j ≠ B → w2.heap[j]? = w1.heap[j]?) (hm : MapI .u8 w2 B (bankL (newM (l.take k)) bs ++ [(p.1, .pointer (some ⟨b, 0, none⟩))])) :
    PMx w2 G i D B (bs ++ [b]) (.slice none 0 0) (newM (l.take (k + 1))) := by
  have hDB : D ≠ B := by
    rintro rfl
    obtain ⟨C, h1, _⟩ := h.head
    obtain ⟨es, clk, h2, _⟩ := h.map
    rw [h1] at h2; cases h2
  have hbB : b ≠ B := by have := h.map.lt; omega
  have e := newM_snoc l k p hp
  refine ⟨?_, h.hown, ?_, h.mown, ?_, ?_, ?_, ?_, ?_, (fun e => by cases e), (fun b hb e => by cases e)⟩
  · obtain ⟨C, h1, h2⟩ := h.head
    exact ⟨C, (hw2 D hDB).trans ((hw D (fun e => hb2 e.symm) h.lt).trans h1), h2⟩
  · have e2 : bankL (newM (l.take (k + 1))) (bs ++ [b]) = bankL (newM (l.take k)) bs ++ [(p.1, .pointer (some ⟨b, 0, none⟩))] := by
      unfold bankL
      rw [e, List.zipWith_append h.blen.symm]; rfl
    rw [e2]; exact hm
  · rw [e, List.length_append, List.length_append, h.blen]; rfl
  · intro j q c hq hc2
    rw [e] at hq
    by_cases hj : j < bs.length
    · rw [List.getElem?_append_left (by rw [← h.blen]; exact hj)] at hq
      rw [List.getElem?_append_left hj] at hc2
      obtain ⟨⟨C, h1, h2⟩, h3⟩ := h.bank j q c hq hc2
      have hcl : c < w.heap.size := (Array.getElem?_eq_some_iff.1 h1).1
      have hcB : c ≠ B := by
        rintro rfl
        obtain ⟨es, clk, h4, _⟩ := h.map
        rw [h1] at h4; cases h4
      exact ⟨⟨C, (hw2 c hcB).trans ((hw c (by omega) hcl).trans h1), h2⟩, h3⟩
    · rw [List.getElem?_append_right (by rw [← h.blen]; omega)] at hq
      rw [List.getElem?_append_right (by omega)] at hc2
      have hj0 : j - bs.length = 0 := by
        rcases Nat.eq_zero_or_pos (j - bs.length) with h0 | h0
        · exact h0
        · rw [List.getElem?_eq_none (by simp; omega)] at hc2; cases hc2
      rw [hj0] at hc2
      rw [← h.blen, hj0] at hq
      simp at hc2 hq
      subst hc2; subst hq
      obtain ⟨C, h1, h2⟩ := hc
      exact ⟨⟨C, (hw2 _ hbB).trans h1, h2⟩, hG⟩
  · exact ⟨World.ownsRow_nil _ _ _ _, fun b e => by cases e⟩
  · rw [List.nodup_append]
    exact ⟨h.nodup, by simp, fun x hx y hy => by simp at hy; subst hy; exact fun e => hb1 (e ▸ hx)⟩
  · rw [List.mem_append]; rintro (hh | hh)
    · exact h.ne hh
    · simp at hh; exact hb2 hh.symm
end Go.Proofs.YtdnalhjdmlkbmaaGreatDoor
namespace Go.Proofs.YtdnalhjdmlkbmaaGreatDoor
open Go.RowKit
set_option linter.unusedVariables false

theorem valI_none : ∀ (l : List (Int × Value)) (k : Int), (∀ x ∈ l, x.1 ≠ k) → valI l k = none
  | [], _, _ => rfl
  | p :: l, k, h => by
    unfold valI
    rw [if_neg (h p List.mem_cons_self)]
    exact valI_none l k fun x hx => h x (List.mem_cons_of_mem _ hx)
theorem bankL_keys (l : List (Int × List Int)) (bs : List Nat) : ∀ x ∈ bankL (newM l) bs, ∃ q ∈ l, q.1 = x.1 := by
  intro x hx
  unfold bankL newM at hx
  simp only at hx
  obtain ⟨i, hi⟩ := List.getElem?_of_mem hx
  rw [List.getElem?_zipWith] at hi
  cases h1 : (l.map fun p => (p.1, p.2 ++ List.replicate (16384 - p.2.length) 0))[i]? with
  | none => rw [h1] at hi; simp at hi
  | some a =>
    cases h2 : bs[i]? with
    | none => rw [h1, h2] at hi; simp at hi
    | some b =>
      rw [h1, h2] at hi
      simp only [Option.some.injEq] at hi
      rw [List.getElem?_map] at h1
      cases h3 : l[i]? with
      | none => rw [h3] at h1; simp at h1
      | some q =>
        rw [h3] at h1
        simp only [Option.map_some, Option.some.injEq] at h1
        exact ⟨q, List.mem_of_getElem? h3, by rw [← hi, ← h1]⟩
theorem info_u8 : (Tryz.prog.info? 5).map (·.size) = some 1 := by kernel_rfl
set_option maxRecDepth 100000 in
set_option maxHeartbeats 1000000 in
theorem new_ok (G : Nat → Nat) (i : Nat) (_hi : i ≠ 0) (la : Option Addr) (n c : Nat) (l : List (Int × List Int)) (hn : l.length = n) (hn2 : n ≤ 1000000) (hmay : mayBanks l = true) (w : World)
    (hin : ∀ (w' : World) (G' : Nat → Nat), Adv (fun _ => False) w G w' G' → BankIn w' la l) :
    Calls Tryz.prog 50 #[.slice la n c] w fun e w' => ∃ D G', e = .returned (.tuple #[.pointer (some ⟨D, 0, none⟩), .int .i64 0]) ∧ Adv (fun _ => False) w G w' G' ∧ PM w' G' i D (newM l) := by
  have hmm := @run_makeMap Tryz.prog
  have hz := Tryz.zeroCells200_size
  have HP := Lib.hid (PMx.made w G i)
  have HI := Lib.hid hin
  have HN := Lib.hid hn
  have HM := Lib.hid (may_go l (-1) hmay)
  have HA := Lib.hid (((Adv.refl (fun _ => False) w G).alloc (.map #[] 0) i).alloc (.cells (Tryz.zeroCells171.setIfInBounds 0 (.map (some w.heap.size))) 171) i)
  clear hin hn hmay
  go_enter Tryz.func50, Tryz.ntmps50
  go_wp2_with fail
  go_loopw [5, 14] (fun v5 v14 wr => ∃ k : Nat, k ≤ n ∧ v14 = .int .i64 k ∧ v5 = .int .i64 (lastN (l.take k)) ∧ ∃ Gr bs, Adv (fun _ => False) w G wr Gr ∧ PMx wr Gr i (w.heap.size + 1) w.heap.size bs (.slice none 0 0) (newM (l.take k))) (fun _ v _ => n - (intOf v).toNat)
  case atStart => exact ⟨0, Nat.zero_le _, rfl, rfl, _, [], HA.out, HP.out⟩
  case round =>
    obtain ⟨k, hk, rfl, rfl, Gr, bs, h1, h2⟩ := hrel
    by_cases hlt : k < n
    · obtain ⟨p, hp⟩ : ∃ p, l[k]? = some p := ⟨l[k]'(by rw [HN.out]; exact hlt), by simp⟩
      obtain ⟨m1, m2, m3, m4, m5⟩ := HM.out k p hp
      have m1' : decide (p.1 ≤ lastN (l.take k)) = false := decide_eq_false (by unfold lastN; omega)
      have m3' : decide (16 ≤ p.1) = false := by simp; omega
      have m4' : decide (16384 < (p.2.length : Int)) = false := by simp; omega
      obtain ⟨b, o, da, dc, hla, c1, c2, hr⟩ := HI.out wr Gr h1 k p hp
      have hb := World.block_lt_of_cell? wr _ c1
      rw [hla]
      have HP1 := Lib.hid h2
      have HA1 := Lib.hid h1
      have HK := Lib.hid hp
      have HR := Lib.hid hr
      have hBl := h2.map.lt
      have hDl := h2.lt
      have M5 := Lib.hid m5
      clear h1 h2 hp hr m1 m5
      obtain ⟨W1, hcp, hg1, hk1, hz1, ho1, ht1, hu1⟩ := copy_into (P := Tryz.prog) ((wr.alloc (.cells #[.int .i64 p.1, .slice da p.2.length dc] 47)).alloc (.cells Tryz.zeroCells200 200)).drew 30 30 5 (wr.heap.size + 1) 16384 16384 Tryz.zeroCells200 200 (u8s p.2) da p.2.length dc Tryz.underlying30 info_u8
        (heap_at _ _ _ (by simp)) (u8s_length _) m4 (by rw [hz]; omega) ((HR.out.alloc _).alloc _) (u8s_one _)
      have HG1 := Lib.hid hg1
      have HK1 := Lib.hid hk1
      have HZ1 := Lib.hid (And.intro hz1 (And.intro ho1 (And.intro ht1 hu1)))
      clear hg1 hk1 hz1 ho1 ht1 hu1
      go_wp2_with fail
      go_region
      have hD1 : W1.heap[w.heap.size + 1]? = wr.heap[w.heap.size + 1]? := (HK1.out _ (by omega)).trans ((heap_past _ _ _ (by simp; omega)).trans (heap_past _ _ _ (by omega)))
      have hB1 : W1.heap[w.heap.size]? = wr.heap[w.heap.size]? := (HK1.out _ (by omega)).trans ((heap_past _ _ _ (by simp; omega)).trans (heap_past _ _ _ (by omega)))
      obtain ⟨C, hC, hCl⟩ := HP1.out.head
      have cD : W1.cell? ⟨w.heap.size + 1, 0, none⟩ = some (.map (some w.heap.size)) := block_cell (hD1.trans hC) 0 _ (by rw [← Array.getElem?_toList, hCl]; rfl)
      have cb : W1.cell? ⟨wr.heap.size, 0, none⟩ = some (.int .i64 p.1) := block_cell (C := #[.int .i64 p.1, .slice da p.2.length dc]) (T := 47) ((HK1.out _ (by omega)).trans ((heap_past _ _ _ (by simp)).trans (heap_at _ _ _ rfl))) 0 _ rfl
      have hv : valI (bankL (newM (l.take k)) bs) p.1 = none := valI_none _ _ fun x hx => by
        obtain ⟨q, hq, e⟩ := bankL_keys _ _ x hx
        have := M5.out q hq
        omega
      obtain ⟨ob, hup, hm2⟩ := update_I (P := Tryz.prog) Tryz.underlying166 Tryz.underlying5 (w := W1.drew) (HP1.out.map.of_block hB1) p.1 (.pointer (some ⟨wr.heap.size + 1, 0, none⟩)) hv
      have HM2 := Lib.hid hm2
      have HD1 := Lib.hid hD1
      have HB1 := Lib.hid hB1
      clear hC hCl hD1 hB1 hm2 hv
      go_wp2_with fail
      go_region
      obtain ⟨G2, hG2⟩ : ∃ G2, G2 = own1 (wr.alloc (.cells #[.int .i64 p.1, .slice da p.2.length dc] 47)) (own1 wr Gr 1000) i := ⟨_, rfl⟩
      have hA0 := (HA1.out.alloc (.cells #[.int .i64 p.1, .slice da p.2.length dc] 47) 1000).alloc (.cells Tryz.zeroCells200 200) i
      rw [← hG2] at hA0
      have hws := HA1.out.size
      have hZ := HZ1.out
      have hA2 := (hA0.drew.newBlock (w'' := W1) (wr.heap.size + 1) (by omega) HK1.out hZ.1 hZ.2.1 hZ.2.2.1 hZ.2.2.2).drew.newBlock (w'' := W1.drew.putObj w.heap.size ob) w.heap.size (Nat.le_refl _) (fun j hj => World.putObj_heap_other hj) (by simp [World.putObj]) rfl rfl rfl
      have hP0 : PMx wr G2 i (w.heap.size + 1) w.heap.size bs (.slice none 0 0) (newM (l.take k)) := HP1.out.adv (S := fun _ => False) (G' := G2)
        ⟨rfl, rfl, rfl, Nat.le_refl _, fun b hb => by rw [hG2, own1_old (by simp; omega), own1_old hb], fun _ _ _ => rfl⟩ id
      have hbs : wr.heap.size + 1 ∉ bs := fun hm => by
        obtain ⟨j, hj⟩ := List.getElem?_of_mem hm
        have hjl : j < bs.length := (List.getElem?_eq_some_iff.1 hj).1
        obtain ⟨q, hq⟩ : ∃ q, (newM (l.take k)).banks[j]? = some q := ⟨_, List.getElem?_eq_getElem (by rw [← HP1.out.blen]; exact hjl)⟩
        obtain ⟨⟨C, hC, _⟩, _⟩ := HP1.out.bank j q _ hq hj
        have := (Array.getElem?_eq_some_iff.1 hC).1
        omega
      have hP2 := hP0.more (w1 := W1) (w2 := W1.drew.putObj w.heap.size ob) HK.out (wr.heap.size + 1) hbs (by omega) (by rw [hG2]; simp [own1])
        (fun j hj hl => (HK1.out j hj).trans ((heap_past _ _ _ (by simp; omega)).trans (heap_past _ _ _ hl))) (by omega)
        ⟨_, HG1.out, by
          rw [bankZ_list, u8s_append]
          simp only [u8s]
          congr 1
          rw [← List.map_drop, List.drop_replicate]⟩ (fun j hj => World.putObj_heap_other hj) HM2.out
      have hlast := lastN_snoc l k p HK.out
      have HF := Lib.hid (And.intro hA2 (And.intro hP2 hlast))
      clear hA0 hG2 hA2 hP0 hP2 hbs hZ hlast hcp hup
      go_wp2
      go_roundw
      case rel => exact ⟨k + 1, by omega, by go_num, by rw [HF.out.2.2], G2, bs ++ [wr.heap.size + 1], HF.out.1, HF.out.2.1⟩
      case measure => simp [intOf]; omega
    · have hkn : k = n := by omega
      have HF := Lib.hid (And.intro h1 (And.intro h2 hkn))
      clear h1 h2 hkn
      go_wp2
      go_ret2
      obtain ⟨h1, h2, hkn⟩ := HF.out
      rw [hkn, List.take_of_length_le (by rw [HN.out]; omega)] at h2
      exact ⟨_, Gr, rfl, h1, _, bs, _, h2⟩
end Go.Proofs.YtdnalhjdmlkbmaaGreatDoor
namespace Go.Proofs.YtdnalhjdmlkbmaaGreatDoor
open Go.RowKit

theorem madeU8 (n : Nat) : madeCells (Value.int .u8 0).cells n = (u8s (List.replicate n 0)).toArray := by
  apply Array.ext
  · simp [madeCells, u8s]
  · intro i h1 h2
    simp [madeCells, u8s, Value.cells, Nat.mod_one]
theorem infoU8 : (Tryz.prog.info? 5).map (fun i => (i.zero, i.size, i.bytes)) = some (some (.int .u8 0), 1, 1) := by kernel_rfl
theorem run_makeU8 (w : World) (n : Nat) (hn : n ≤ 100000000000000) : (Instr.makeSlice 30 (.int .i64 n) (.int .i64 n)).run Tryz.prog w = .ok (.slice (some ⟨w.heap.size, 0, none⟩) n n) (w.alloc (.cells (u8s (List.replicate n 0)).toArray 5)) := by
  obtain ⟨i0, hi, hz0, hz1, hz2⟩ := info_parts infoU8
  have h := run_make (P := Tryz.prog) w 30 5 i0 (.int .u8 0) Tryz.underlying30 hi hz0 .i64 .i64 n n (by omega) (by omega) (by rw [hz2]; omega) (by omega)
  rwa [hz1, Int.toNat_natCast, Nat.mul_one, madeU8] at h

theorem full_set (xs : List Int) (n k : Nat) (x : Int) (hx : xs[k]? = some x) (hn : xs.length ≤ n) : (u8s (xs.take k ++ List.replicate (n - k) 0)).set k (.int .u8 x) = u8s (xs.take (k + 1) ++ List.replicate (n - (k + 1)) 0) := by
  have hk : k < xs.length := (List.getElem?_eq_some_iff.1 hx).1
  rw [show n - k = (n - (k + 1)) + 1 from by omega, List.replicate_succ, List.take_add_one, hx]
  simp only [u8s, List.map_append, List.map_cons, Option.toList_some, List.map_nil]
  rw [List.set_append_right _ _ (by simp; omega)]
  simp [Nat.min_eq_left (Nat.le_of_lt hk)]

set_option maxRecDepth 100000 in
set_option maxHeartbeats 1000000 in
theorem full_any (G : Nat → Nat) (q : Nat) (xa : Option Addr) (m c n : Nat) (xs : List Int) (w : World) (hl : xs.length = m) (hm : m ≤ n) (h0 : 0 < n) (hn : n ≤ 1000000) (hr : Reads w xa (u8s xs)) :
    Calls Tryz.prog 96 #[.slice xa m c, .int .i64 n] w fun e w' => ∃ b G', e = .returned (.slice (some ⟨b, 0, none⟩) n n) ∧ w.heap.size ≤ b ∧ Adv (fun _ => False) w G w' G' ∧
      Row 5 1 w' G' q (.slice (some ⟨b, 0, none⟩) n n) n (u8s (xs ++ List.replicate (n - m) 0)) := by
  have hmk := run_makeU8 w n (by omega)
  have HL := Lib.hid hl
  have HX := Lib.hid hr
  have HA0 := Lib.hid ((Adv.refl (fun _ => False) w G).alloc (.cells (u8s (List.replicate n 0)).toArray 5) q)
  have HR0 := Lib.hid (Row.new w G 5 1 q n (u8s (List.replicate n 0)) (by unfold maxLen; omega) (by simp [u8s]))
  clear hl hr
  go_enter Tryz.func96, Tryz.ntmps96
  go_wp2_with fail
  go_loopw [11] (fun v wr => ∃ k : Nat, k ≤ m ∧ v = .int .i64 k ∧ ∃ Gr, Adv (fun _ => False) w G wr Gr ∧ Row 5 1 wr Gr q (.slice (some ⟨w.heap.size, 0, none⟩) n n) n (u8s (xs.take k ++ List.replicate (n - k) 0))) (fun v _ => m - (intOf v).toNat)
  case atStart => exact ⟨0, Nat.zero_le _, rfl, _, HA0.out, HR0.out⟩
  case round =>
    obtain ⟨k, hk, rfl, Gr, h1, h2⟩ := hrel
    by_cases hlt : k < m
    · obtain ⟨x, hx⟩ : ∃ x, xs[k]? = some x := ⟨xs[k]'(by rw [HL.out]; exact hlt), by simp⟩
      have hxc := u8s_at xs k x hx
      obtain ⟨b, o, hxa, hcx, hb⟩ := (HX.out.adv h1 (fun _ _ => id)).some (by intro e; rw [e] at hxc; simp at hxc)
      have hc1 := hcx k _ hxc
      obtain ⟨hg, hG, hf, hc⟩ := h2.at h0
      have hlen : k < (u8s (xs.take k ++ List.replicate (n - k) 0)).length := by rw [h2.nlen]; omega
      have hc2 := hc k _ (List.getElem?_eq_getElem hlen)
      have hf2 := hf k
      have HS := Lib.hid (h2.store k hlen (.int .u8 x))
      have HE := Lib.hid (full_set xs n k x hx (by rw [HL.out]; exact hm))
      have H1 := Lib.hid h1
      clear hx hxc hcx hf hc hG h1 h2
      rw [hxa]
      go_wp2
      go_roundw
      case rel => exact ⟨k + 1, by omega, by go_num, Gr, H1.out.setNew (Nat.le_refl _) _, by rw [← HE.out]; exact HS.out.2⟩
      case measure => simp [intOf]; omega
    · have hkm : k = m := by omega
      have HF := Lib.hid (And.intro h1 (And.intro h2 hkm))
      clear h1 h2 hkm
      go_wp2
      go_ret
      obtain ⟨h1, h2, hkm⟩ := HF.out
      rw [hkm, List.take_of_length_le (by rw [HL.out]; omega)] at h2
      exact ⟨_, Gr, rfl, Nat.le_refl _, h1, h2⟩

set_option maxRecDepth 100000 in
set_option maxHeartbeats 1000000 in
theorem refMay_yes (G : Nat → Nat) (la : Option Addr) (n c : Nat) (l : List (Int × List Int)) (hn : l.length = n) (hn2 : n ≤ 1000000) (hmay : mayBanks l = true) (w : World)
    (hin : ∀ (w' : World) (G' : Nat → Nat), Adv (fun _ => False) w G w' G' → BankIn w' la l) :
    Calls Tryz.prog 95 #[.slice la n c] w fun e w' => e = .returned (.bool true) ∧ ∃ G', Adv (fun _ => False) w G w' G' := by
  have HI := Lib.hid hin
  have HN := Lib.hid hn
  have HM := Lib.hid (may_go l (-1) hmay)
  clear hin hn hmay
  go_enter Tryz.func95, Tryz.ntmps95
  go_wp2_with fail
  go_loopw [3, 8] (fun v3 v8 wr => ∃ k : Nat, k ≤ n ∧ v8 = .int .i64 k ∧ v3 = .int .i64 (lastN (l.take k)) ∧ ∃ Gr, Adv (fun _ => False) w G wr Gr) (fun _ v _ => n - (intOf v).toNat)
  case atStart => exact ⟨0, Nat.zero_le _, rfl, rfl, _, Adv.refl _ _ _⟩
  case round =>
    obtain ⟨k, hk, rfl, rfl, Gr, h1⟩ := hrel
    by_cases hlt : k < n
    · obtain ⟨p, hp⟩ : ∃ p, l[k]? = some p := ⟨l[k]'(by rw [HN.out]; exact hlt), by simp⟩
      obtain ⟨m1, m2, m3, m4, m5⟩ := HM.out k p hp
      have m1' : decide (p.1 ≤ lastN (l.take k)) = false := decide_eq_false (by unfold lastN; omega)
      have m3' : decide (15 < p.1) = false := by simp; omega
      have m4' : decide (16384 < (p.2.length : Int)) = false := by simp; omega
      obtain ⟨b, o, da, dc, hla, c1, c2, hr⟩ := HI.out wr Gr h1 k p hp
      have hb := World.block_lt_of_cell? wr _ c1
      have HA1 := Lib.hid h1
      have HL := Lib.hid (lastN_snoc l k p hp)
      rw [hla]
      clear h1 hp hr m1 m5
      go_wp2
      go_roundw
      case rel => exact ⟨k + 1, by omega, by go_num, by rw [HL.out], _, HA1.out.alloc _ 0⟩
      case measure => simp [intOf]; omega
    · have HF := Lib.hid h1
      clear h1
      go_wp2
      go_ret
      exact ⟨rfl, Gr, HF.out⟩
end Go.Proofs.YtdnalhjdmlkbmaaGreatDoor
namespace Go.Proofs.YtdnalhjdmlkbmaaGreatDoor
open Go.RowKit

theorem new_cells (w : World) (xs : List Value) (e : TypeId) : ∀ j u, xs[j]? = some u → (w.alloc (.cells xs.toArray e)).cell? ((⟨w.heap.size, 0, none⟩ : Addr).add j) = some u := by
  intro j u hu
  rw [Addr.add_lit, cell_of_row _ w.heap.size (0 + j) xs.toArray e (0, 0) (heap_alloc_new w _)]
  simpa using hu
theorem step_append_row {P : Program} {ops : Array Oper} {o : Oper} {a : Act} {w : World} {K : Act → World → Prop} {Q : Exit → Act → World → Prop} {E : Prop}
    (hg : o.guard = none) (s x : Operand) (t : TypeId) (hop : o.op = Op.call { callee := Callee.builtin Builtin.append, args := #[s, x], argTypes := #[t, t] })
    (e : TypeId) (i : TypeInfo) (z : Value) (size bytes : Nat) (h1 : P.underlying t = some (.slice e)) (h2 : P.info? e = some i) (h3 : i.zero = some z) (h4 : i.size = size) (h5 : i.bytes = bytes) (h6 : z.cells.size = size) (h7 : 0 < size)
    (G : Nat → Nat) (q : Nat) (va : Option Addr) (n vc : Nat) (xs : List Value) (hs : a.eval s = .slice va n vc) (hrow : Row e size w G q (.slice va n vc) n xs)
    (ad : Addr) (m c : Nat) (news : List Value) (hx : a.eval x = .slice (some ad) m c) (hn : news.length = m * size) (hc : ∀ j u, news[j]? = some u → w.cell? (ad.add j) = some u) (h1c : ∀ u ∈ news, u.oneCell' = true)
    (b1 : n + m ≤ maxLen) (b2 : (n + m) * bytes ≤ 140737488355328)
    (hK : ∀ va' vc' w' G', Row e size w' G' q (.slice va' (n + m) vc') (n + m) (xs ++ news) → Adv (· = q) w G w' G' → K (a.put o.dst (.slice va' (n + m) vc')) w') :
    if Region.wanted o (yielded ops a.tmps) = true then Oper.wp P o a w K Q else E := by
  have hw : Region.wanted o (yielded ops a.tmps) = true := by simp [Region.wanted, hg]
  rw [if_pos hw]
  obtain ⟨v', w', hr, r1, r2, _, r4⟩ := run_append_own2 (P := P) w t o.type e i z size bytes h1 h2 h3 h4 h5 h6 h7 (.slice va n vc) n xs hrow.row ad m c news hn hc h1c b1 b2
  obtain ⟨va', vc', rfl⟩ : ∃ va' vc', v' = .slice va' (n + m) vc' := by
    rcases r1.2 with ⟨rfl, e⟩ | ⟨g, cap, cur, rfl, _⟩
    · exact ⟨none, 0, by rw [e]⟩
    · exact ⟨_, cap, rfl⟩
  obtain ⟨r5, r6⟩ := hrow.appended r1 r2 r4
  unfold Oper.wp
  simp [execOp, hop, resolve, invoke, builtin, hs, hx, hr, Result.andThen]
  exact hK _ _ _ _ r6 r5
end Go.Proofs.YtdnalhjdmlkbmaaGreatDoor
namespace Go.Proofs.YtdnalhjdmlkbmaaGreatDoor
open Go.RowKit

theorem infoBank : (Tryz.prog.info? 47).map (fun i => (i.zero, i.size, i.bytes)) = some (some (.agg #[.int .i64 0, .slice none 0 0]), 2, 32) := by kernel_rfl
/-- A document's memory's block: its banks are a row of i's. -/
def RM0 (w : World) (G : Nat → Nat) (i D : Nat) (k : Nat) : Prop :=
  ∃ bv a2 a3 a4 a5 a6 a7 a8 a9 a10, w.heap[D]? = some (.cells #[bv, a2, a3, a4, a5, a6, a7, a8, a9, a10] 74 (0, 0)) ∧ G D = 7 ∧ ∃ xs, Row 47 2 w G i bv k xs
def ramC : Array Value := (u8s (List.replicate 16384 0)).toArray
def scrC : Array Value := (u8s (List.replicate 3072 0)).toArray
theorem make_ram (w : World) : (Instr.makeSlice 30 (.int .i64 16384) (.int .i64 16384)).run Tryz.prog w = .ok (.slice (some ⟨w.heap.size, 0, none⟩) 16384 16384) (w.alloc (.cells ramC 5)) := run_makeU8 w 16384 (by omega)
theorem make_scr (w : World) : (Instr.makeSlice 30 (.int .i64 3072) (.int .i64 3072)).run Tryz.prog w = .ok (.slice (some ⟨w.heap.size, 0, none⟩) 3072 3072) (w.alloc (.cells scrC 5)) := run_makeU8 w 3072 (by omega)
theorem full16 (G : Nat → Nat) (q : Nat) (xa : Option Addr) (m c : Nat) (xs : List Int) (w : World) (hl : xs.length = m) (hm : m ≤ 16384) (hr : Reads w xa (u8s xs)) :
    Calls Tryz.prog 96 #[.slice xa m c, .int .i64 16384] w fun e w' => ∃ b G', e = .returned (.slice (some ⟨b, 0, none⟩) 16384 16384) ∧ w.heap.size ≤ b ∧ Adv (fun _ => False) w G w' G' ∧
      Row 5 1 w' G' q (.slice (some ⟨b, 0, none⟩) 16384 16384) 16384 (u8s (xs ++ List.replicate (16384 - m) 0)) :=
  full_any G q xa m c 16384 xs w hl hm (by omega) (by omega) hr
set_option maxRecDepth 100000 in
set_option maxHeartbeats 1000000 in
theorem refNew_any (G : Nat → Nat) (la : Option Addr) (n c : Nat) (l : List (Int × List Int)) (hn : l.length = n) (hn2 : n ≤ 1000000) (hmay : mayBanks l = true) (w : World)
    (hin : ∀ (w' : World) (G' : Nat → Nat), Adv (fun _ => False) w G w' G' → BankIn w' la l) :
    Calls Tryz.prog 51 #[.slice la n c] w fun e w' => ∃ D G', e = .returned (.tuple #[.pointer (some ⟨D, 0, none⟩), .int .i64 0]) ∧ Adv (fun _ => False) w G w' G' := by
  have hm1 := make_ram
  have hm2 := make_scr
  have HI0 := Lib.hid hin
  have hin2 : ∀ (w' : World) (G' : Nat → Nat), Adv (fun b => b = 6) w (fun _ => 0) w' G' → BankIn w' la l := fun w' G' h => hin w' (named w G G' 0 0) (h.relabel (fun _ _ => by omega) (fun _ hb => named_old hb))
  have HI := Lib.hid hin2
  have HN := Lib.hid hn
  have HM0 := Lib.hid hmay
  have HM := Lib.hid (may_go l (-1) hmay)
  obtain ⟨i0, hi, hz0, hz1, hz2⟩ := info_parts infoBank
  clear hin hin2 hn hmay
  go_enter Tryz.func51, Tryz.ntmps51
  go_wp2_with fail
  refine (refMay_yes (fun _ => 0) la n c l HN.out hn2 HM0.out _ (fun w' G' h => HI.out w' G' (h.mono (fun _ h => h.elim)))).mono ?_
  rintro e w1 ⟨rfl, G1, ha1⟩
  have HA1 := Lib.hid (ha1.mono (T := fun b => b = 6) (fun _ h => h.elim))
  clear ha1
  go_upto_region 3 with fail
  go_cut [4] (fun s4 wx => ∃ D Gx, s4 = .pointer (some ⟨D, 0, none⟩) ∧ Adv (fun b => b = 6) w (fun _ => 0) wx Gx ∧ RM0 wx Gx 6 D 0)
  case first =>
    go_region
    all_goals
      go_wp2_with fail
      go_meet
      refine ⟨w1.heap.size + 1 + 1, _, rfl, (((HA1.out.alloc _ 7).alloc _ 7).alloc _ 7).drew, ?_⟩
      exact ⟨_, _, _, _, _, _, _, _, _, _, heap_at _ _ _ (by simp), by simp [own1], [], World.ownsRow_nil _ _ _ _, fun b e => by cases e⟩
  case rest =>
    obtain ⟨D, Gx, rfl, h1, h2⟩ := hcut
    obtain ⟨wA, rfl⟩ : ∃ x : World, x = wc := ⟨_, rfl⟩
    have HA2 := Lib.hid h1
    have HR2 := Lib.hid h2
    clear h1 h2
    go_wp2_with fail
    go_loopw [16] (fun v wr => ∃ k : Nat, k ≤ n ∧ v = .int .i64 k ∧ ∃ Gr, Adv (fun b => b = 6) w (fun _ => 0) wr Gr ∧ RM0 wr Gr 6 D k) (fun v _ => n - (intOf v).toNat)
    case atStart => exact ⟨0, Nat.zero_le _, rfl, Gx, HA2.out, HR2.out⟩
    case round =>
      obtain ⟨k, hk, rfl, Gr, h1, h2⟩ := hrel
      by_cases hlt : k < n
      · obtain ⟨p, hp⟩ : ∃ p, l[k]? = some p := ⟨l[k]'(by rw [HN.out]; exact hlt), by simp⟩
        obtain ⟨m1, m2, m3, m4, m5⟩ := HM.out k p hp
        obtain ⟨b, o, da, dc, hla, c1, c2, hr⟩ := HI.out wr Gr h1 k p hp
        have hb := World.block_lt_of_cell? wr _ c1
        obtain ⟨bv, a2, a3, a4, a5, a6, a7, a8, a9, a10, hh, hG, xs, hrow⟩ := h2
        obtain ⟨va, vc, rfl, hvc, hkc, hva⟩ := hrow.slice
        have hDl : D < wr.heap.size := (Array.getElem?_eq_some_iff.1 hh).1
        have cD := block_cell hh 0 _ rfl
        have HA3 := Lib.hid h1
        have HH := Lib.hid hh
        have HGD := Lib.hid hG
        have HROW := Lib.hid hrow
        have HR := Lib.hid hr
        rw [hla]
        clear h1 hp hr m1 m5 hh hG hrow
        go_wp2_with fail
        have HRd := Lib.hid (show Reads (wr.alloc (.cells #[.int .i64 p.1, .slice da p.2.length dc] 47)).drew da (u8s p.2) from HR.out.alloc _)
        have hA4 := (HA3.out.alloc (.cells #[.int .i64 p.1, .slice da p.2.length dc] 47) 1000).drew
        have HA4 := Lib.hid hA4
        clear hA4
        have hA5 := ((Adv.refl (fun _ => False) wr Gr).alloc (.cells #[.int .i64 p.1, .slice da p.2.length dc] 47) 1000).drew
        have HROWa := Lib.hid (HROW.out.adv hA5 id)
        have hDa := (hA5.keep D hDl id).trans HH.out
        have hGa := (hA5.own D hDl).trans HGD.out
        have HDa := Lib.hid (And.intro hDa hGa)
        have hDz := hA5.size
        have HCD := Lib.hid (block_cell hDa 0 _ rfl)
        have hNa : (wr.alloc (.cells #[.int .i64 p.1, .slice da p.2.length dc] 47)).drew.heap[wr.heap.size]? = some (.cells #[.int .i64 p.1, .slice da p.2.length dc] 47 (0, 0)) := heap_alloc_new wr _
        have HCN := Lib.hid (block_cell hNa 0 _ rfl)
        clear hA5 hDa hGa hNa
        have hone : ∀ (x : Int) (y : Option Addr), ∀ u ∈ [Value.int .i64 x, .slice y 16384 16384], u.oneCell' = true := by
          intro x y u hu; simp at hu; rcases hu with rfl | rfl <;> rfl
        go_region_law (first
          | (refine step_append_row rfl (.tmp 24) (.tmp 31) 33 rfl 47 i0 (.agg #[.int .i64 0, .slice none 0 0]) 2 32 Tryz.underlying33 hi hz0 hz1 hz2 rfl (by decide) _ 6 va k vc xs rfl HROW2.out ⟨w2.heap.size, 0, none⟩ 1 1 [.int .i64 p.1, .slice (some ⟨fb, 0, none⟩) 16384 16384] rfl rfl (new_cells w2 _ _) (hone _ _) (by unfold maxLen; omega) (by omega) ?_; (intro va' vc' w3 G3 hr3 ha3; have HR3 := Lib.hid hr3; have HA3x := Lib.hid ha3; have HD3 := Lib.hid (And.intro ((ha3.keep D (by simp; omega) (by rw [HDb.out.2]; omega)).trans HDb.out.1) ((ha3.own D (by simp; omega)).trans HDb.out.2)); have cD3 := block_cell HD3.out.1 0 _ rfl; have fD3 := block_free HD3.out.1 0; clear hr3 ha3))
          | (go_simp; go_at_call 96; refine (full16 (own1 wr Gr 1000) 7 da p.2.length dc p.2 _ rfl m4 HRd.out).mono ?_; rintro e w2 ⟨fb, G2, rfl, hfb, ha2, hr2⟩; have hA6 := ha2.alloc (.cells #[.int .i64 p.1, .slice (some ⟨fb, 0, none⟩) 16384 16384] 47) 1000; have HROW2 := Lib.hid (HROWa.out.adv hA6 id); have HDb := Lib.hid (And.intro ((hA6.keep D (by omega) id).trans HDa.out.1) ((hA6.own D (by omega)).trans HDa.out.2)); have HA6 := Lib.hid hA6; have hs2 := ha2.size; have hDl2 : D < w2.heap.size := (by omega); have cD2 := ha2.cell_some HCD.out id; have cN2 := ha2.cell_some HCN.out id; clear hA6 hr2 ha2))
        all_goals
          have hDw : w.heap.size ≤ D := by
            rcases Nat.lt_or_ge D w.heap.size with hlt2 | hge
            · have := (HA3.out.own D hlt2).symm.trans HGD.out
              omega
            · exact hge
          have hfin := HA3.out.trans (((((Adv.refl (fun _ => False) wr Gr).alloc (.cells #[.int .i64 p.1, .slice da p.2.length dc] 47) 1000).drew.trans HA6.out).mono (T := fun b => b = 6) (fun _ h => h.elim)).trans HA3x.out)
          have hrm : RM0 (w3.setCell ⟨D, 0, none⟩ (.slice va' (k + 1) vc')) G3 6 D (k + 1) := by
            refine ⟨_, a2, a3, a4, a5, a6, a7, a8, a9, a10, ?_, HD3.out.2, _, HR3.out.adv (S := fun b => b = 7) ((Adv.refl (fun b => b = 7) w3 G3).setCell HD3.out.2 _) (by omega)⟩
            simp only [World.setCell, Array.getElem?_modify, HD3.out.1]; simp
          have HF := Lib.hid (And.intro (hfin.setNew (p := ⟨D, 0, none⟩) hDw (.slice va' (k + 1) vc')) hrm)
          clear hfin hrm hDw
          go_wp2
          go_roundw
          case rel => exact ⟨k + 1, by omega, by go_num, G3, HF.out.1, HF.out.2⟩
          case measure => simp [intOf]; omega
      · have HF := Lib.hid h1
        clear h1 h2
        go_wp2
        go_ret2
        exact ⟨D, named w G Gr 0 0, rfl, HF.out.relabel (fun _ _ => by omega) (fun _ hb => named_old hb)⟩
end Go.Proofs.YtdnalhjdmlkbmaaGreatDoor
namespace Go.Proofs.YtdnalhjdmlkbmaaGreatDoor
open Go.RowKit

theorem Tryz.info31 : (Tryz.prog.info? 31).map (fun i => (i.zero, i.size, i.bytes)) = some (some (.int .u16 0), 1, 2) := by kernel_rfl

set_option maxHeartbeats 400000 in
theorem innerU_any (D : Nat) (w : World) : Calls Tryz.prog 87 #[.pointer (some ⟨D, 0, none⟩)] w fun e w' => e = .returned (.pointer (some ⟨D, 0, none⟩)) ∧ w = w' := by
  go_enter Tryz.func87, Tryz.ntmps87
  go_wp2
  go_ret
  exact ⟨rfl, rfl⟩
theorem innerU_nil (w : World) : Calls Tryz.prog 87 #[.pointer none] w fun e w' => e = .returned (.pointer none) ∧ w = w' := by
  go_enter Tryz.func87, Tryz.ntmps87
  go_wp2
  go_ret
  exact ⟨rfl, rfl⟩

set_option maxHeartbeats 400000 in
theorem sizeU_any (D : Nat) (a : Option Addr) (n cap : Nat) (w : World) (hc : w.cell? ⟨D, 0, none⟩ = some (.slice a n cap)) :
    Calls Tryz.prog 124 #[.pointer (some ⟨D, 0, none⟩)] w fun e w' => e = .returned (.int .i64 n) ∧ w = w' := by
  go_enter Tryz.func124, Tryz.ntmps124
  go_wp2
  go_ret
  exact ⟨rfl, rfl⟩
theorem sizeU_nil (w : World) : Calls Tryz.prog 124 #[.pointer none] w fun e w' => e = .returned (.int .i64 0) ∧ w = w' := by
  go_enter Tryz.func124, Tryz.ntmps124
  go_wp2
  go_ret
  exact ⟨rfl, rfl⟩

set_option maxHeartbeats 400000 in
theorem roomU_any (D : Nat) (a : Option Addr) (n cap : Nat) (m lim : Int) (w : World) (hc : w.cell? ⟨D, 0, none⟩ = some (.slice a n cap)) (hn : n ≤ 9223372036854775807) (h0 : 0 ≤ lim) (h1 : lim ≤ 100000) :
    Calls Tryz.prog 131 #[.pointer (some ⟨D, 0, none⟩), .int .i64 m, .int .i64 lim] w fun e w' => e = .returned (.bool (decide (m ≤ lim - n))) ∧ w = w' := by
  go_enter Tryz.func131, Tryz.ntmps131
  go_wp2
  go_ret
  exact ⟨rfl, rfl⟩
theorem roomU_nil (m lim : Int) (w : World) :
    Calls Tryz.prog 131 #[.pointer none, .int .i64 m, .int .i64 lim] w fun e w' => e = .returned (.bool false) ∧ w = w' := by
  go_enter Tryz.func131, Tryz.ntmps131
  go_wp2
  go_ret
  exact ⟨rfl, rfl⟩

set_option maxHeartbeats 400000 in
/-- put: there is no room. -/
theorem putU_full (D : Nat) (a : Option Addr) (n cap : Nat) (lim : Int) (xa : Option Addr) (m c : Nat) (w : World) (hc : w.cell? ⟨D, 0, none⟩ = some (.slice a n cap)) (hn : n ≤ 9223372036854775807) (hm : m ≤ 9223372036854775807) (h0 : 0 ≤ lim) (h1 : lim ≤ 100000)
    (hpos : 0 < m) (hfull : lim < (n : Int) + m) :
    Calls Tryz.prog 91 #[.pointer (some ⟨D, 0, none⟩), .int .i64 lim, .slice xa m c] w fun e w' => e = .returned (.bool false) ∧ w = w' := by
  have hm0 : ((m : Int) == 0) = false := by simp; omega
  have hd : decide ((m : Int) ≤ lim - n) = false := by simp; omega
  go_enter Tryz.func91, Tryz.ntmps91
  go_wp2_with (go_at_call 131; refine (roomU_any D a n cap m lim _ hc hn h0 h1).mono ?_; rintro e w' ⟨rfl, rfl⟩)
  go_ret
  exact ⟨rfl, rfl⟩
/-- put: nothing is put. -/
theorem putU_none (p : Value) (lim : Int) (xa : Option Addr) (c : Nat) (w : World) :
    Calls Tryz.prog 91 #[p, .int .i64 lim, .slice xa 0 c] w fun e w' => e = .returned (.bool true) ∧ w = w' := by
  go_enter Tryz.func91, Tryz.ntmps91
  go_wp2
  go_ret
  exact ⟨rfl, rfl⟩
/-- put into no stack. -/
theorem putU_nil (lim : Int) (xa : Option Addr) (m c : Nat) (w : World) (hpos : 0 < m) :
    Calls Tryz.prog 91 #[.pointer none, .int .i64 lim, .slice xa m c] w fun e w' => e = .returned (.bool false) ∧ w = w' := by
  have hm0 : ((m : Int) == 0) = false := by simp; omega
  go_enter Tryz.func91, Tryz.ntmps91
  go_wp2_with (go_at_call 131; refine (roomU_nil _ _ _).mono ?_; rintro e w' ⟨rfl, rfl⟩)
  go_ret
  exact ⟨rfl, rfl⟩

set_option maxHeartbeats 400000 in
theorem putU_room (T : Nat) (G : Nat → Nat) (i D : Nat) (a : Option Addr) (n cap : Nat) (xs : List Value) (lim : Int) (xa : Addr) (m c : Nat) (news : List Value) (w : World) (hp : Pile 31 T 1 w G i D (.slice a n cap) n xs)
    (hm : m ≤ 9223372036854775807) (h0 : 0 ≤ lim) (h1 : lim ≤ 100000) (hpos : 0 < m) (hroom : (n : Int) + m ≤ lim)
    (hl : news.length = m) (hnews : ∀ j u, news[j]? = some u → w.cell? (xa.add j) = some u) (hone : ∀ u ∈ news, u.oneCell' = true) :
    Calls Tryz.prog 91 #[.pointer (some ⟨D, 0, none⟩), .int .i64 lim, .slice (some xa) m c] w fun e w' => e = .returned (.bool true) ∧
      ∃ G' v', Adv (· = i) w G w' G' ∧ Pile 31 T 1 w' G' i D v' (n + m) (xs ++ news) := by
  have hm0 : ((m : Int) == 0) = false := by simp; omega
  have hd : decide ((m : Int) ≤ lim - n) = true := by simp; omega
  have hc := hp.cell
  have hf := hp.frozen
  obtain ⟨i0, hi, hz0, hz1, hz2⟩ := info_parts Tryz.info31
  have HP := Lib.hid hp
  clear hp
  go_enter Tryz.func91, Tryz.ntmps91
  have hcD : ∀ w1, w.grownBy w1 (Value.slice a n cap).ownBlock → w1.cell? ⟨D, 0, none⟩ = some (.slice a n cap) ∧ w1.frozen? ⟨D, 0, none⟩ = false := fun w1 hg =>
    ⟨(World.cell?_of_block (hg.block D HP.out.lt (fun e => HP.out.ne e.symm))).trans hc, (World.frozen?_of_block (hg.block D HP.out.lt (fun e => HP.out.ne e.symm))).trans hf⟩
  have HD := Lib.hid hcD
  clear hcD
  go_wp2_with (first | (go_at_call 131; refine (roomU_any D a n cap m lim _ hc (by omega) h0 h1).mono ?_; rintro e w' ⟨rfl, rfl⟩) | (at_builtin; refine wpList_append_own2 rfl (.tmp 20) (.tmp 21) 22 rfl 31 i0 (.int .u16 0) 1 2 Tryz.underlying22 hi hz0 hz1 hz2 rfl (by decide) a n cap xs rfl HP.out.row xa m c news rfl (by omega) hnews hone (by unfold maxLen; omega) (by omega) ?_; intro va' vc' w1 h1 h2 h3; obtain ⟨hc1, hf1⟩ := HD.out w1 h2; have H1 := Lib.hid h1; clear h1; have H2 := Lib.hid h2; clear h2; have H3 := Lib.hid h3; clear h3))
  go_ret
  exact ⟨rfl, _, _, HP.out.appended H1.out H2.out H3.out⟩

set_option maxHeartbeats 400000 in
theorem takeU_any (T : Nat) (G : Nat → Nat) (i D : Nat) (a : Option Addr) (m cap : Nat) (ys : List Value) (x : Int) (w : World) (hp : Pile 31 T 1 w G i D (.slice a (m + 1) cap) (m + 1) (ys ++ [.int .u16 x])) :
    Calls Tryz.prog 168 #[.pointer (some ⟨D, 0, none⟩)] w fun e w' => e = .returned (.int .u16 x) ∧ Adv (· = i) w G w' G ∧ Pile 31 T 1 w' G i D (.slice a m cap) m ys := by
  have hc := hp.cell
  have hf := hp.frozen
  obtain ⟨g, rfl, hcap, hlc, hcx⟩ := hp.last
  have hmax : cap ≤ 9223372036854775807 := by unfold maxLen at hcap; omega
  have HP := Lib.hid hp
  clear hp hcap
  go_enter Tryz.func168, Tryz.ntmps168
  go_wp2
  go_ret
  exact ⟨rfl, HP.out.popped⟩

theorem allU_nil (w : World) : Calls Tryz.prog 88 #[.pointer none] w fun e w' => e = .returned (.slice none 0 0) ∧ w = w' := by
  go_enter Tryz.func88, Tryz.ntmps88
  go_wp2_with (go_at_call 124; refine (sizeU_nil _).mono ?_; rintro e w' ⟨rfl, rfl⟩)
  go_ret
  exact ⟨rfl, rfl⟩
theorem allU_none (D : Nat) (a : Option Addr) (cap : Nat) (w : World) (hc : w.cell? ⟨D, 0, none⟩ = some (.slice a 0 cap)) :
    Calls Tryz.prog 88 #[.pointer (some ⟨D, 0, none⟩)] w fun e w' => e = .returned (.slice none 0 0) ∧ w = w' := by
  go_enter Tryz.func88, Tryz.ntmps88
  go_wp2_with (go_at_call 124; refine (sizeU_any D a 0 cap _ hc).mono ?_; rintro e w' ⟨rfl, rfl⟩)
  go_ret
  exact ⟨rfl, rfl⟩
set_option maxRecDepth 100000 in
set_option maxHeartbeats 400000 in
theorem allU_some (D : Nat) (a : Addr) (n cap : Nat) (xs : List Value) (w : World) (hn0 : 0 < n) (hn1 : n ≤ 1000) (hl : xs.length = n) (hone : ∀ u ∈ xs, u.oneCell' = true)
    (hc : w.cell? ⟨D, 0, none⟩ = some (.slice (some a) n cap)) (hx : ∀ j u, xs[j]? = some u → w.cell? (a.add j) = some u) (hb : a.block < w.heap.size) :
    Calls Tryz.prog 88 #[.pointer (some ⟨D, 0, none⟩)] w fun e w' => e = .returned (.slice (some ⟨w.heap.size, 0, none⟩) n n) ∧ w' = w.alloc (.cells xs.toArray 31) := by
  have hm0 : ((n : Int) == 0) = false := by simp; omega
  obtain ⟨i0, hi, hz0, hz1, hz2⟩ := info_parts Tryz.info31
  have hmk := fun w1 => run_make (P := Tryz.prog) w1 22 31 i0 (.int .u16 0) Tryz.underlying22 hi hz0 .i64 .i64 n n (by omega) (by omega) (by rw [hz2]; omega) (by omega)
  rw [hz1, Int.toNat_natCast, Nat.mul_one] at hmk
  have HL := Lib.hid hl
  clear hl
  have hcD : w.cell? ⟨D, 0, none⟩ = some (.slice (some a) n cap) := hc
  have hD : D < w.heap.size := World.block_lt_of_cell? w _ hc
  go_enter Tryz.func88, Tryz.ntmps88
  go_wp2_with (first | (go_at_call 124; refine (sizeU_any D (some a) n cap _ hc).mono ?_; rintro e w' ⟨rfl, rfl⟩) | (refine wpList_copy_new rfl (.tmp 13) (.tmp 17) 22 22 rfl 31 i0 Tryz.underlying22 hi n n a cap rfl rfl _ xs (by rw [HL.out, hz1]; omega) (by rw [HL.out]; simp [size_madeCells]) hx hb hone ?_))
  go_ret
  exact ⟨rfl, rfl⟩
end Go.Proofs.YtdnalhjdmlkbmaaGreatDoor
namespace Go.Proofs.YtdnalhjdmlkbmaaGreatDoor
open Go.RowKit

theorem ret_int {k : IntKind} {a b : Int} (h : a = b) : Ending.returned (.int k a) = .returned (.int k b) := by rw [h]
/-- Need's answer. -/
def needF (n : Int) (i o : Int) : Int := if n < max i 0 then 1 else if 256 - (n - max i 0) < max o 0 then 2 else 0
theorem needF_1 {n i o : Int} (h : n < max i 0) : needF n i o = 1 := if_pos h

set_option maxHeartbeats 400000 in
theorem needU_any (D : Nat) (a : Option Addr) (n cap : Nat) (i o : Int) (w : World) (hc : w.cell? ⟨D, 0, none⟩ = some (.slice a n cap)) (hn : n ≤ 100000) (hi : i ≤ 9223372036854775807) (ho : o ≤ 9223372036854775807) :
    Calls Tryz.prog 77 #[.pointer (some ⟨D, 0, none⟩), .int .i64 i, .int .i64 o] w fun e w' => e = .returned (.int .i64 (needF n i o)) ∧ w = w' := by
  go_enter Tryz.func77, Tryz.ntmps77
  go_wp2_with (first | (go_at_call 87; refine (innerU_any D _).mono ?_; rintro e w' ⟨rfl, rfl⟩) | (go_at_call 124; refine (sizeU_any D a n cap _ hc).mono ?_; rintro e w' ⟨rfl, rfl⟩))
  all_goals
    go_ret
    exact ⟨ret_int (by unfold needF; (repeat' split) <;> omega), rfl⟩
theorem needU_nil (i o : Int) (w : World) (hi : i ≤ 9223372036854775807) (ho : o ≤ 9223372036854775807) :
    Calls Tryz.prog 77 #[.pointer none, .int .i64 i, .int .i64 o] w fun e w' => e = .returned (.int .i64 (needF 0 i o)) ∧ w = w' := by
  go_enter Tryz.func77, Tryz.ntmps77
  go_wp2_with (first | (go_at_call 87; refine (innerU_nil _).mono ?_; rintro e w' ⟨rfl, rfl⟩) | (go_at_call 124; refine (sizeU_nil _).mono ?_; rintro e w' ⟨rfl, rfl⟩))
  all_goals
    go_ret
    exact ⟨ret_int (by unfold needF; (repeat' split) <;> omega), rfl⟩

theorem pushU_nil (xa : Option Addr) (m c : Nat) (w : World) (hpos : 0 < m) :
    Calls Tryz.prog 39 #[.pointer none, .slice xa m c] w fun e w' => e = .returned (.int .i64 2) ∧ w = w' := by
  go_enter Tryz.func39, Tryz.ntmps39
  go_wp2_with (first | (go_at_call 87; refine (innerU_nil _).mono ?_; rintro e w' ⟨rfl, rfl⟩) | (go_at_call 91; refine (putU_nil _ xa m c _ hpos).mono ?_; rintro e w' ⟨rfl, rfl⟩))
  go_ret
  exact ⟨rfl, rfl⟩
theorem pushU_nil0 (xa : Option Addr) (c : Nat) (w : World) :
    Calls Tryz.prog 39 #[.pointer none, .slice xa 0 c] w fun e w' => e = .returned (.int .i64 0) ∧ w = w' := by
  go_enter Tryz.func39, Tryz.ntmps39
  go_wp2_with (first | (go_at_call 87; refine (innerU_nil _).mono ?_; rintro e w' ⟨rfl, rfl⟩) | (go_at_call 91; refine (putU_none _ _ xa c _).mono ?_; rintro e w' ⟨rfl, rfl⟩))
  go_ret
  exact ⟨rfl, rfl⟩
theorem pushU_none (D : Nat) (xa : Option Addr) (c : Nat) (w : World) :
    Calls Tryz.prog 39 #[.pointer (some ⟨D, 0, none⟩), .slice xa 0 c] w fun e w' => e = .returned (.int .i64 0) ∧ w = w' := by
  go_enter Tryz.func39, Tryz.ntmps39
  go_wp2_with (first | (go_at_call 87; refine (innerU_any D _).mono ?_; rintro e w' ⟨rfl, rfl⟩) | (go_at_call 91; refine (putU_none _ _ xa c _).mono ?_; rintro e w' ⟨rfl, rfl⟩))
  go_ret
  exact ⟨rfl, rfl⟩
theorem pushU_full (D : Nat) (a : Option Addr) (n cap : Nat) (xa : Option Addr) (m c : Nat) (w : World) (hc : w.cell? ⟨D, 0, none⟩ = some (.slice a n cap)) (hn : n ≤ 9223372036854775807) (hm : m ≤ 9223372036854775807)
    (hpos : 0 < m) (hfull : 256 < (n : Int) + m) :
    Calls Tryz.prog 39 #[.pointer (some ⟨D, 0, none⟩), .slice xa m c] w fun e w' => e = .returned (.int .i64 2) ∧ w = w' := by
  go_enter Tryz.func39, Tryz.ntmps39
  go_wp2_with (first | (go_at_call 87; refine (innerU_any D _).mono ?_; rintro e w' ⟨rfl, rfl⟩) | (go_at_call 91; refine (putU_full D a n cap 256 xa m c _ hc hn hm (by omega) (by omega) hpos hfull).mono ?_; rintro e w' ⟨rfl, rfl⟩))
  go_ret
  exact ⟨rfl, rfl⟩
set_option maxHeartbeats 400000 in
/-- Push, with room for all. -/
theorem pushU_room (T : Nat) (G : Nat → Nat) (i D : Nat) (a : Option Addr) (n cap : Nat) (xs : List Value) (xa : Addr) (m c : Nat) (news : List Value) (w : World) (hp : Pile 31 T 1 w G i D (.slice a n cap) n xs)
    (hm : m ≤ 9223372036854775807) (hpos : 0 < m) (hroom : (n : Int) + m ≤ 256)
    (hl : news.length = m) (hnews : ∀ j u, news[j]? = some u → w.cell? (xa.add j) = some u) (hone : ∀ u ∈ news, u.oneCell' = true) :
    Calls Tryz.prog 39 #[.pointer (some ⟨D, 0, none⟩), .slice (some xa) m c] w fun e w' => e = .returned (.int .i64 0) ∧
      ∃ G' v', Adv (· = i) w G w' G' ∧ Pile 31 T 1 w' G' i D v' (n + m) (xs ++ news) := by
  have HP := Lib.hid hp
  have HL := Lib.hid hl
  clear hp hl
  go_enter Tryz.func39, Tryz.ntmps39
  go_wp2_with (first | (go_at_call 87; refine (innerU_any D _).mono ?_; rintro e w' ⟨rfl, rfl⟩) | (go_at_call 91; refine (putU_room T G i D a n cap xs 256 xa m c news _ HP.out hm (by omega) (by omega) hpos hroom HL.out hnews hone).mono ?_; rintro e w' ⟨rfl, hr⟩))
  go_ret
  exact ⟨rfl, hr⟩

theorem popU_nil (w : World) : Calls Tryz.prog 147 #[.pointer none] w fun e w' => e = .returned (.int .u16 0) ∧ w = w' := by
  go_enter Tryz.func147, Tryz.ntmps147
  go_wp2_with (first | (go_at_call 87; refine (innerU_nil _).mono ?_; rintro e w' ⟨rfl, rfl⟩) | (go_at_call 124; refine (sizeU_nil _).mono ?_; rintro e w' ⟨rfl, rfl⟩))
  go_ret
  exact ⟨rfl, rfl⟩
theorem popU_none (D : Nat) (a : Option Addr) (cap : Nat) (w : World) (hc : w.cell? ⟨D, 0, none⟩ = some (.slice a 0 cap)) :
    Calls Tryz.prog 147 #[.pointer (some ⟨D, 0, none⟩)] w fun e w' => e = .returned (.int .u16 0) ∧ w = w' := by
  go_enter Tryz.func147, Tryz.ntmps147
  go_wp2_with (first | (go_at_call 87; refine (innerU_any D _).mono ?_; rintro e w' ⟨rfl, rfl⟩) | (go_at_call 124; refine (sizeU_any D a 0 cap _ hc).mono ?_; rintro e w' ⟨rfl, rfl⟩))
  go_ret
  exact ⟨rfl, rfl⟩
set_option maxHeartbeats 400000 in
theorem popU_some (T : Nat) (G : Nat → Nat) (i D : Nat) (a : Option Addr) (m cap : Nat) (ys : List Value) (x : Int) (w : World) (hp : Pile 31 T 1 w G i D (.slice a (m + 1) cap) (m + 1) (ys ++ [.int .u16 x])) :
    Calls Tryz.prog 147 #[.pointer (some ⟨D, 0, none⟩)] w fun e w' => e = .returned (.int .u16 x) ∧ Adv (· = i) w G w' G ∧ Pile 31 T 1 w' G i D (.slice a m cap) m ys := by
  have hc := hp.cell
  have HP := Lib.hid hp
  clear hp
  have hm0 : (((m : Int) + 1) == 0) = false := by simp; omega
  go_enter Tryz.func147, Tryz.ntmps147
  go_wp2_with (first | (go_at_call 87; refine (innerU_any D _).mono ?_; rintro e w' ⟨rfl, rfl⟩) | (go_at_call 124; refine (sizeU_any D a (m + 1) cap _ hc).mono ?_; rintro e w' ⟨rfl, rfl⟩) | (go_at_call 168; refine (takeU_any T G i D a m cap ys x _ HP.out).mono ?_; rintro e w' ⟨rfl, hr⟩))
  go_ret
  exact ⟨rfl, hr⟩

theorem cellsU_nil (w : World) : Calls Tryz.prog 30 #[.pointer none] w fun e w' => e = .returned (.slice none 0 0) ∧ w = w' := by
  go_enter Tryz.func30, Tryz.ntmps30
  go_wp2_with (first | (go_at_call 87; refine (innerU_nil _).mono ?_; rintro e w' ⟨rfl, rfl⟩) | (go_at_call 88; refine (allU_nil _).mono ?_; rintro e w' ⟨rfl, rfl⟩))
  go_ret
  exact ⟨rfl, rfl⟩
theorem cellsU_none (D : Nat) (a : Option Addr) (cap : Nat) (w : World) (hc : w.cell? ⟨D, 0, none⟩ = some (.slice a 0 cap)) :
    Calls Tryz.prog 30 #[.pointer (some ⟨D, 0, none⟩)] w fun e w' => e = .returned (.slice none 0 0) ∧ w = w' := by
  go_enter Tryz.func30, Tryz.ntmps30
  go_wp2_with (first | (go_at_call 87; refine (innerU_any D _).mono ?_; rintro e w' ⟨rfl, rfl⟩) | (go_at_call 88; refine (allU_none D a cap _ hc).mono ?_; rintro e w' ⟨rfl, rfl⟩))
  go_ret
  exact ⟨rfl, rfl⟩
set_option maxHeartbeats 400000 in
theorem cellsU_some (D : Nat) (a : Addr) (n cap : Nat) (xs : List Value) (w : World) (hn0 : 0 < n) (hn1 : n ≤ 1000) (hl : xs.length = n) (hone : ∀ u ∈ xs, u.oneCell' = true)
    (hc : w.cell? ⟨D, 0, none⟩ = some (.slice (some a) n cap)) (hx : ∀ j u, xs[j]? = some u → w.cell? (a.add j) = some u) (hb : a.block < w.heap.size) :
    Calls Tryz.prog 30 #[.pointer (some ⟨D, 0, none⟩)] w fun e w' => e = .returned (.slice (some ⟨w.heap.size, 0, none⟩) n n) ∧ w' = w.alloc (.cells xs.toArray 31) := by
  have HL := Lib.hid hl
  clear hl
  go_enter Tryz.func30, Tryz.ntmps30
  go_wp2_with (first | (go_at_call 87; refine (innerU_any D _).mono ?_; rintro e w' ⟨rfl, rfl⟩) | (go_at_call 88; refine (allU_some D a n cap xs _ hn0 hn1 HL.out hone hc hx hb).mono ?_; rintro e w' ⟨rfl, rfl⟩))
  go_ret
  exact ⟨rfl, rfl⟩
end Go.Proofs.YtdnalhjdmlkbmaaGreatDoor
namespace Go.Proofs.YtdnalhjdmlkbmaaGreatDoor
open Go.RowKit

theorem Tryz.info111 : (Tryz.prog.info? 111).map (fun i => (i.zero, i.size, i.bytes)) = some (some (.agg #[.int .i64 0, .int .u16 0]), 2, 16) := by kernel_rfl

/-- The cells of a list of api.Cell. -/
def cellsR (l : List (Int × Int)) : List Value := l.flatMap fun c => [.int .i64 c.1, .int .u16 c.2]
theorem cellsR_length (l : List (Int × Int)) : (cellsR l).length = l.length * 2 := by
  induction l with
  | nil => rfl
  | cons c l ih => simp only [cellsR, List.flatMap_cons, List.length_append, List.length_cons, List.length_nil] at ih ⊢; omega
theorem cellsR_append (l m : List (Int × Int)) : cellsR (l ++ m) = cellsR l ++ cellsR m := List.flatMap_append
theorem cellsR_fst (l : List (Int × Int)) (k : Nat) (c : Int × Int) (h : l[k]? = some c) : (cellsR l)[k * 2]? = some (.int .i64 c.1) ∧ (cellsR l)[k * 2 + 1]? = some (.int .u16 c.2) := by
  induction l generalizing k with
  | nil => simp at h
  | cons d l ih =>
    cases k with
    | zero => simp at h; subst h; exact ⟨rfl, rfl⟩
    | succ k =>
      have := ih k (by simpa using h)
      simp only [cellsR, List.flatMap_cons] at this ⊢
      rw [show (k + 1) * 2 = k * 2 + 2 from by omega]
      exact this
theorem cellsR_one (l : List (Int × Int)) : ∀ u ∈ cellsR l, u.oneCell' = true := by
  intro u hu
  simp only [cellsR, List.mem_flatMap] at hu
  obtain ⟨c, _, hc⟩ := hu
  simp at hc
  rcases hc with rfl | rfl <;> rfl

/-- Two cells of an element that is read. -/
theorem Reads.atR {w : World} {ya : Option Addr} {l : List (Int × Int)} (h : Reads w ya (cellsR l)) (k : Nat) (c : Int × Int) (hk : l[k]? = .some c) :
    ∃ b o, ya = .some ⟨b, o, none⟩ ∧ w.cell? ⟨b, o + k * 2, none⟩ = .some (.int .i64 c.1) ∧ w.cell? ⟨b, o + k * 2 + 1, none⟩ = .some (.int .u16 c.2) ∧ b < w.heap.size := by
  obtain ⟨h1, h2⟩ := cellsR_fst l k c hk
  obtain ⟨b, o, rfl, h, hb⟩ := h.some (by intro e; rw [e] at h1; simp at h1)
  exact ⟨b, o, rfl, h _ _ h1, by rw [Nat.add_assoc]; exact h _ _ h2, hb⟩
/-- Two cells of an element of a pile. -/
theorem Pile.atR {T : Nat} {w : World} {G : Nat → Nat} {i D : Nat} {a : Option Addr} {n cap : Nat} {l : List (Int × Int)} (h : Pile 111 T 2 w G i D (.slice a n cap) n (cellsR l)) (k : Nat) (c : Int × Int) (hk : l[k]? = some c) :
    ∃ g, a = some ⟨g, 0, none⟩ ∧ n ≤ cap ∧ cap ≤ maxLen ∧ g < w.heap.size ∧ G g = i ∧ w.cell? ⟨g, k * 2, none⟩ = some (.int .i64 c.1) ∧ w.cell? ⟨g, k * 2 + 1, none⟩ = some (.int .u16 c.2) ∧ w.frozen? ⟨g, k * 2, none⟩ = false ∧ w.frozen? ⟨g, k * 2 + 1, none⟩ = false := by
  have hlen := h.nlen
  rw [cellsR_length] at hlen
  have hkl : k < l.length := (List.getElem?_eq_some_iff.1 hk).1
  obtain ⟨g, cap', cur, e1, hbg, hg, hnc, hcm, hcs, htake⟩ := h.row.2.resolve_left (by rintro ⟨_, h⟩; omega)
  obtain ⟨rfl, _, rfl⟩ : a = some ⟨g, 0, none⟩ ∧ n = n ∧ cap = cap' := by simpa using e1
  obtain ⟨h1, h2⟩ := cellsR_fst l k c hk
  have c1 := h.row.cells (g := g) rfl _ _ h1
  have c2 := h.row.cells (g := g) rfl _ _ h2
  rw [Addr.add_lit, Nat.zero_add] at c1 c2
  exact ⟨g, rfl, hnc, hcm, (h.row.lt g rfl).2, h.rown g rfl, c1, c2, by simp [World.frozen?, hg], by simp [World.frozen?, hg]⟩

set_option maxHeartbeats 400000 in
theorem innerR_any (D : Nat) (w : World) : Calls Tryz.prog 89 #[.pointer (some ⟨D, 0, none⟩)] w fun e w' => e = .returned (.pointer (some ⟨D, 0, none⟩)) ∧ w = w' := by
  go_enter Tryz.func89, Tryz.ntmps89
  go_wp2
  go_ret
  exact ⟨rfl, rfl⟩
theorem innerR_nil (w : World) : Calls Tryz.prog 89 #[.pointer none] w fun e w' => e = .returned (.pointer none) ∧ w = w' := by
  go_enter Tryz.func89, Tryz.ntmps89
  go_wp2
  go_ret
  exact ⟨rfl, rfl⟩
theorem sizeR_any (D : Nat) (a : Option Addr) (n cap : Nat) (w : World) (hc : w.cell? ⟨D, 0, none⟩ = some (.slice a n cap)) :
    Calls Tryz.prog 126 #[.pointer (some ⟨D, 0, none⟩)] w fun e w' => e = .returned (.int .i64 n) ∧ w = w' := by
  go_enter Tryz.func126, Tryz.ntmps126
  go_wp2
  go_ret
  exact ⟨rfl, rfl⟩
theorem sizeR_nil (w : World) : Calls Tryz.prog 126 #[.pointer none] w fun e w' => e = .returned (.int .i64 0) ∧ w = w' := by
  go_enter Tryz.func126, Tryz.ntmps126
  go_wp2
  go_ret
  exact ⟨rfl, rfl⟩
theorem roomR_any (D : Nat) (a : Option Addr) (n cap : Nat) (m lim : Int) (w : World) (hc : w.cell? ⟨D, 0, none⟩ = some (.slice a n cap)) (hn : n ≤ 9223372036854775807) (h0 : 0 ≤ lim) (h1 : lim ≤ 100000) :
    Calls Tryz.prog 132 #[.pointer (some ⟨D, 0, none⟩), .int .i64 m, .int .i64 lim] w fun e w' => e = .returned (.bool (decide (m ≤ lim - n))) ∧ w = w' := by
  go_enter Tryz.func132, Tryz.ntmps132
  go_wp2
  go_ret
  exact ⟨rfl, rfl⟩
theorem roomR_nil (m lim : Int) (w : World) :
    Calls Tryz.prog 132 #[.pointer none, .int .i64 m, .int .i64 lim] w fun e w' => e = .returned (.bool false) ∧ w = w' := by
  go_enter Tryz.func132, Tryz.ntmps132
  go_wp2
  go_ret
  exact ⟨rfl, rfl⟩
theorem putR_full (D : Nat) (a : Option Addr) (n cap : Nat) (lim : Int) (xa : Option Addr) (m c : Nat) (w : World) (hc : w.cell? ⟨D, 0, none⟩ = some (.slice a n cap)) (hn : n ≤ 9223372036854775807) (hm : m ≤ 9223372036854775807) (h0 : 0 ≤ lim) (h1 : lim ≤ 100000)
    (hpos : 0 < m) (hfull : lim < (n : Int) + m) :
    Calls Tryz.prog 92 #[.pointer (some ⟨D, 0, none⟩), .int .i64 lim, .slice xa m c] w fun e w' => e = .returned (.bool false) ∧ w = w' := by
  have hm0 : ((m : Int) == 0) = false := by simp; omega
  have hd : decide ((m : Int) ≤ lim - n) = false := by simp; omega
  go_enter Tryz.func92, Tryz.ntmps92
  go_wp2_with (go_at_call 132; refine (roomR_any D a n cap m lim _ hc hn h0 h1).mono ?_; rintro e w' ⟨rfl, rfl⟩)
  go_ret
  exact ⟨rfl, rfl⟩
theorem putR_none (p : Value) (lim : Int) (xa : Option Addr) (c : Nat) (w : World) :
    Calls Tryz.prog 92 #[p, .int .i64 lim, .slice xa 0 c] w fun e w' => e = .returned (.bool true) ∧ w = w' := by
  go_enter Tryz.func92, Tryz.ntmps92
  go_wp2
  go_ret
  exact ⟨rfl, rfl⟩
theorem putR_nil (lim : Int) (xa : Option Addr) (m c : Nat) (w : World) (hpos : 0 < m) :
    Calls Tryz.prog 92 #[.pointer none, .int .i64 lim, .slice xa m c] w fun e w' => e = .returned (.bool false) ∧ w = w' := by
  have hm0 : ((m : Int) == 0) = false := by simp; omega
  go_enter Tryz.func92, Tryz.ntmps92
  go_wp2_with (go_at_call 132; refine (roomR_nil _ _ _).mono ?_; rintro e w' ⟨rfl, rfl⟩)
  go_ret
  exact ⟨rfl, rfl⟩
set_option maxHeartbeats 400000 in
theorem putR_room (T : Nat) (G : Nat → Nat) (i D : Nat) (a : Option Addr) (n cap : Nat) (xs : List Value) (lim : Int) (xa : Addr) (m c : Nat) (news : List Value) (w : World) (hp : Pile 111 T 2 w G i D (.slice a n cap) n xs)
    (hm : m ≤ 9223372036854775807) (h0 : 0 ≤ lim) (h1 : lim ≤ 100000) (hpos : 0 < m) (hroom : (n : Int) + m ≤ lim)
    (hl : news.length = m * 2) (hnews : ∀ j u, news[j]? = some u → w.cell? (xa.add j) = some u) (hone : ∀ u ∈ news, u.oneCell' = true) :
    Calls Tryz.prog 92 #[.pointer (some ⟨D, 0, none⟩), .int .i64 lim, .slice (some xa) m c] w fun e w' => e = .returned (.bool true) ∧
      ∃ G' v', Adv (· = i) w G w' G' ∧ Pile 111 T 2 w' G' i D v' (n + m) (xs ++ news) := by
  have hm0 : ((m : Int) == 0) = false := by simp; omega
  have hd : decide ((m : Int) ≤ lim - n) = true := by simp; omega
  have hc := hp.cell
  have hf := hp.frozen
  obtain ⟨i0, hi, hz0, hz1, hz2⟩ := info_parts Tryz.info111
  have HP := Lib.hid hp
  have HL := Lib.hid hl
  clear hp hl
  have hcD : ∀ w1, w.grownBy w1 (Value.slice a n cap).ownBlock → w1.cell? ⟨D, 0, none⟩ = some (.slice a n cap) ∧ w1.frozen? ⟨D, 0, none⟩ = false := fun w1 hg =>
    ⟨(World.cell?_of_block (hg.block D HP.out.lt (fun e => HP.out.ne e.symm))).trans hc, (World.frozen?_of_block (hg.block D HP.out.lt (fun e => HP.out.ne e.symm))).trans hf⟩
  have HD := Lib.hid hcD
  clear hcD
  go_enter Tryz.func92, Tryz.ntmps92
  go_wp2_with (first | (go_at_call 132; refine (roomR_any D a n cap m lim _ hc (by omega) h0 h1).mono ?_; rintro e w' ⟨rfl, rfl⟩) | (at_builtin; refine wpList_append_own2 rfl (.tmp 20) (.tmp 21) 23 rfl 111 i0 (.agg #[.int .i64 0, .int .u16 0]) 2 16 Tryz.underlying23 hi hz0 hz1 hz2 rfl (by decide) a n cap xs rfl HP.out.row xa m c news rfl HL.out hnews hone (by unfold maxLen; omega) (by omega) ?_; intro va' vc' w1 h1 h2 h3; obtain ⟨hc1, hf1⟩ := HD.out w1 h2; have H1 := Lib.hid h1; clear h1; have H2 := Lib.hid h2; clear h2; have H3 := Lib.hid h3; clear h3))
  go_ret
  exact ⟨rfl, _, _, HP.out.appended H1.out H2.out H3.out⟩

set_option maxHeartbeats 400000 in
theorem topR_any (D : Nat) (n cap : Nat) (g k j : Nat) (w : World) (hc : w.cell? ⟨D, 0, none⟩ = some (.slice (some ⟨g, 0, none⟩) n cap)) (hn : n ≤ 100000) (hj : j + k + 1 = n) :
    Calls Tryz.prog 162 #[.pointer (some ⟨D, 0, none⟩), .int .i64 j] w fun e w' => e = .returned (.pointer (some ⟨g, k * 2, none⟩)) ∧ ∃ d, w' = w.drewN d := by
  have h1 : decide ((j : Int) < 0) = false := by simp
  have h2 : decide ((n : Int) ≤ j) = false := by simp; omega
  obtain rfl : n = j + k + 1 := hj.symm
  clear hj
  go_enter Tryz.func162, Tryz.ntmps162
  go_wp2_with (go_at_call 126; refine (sizeR_any D (some ⟨g, 0, none⟩) (j + k + 1) cap _ hc).mono ?_; rintro e w' ⟨rfl, rfl⟩)
  go_quiet (fail)
  go_wp2
  rw [show j + k - j = k from by omega]
  go_ret
  exact ⟨rfl, nq, rfl⟩
theorem topR_nil (j : Int) (w : World) : Calls Tryz.prog 162 #[.pointer none, .int .i64 j] w fun e w' => e = .returned (.pointer none) ∧ w = w' := by
  go_enter Tryz.func162, Tryz.ntmps162
  by_cases h1 : j < 0
  · have h2 : decide (j < 0) = true := by simpa using h1
    go_wp2_with (go_at_call 126; refine (sizeR_nil _).mono ?_; rintro e w' ⟨rfl, rfl⟩)
    go_ret
    exact ⟨rfl, rfl⟩
  · have h2 : decide (j < 0) = false := by simpa using h1
    have h3 : decide (0 ≤ j) = true := by simp; omega
    go_wp2_with (go_at_call 126; refine (sizeR_nil _).mono ?_; rintro e w' ⟨rfl, rfl⟩)
    go_ret
    exact ⟨rfl, rfl⟩
theorem topR_out (D : Nat) (a : Option Addr) (n cap : Nat) (j : Int) (w : World) (hc : w.cell? ⟨D, 0, none⟩ = some (.slice a n cap)) (hj : j < 0 ∨ (n : Int) ≤ j) :
    Calls Tryz.prog 162 #[.pointer (some ⟨D, 0, none⟩), .int .i64 j] w fun e w' => e = .returned (.pointer none) ∧ w = w' := by
  go_enter Tryz.func162, Tryz.ntmps162
  by_cases h1 : j < 0
  · have h2 : decide (j < 0) = true := by simpa using h1
    go_wp2_with (go_at_call 126; refine (sizeR_any D a n cap _ hc).mono ?_; rintro e w' ⟨rfl, rfl⟩)
    go_ret
    exact ⟨rfl, rfl⟩
  · have h2 : decide (j < 0) = false := by simpa using h1
    have h3 : decide ((n : Int) ≤ j) = true := by simp; omega
    go_wp2_with (go_at_call 126; refine (sizeR_any D a n cap _ hc).mono ?_; rintro e w' ⟨rfl, rfl⟩)
    go_ret
    exact ⟨rfl, rfl⟩

theorem zero43 (w : World) : (zeroValue 111).run Tryz.prog w = .ok (.agg #[.int .i64 0, .int .u16 0]) w := by kernel_rfl

set_option maxHeartbeats 400000 in
theorem takeR_any (T : Nat) (G : Nat → Nat) (i D : Nat) (a : Option Addr) (m cap : Nat) (l : List (Int × Int)) (c : Int × Int) (hlm : l.length = m) (w : World) (hp : Pile 111 T 2 w G i D (.slice a (m + 1) cap) (m + 1) (cellsR (l ++ [c]))) :
    Calls Tryz.prog 170 #[.pointer (some ⟨D, 0, none⟩)] w fun e w' => e = .returned (.agg #[.int .i64 c.1, .int .u16 c.2]) ∧ ∃ G', Adv (· = i) w G w' G' ∧ Pile 111 T 2 w' G' i D (.slice a m cap) m (cellsR l) := by
  obtain ⟨g, rfl, hlc, hcap, hgl, hGg, c1, c2, f1, f2⟩ := hp.atR m c (by rw [← hlm]; simp)
  have hc := hp.cell
  have hf := hp.frozen
  have hmax : cap ≤ 9223372036854775807 := by unfold maxLen at hcap; omega
  have hD := hp.lt
  have HP := Lib.hid hp
  have HL := Lib.hid hlm
  clear hp hcap hGg hlm
  go_enter Tryz.func170, Tryz.ntmps170
  go_wp2
  obtain ⟨h1, h2⟩ := HP.out.cut (m := m) (by omega)
  have h3 := h2 (.inr rfl)
  rw [cellsR_append, List.take_left' (by rw [cellsR_length, HL.out])] at h3
  refine bodyPost_ret (v := .agg #[.int .i64 c.1, .int .u16 c.2]) (by simp [results, Tryz.results170, go_sem]) rfl ⟨rfl, _, (h1.alloc _ 0).alloc _ 0, (h3.alloc _ 0).alloc _ 0⟩

theorem allR_nil (w : World) : Calls Tryz.prog 90 #[.pointer none] w fun e w' => e = .returned (.slice none 0 0) ∧ w = w' := by
  go_enter Tryz.func90, Tryz.ntmps90
  go_wp2_with (go_at_call 126; refine (sizeR_nil _).mono ?_; rintro e w' ⟨rfl, rfl⟩)
  go_ret
  exact ⟨rfl, rfl⟩
theorem allR_none (D : Nat) (a : Option Addr) (cap : Nat) (w : World) (hc : w.cell? ⟨D, 0, none⟩ = some (.slice a 0 cap)) :
    Calls Tryz.prog 90 #[.pointer (some ⟨D, 0, none⟩)] w fun e w' => e = .returned (.slice none 0 0) ∧ w = w' := by
  go_enter Tryz.func90, Tryz.ntmps90
  go_wp2_with (go_at_call 126; refine (sizeR_any D a 0 cap _ hc).mono ?_; rintro e w' ⟨rfl, rfl⟩)
  go_ret
  exact ⟨rfl, rfl⟩
set_option maxRecDepth 100000 in
set_option maxHeartbeats 400000 in
theorem allR_some (D : Nat) (a : Addr) (n cap : Nat) (xs : List Value) (w : World) (hn0 : 0 < n) (hn1 : n ≤ 1000) (hl : xs.length = n * 2) (hone : ∀ u ∈ xs, u.oneCell' = true)
    (hc : w.cell? ⟨D, 0, none⟩ = some (.slice (some a) n cap)) (hx : ∀ j u, xs[j]? = some u → w.cell? (a.add j) = some u) (hb : a.block < w.heap.size) :
    Calls Tryz.prog 90 #[.pointer (some ⟨D, 0, none⟩)] w fun e w' => e = .returned (.slice (some ⟨w.heap.size, 0, none⟩) n n) ∧ w' = w.alloc (.cells xs.toArray 111) := by
  have hm0 : ((n : Int) == 0) = false := by simp; omega
  obtain ⟨i0, hi, hz0, hz1, hz2⟩ := info_parts Tryz.info111
  have hmk := fun w1 => run_make (P := Tryz.prog) w1 23 111 i0 (.agg #[.int .i64 0, .int .u16 0]) Tryz.underlying23 hi hz0 .i64 .i64 n n (by omega) (by omega) (by rw [hz2]; omega) (by omega)
  rw [hz1, Int.toNat_natCast] at hmk
  have HL := Lib.hid hl
  clear hl
  have hD : D < w.heap.size := World.block_lt_of_cell? w _ hc
  go_enter Tryz.func90, Tryz.ntmps90
  go_wp2_with (first | (go_at_call 126; refine (sizeR_any D (some a) n cap _ hc).mono ?_; rintro e w' ⟨rfl, rfl⟩) | (refine wpList_copy_new rfl (.tmp 13) (.tmp 17) 23 23 rfl 111 i0 Tryz.underlying23 hi n n a cap rfl rfl _ xs (by rw [HL.out, hz1]) (by rw [HL.out]; simp [size_madeCells]) hx hb hone ?_))
  go_ret
  exact ⟨rfl, rfl⟩
end Go.Proofs.YtdnalhjdmlkbmaaGreatDoor
namespace Go.Proofs.YtdnalhjdmlkbmaaGreatDoor
open Go.RowKit

theorem lenR_any (D : Nat) (a : Option Addr) (n cap : Nat) (w : World) (hc : w.cell? ⟨D, 0, none⟩ = some (.slice a n cap)) :
    Calls Tryz.prog 79 #[.pointer (some ⟨D, 0, none⟩)] w fun e w' => e = .returned (.int .i64 n) ∧ w = w' := by
  go_enter Tryz.func79, Tryz.ntmps79
  go_wp2_with (first | (go_at_call 89; refine (innerR_any D _).mono ?_; rintro e w' ⟨rfl, rfl⟩) | (go_at_call 126; refine (sizeR_any D a n cap _ hc).mono ?_; rintro e w' ⟨rfl, rfl⟩))
  go_ret
  exact ⟨rfl, rfl⟩
theorem lenR_nil (w : World) : Calls Tryz.prog 79 #[.pointer none] w fun e w' => e = .returned (.int .i64 0) ∧ w = w' := by
  go_enter Tryz.func79, Tryz.ntmps79
  go_wp2_with (first | (go_at_call 89; refine (innerR_nil _).mono ?_; rintro e w' ⟨rfl, rfl⟩) | (go_at_call 126; refine (sizeR_nil _).mono ?_; rintro e w' ⟨rfl, rfl⟩))
  go_ret
  exact ⟨rfl, rfl⟩

theorem pushR_nil (xa : Option Addr) (m c : Nat) (w : World) (hpos : 0 < m) :
    Calls Tryz.prog 41 #[.pointer none, .slice xa m c] w fun e w' => e = .returned (.int .i64 4) ∧ w = w' := by
  go_enter Tryz.func41, Tryz.ntmps41
  go_wp2_with (first | (go_at_call 89; refine (innerR_nil _).mono ?_; rintro e w' ⟨rfl, rfl⟩) | (go_at_call 92; refine (putR_nil _ xa m c _ hpos).mono ?_; rintro e w' ⟨rfl, rfl⟩))
  go_ret
  exact ⟨rfl, rfl⟩
theorem pushR_nil0 (xa : Option Addr) (c : Nat) (w : World) :
    Calls Tryz.prog 41 #[.pointer none, .slice xa 0 c] w fun e w' => e = .returned (.int .i64 0) ∧ w = w' := by
  go_enter Tryz.func41, Tryz.ntmps41
  go_wp2_with (first | (go_at_call 89; refine (innerR_nil _).mono ?_; rintro e w' ⟨rfl, rfl⟩) | (go_at_call 92; refine (putR_none _ _ xa c _).mono ?_; rintro e w' ⟨rfl, rfl⟩))
  go_ret
  exact ⟨rfl, rfl⟩
theorem pushR_none (D : Nat) (xa : Option Addr) (c : Nat) (w : World) :
    Calls Tryz.prog 41 #[.pointer (some ⟨D, 0, none⟩), .slice xa 0 c] w fun e w' => e = .returned (.int .i64 0) ∧ w = w' := by
  go_enter Tryz.func41, Tryz.ntmps41
  go_wp2_with (first | (go_at_call 89; refine (innerR_any D _).mono ?_; rintro e w' ⟨rfl, rfl⟩) | (go_at_call 92; refine (putR_none _ _ xa c _).mono ?_; rintro e w' ⟨rfl, rfl⟩))
  go_ret
  exact ⟨rfl, rfl⟩
theorem pushR_full (D : Nat) (a : Option Addr) (n cap : Nat) (xa : Option Addr) (m c : Nat) (w : World) (hc : w.cell? ⟨D, 0, none⟩ = some (.slice a n cap)) (hn : n ≤ 9223372036854775807) (hm : m ≤ 9223372036854775807)
    (hpos : 0 < m) (hfull : 128 < (n : Int) + m) :
    Calls Tryz.prog 41 #[.pointer (some ⟨D, 0, none⟩), .slice xa m c] w fun e w' => e = .returned (.int .i64 4) ∧ w = w' := by
  go_enter Tryz.func41, Tryz.ntmps41
  go_wp2_with (first | (go_at_call 89; refine (innerR_any D _).mono ?_; rintro e w' ⟨rfl, rfl⟩) | (go_at_call 92; refine (putR_full D a n cap 128 xa m c _ hc hn hm (by omega) (by omega) hpos hfull).mono ?_; rintro e w' ⟨rfl, rfl⟩))
  go_ret
  exact ⟨rfl, rfl⟩
set_option maxHeartbeats 400000 in
theorem pushR_room (T : Nat) (G : Nat → Nat) (i D : Nat) (a : Option Addr) (n cap : Nat) (xs : List Value) (xa : Addr) (m c : Nat) (news : List Value) (w : World) (hp : Pile 111 T 2 w G i D (.slice a n cap) n xs)
    (hm : m ≤ 9223372036854775807) (hpos : 0 < m) (hroom : (n : Int) + m ≤ 128)
    (hl : news.length = m * 2) (hnews : ∀ j u, news[j]? = some u → w.cell? (xa.add j) = some u) (hone : ∀ u ∈ news, u.oneCell' = true) :
    Calls Tryz.prog 41 #[.pointer (some ⟨D, 0, none⟩), .slice (some xa) m c] w fun e w' => e = .returned (.int .i64 0) ∧
      ∃ G' v', Adv (· = i) w G w' G' ∧ Pile 111 T 2 w' G' i D v' (n + m) (xs ++ news) := by
  have HP := Lib.hid hp
  have HL := Lib.hid hl
  clear hp hl
  go_enter Tryz.func41, Tryz.ntmps41
  go_wp2_with (first | (go_at_call 89; refine (innerR_any D _).mono ?_; rintro e w' ⟨rfl, rfl⟩) | (go_at_call 92; refine (putR_room T G i D a n cap xs 128 xa m c news _ HP.out hm (by omega) (by omega) hpos hroom HL.out hnews hone).mono ?_; rintro e w' ⟨rfl, hr⟩))
  go_ret
  exact ⟨rfl, hr⟩

/-- At's answers. -/
def atV (l : List (Int × Int)) (n kind : Int) : Int := if 0 ≤ n ∧ n < l.length then (if (l.getD (l.length - 1 - n.toNat) (0, 0)).1 = kind then (l.getD (l.length - 1 - n.toNat) (0, 0)).2 else 0) else 0
def atE (l : List (Int × Int)) (n kind : Int) : Int := if 0 ≤ n ∧ n < l.length then (if (l.getD (l.length - 1 - n.toNat) (0, 0)).1 = kind then 0 else 5) else 3
theorem atV_in {l : List (Int × Int)} {j k : Nat} {kind : Int} {c : Int × Int} (h : j + k + 1 = l.length) (hc : l[k]? = some c) : atV l j kind = if c.1 = kind then c.2 else 0 := by
  unfold atV
  rw [if_pos (by omega), show l.length - 1 - ((j : Int)).toNat = k from by omega, List.getD, hc]; rfl
theorem atE_in {l : List (Int × Int)} {j k : Nat} {kind : Int} {c : Int × Int} (h : j + k + 1 = l.length) (hc : l[k]? = some c) : atE l j kind = if c.1 = kind then 0 else 5 := by
  unfold atE
  rw [if_pos (by omega), show l.length - 1 - ((j : Int)).toNat = k from by omega, List.getD, hc]; rfl
theorem at_out {l : List (Int × Int)} {n kind : Int} (h : n < 0 ∨ (l.length : Int) ≤ n) : atV l n kind = 0 ∧ atE l n kind = 3 := by
  unfold atV atE
  rw [if_neg (by omega), if_neg (by omega)]; exact ⟨rfl, rfl⟩

theorem atR_nil (n kind : Int) (w : World) : Calls Tryz.prog 125 #[.pointer none, .int .i64 n, .int .i64 kind] w fun e w' => e = .returned (.tuple #[.int .u16 0, .int .i64 3]) ∧ w = w' := by
  go_enter Tryz.func125, Tryz.ntmps125
  go_wp2_with (first | (go_at_call 89; refine (innerR_nil _).mono ?_; rintro e w' ⟨rfl, rfl⟩) | (go_at_call 162; refine (topR_nil _ _).mono ?_; rintro e w' ⟨rfl, rfl⟩))
  go_ret2
  exact ⟨rfl, rfl⟩
theorem atR_out (D : Nat) (a : Option Addr) (m cap : Nat) (n kind : Int) (w : World) (hc : w.cell? ⟨D, 0, none⟩ = some (.slice a m cap)) (hn : n < 0 ∨ (m : Int) ≤ n) :
    Calls Tryz.prog 125 #[.pointer (some ⟨D, 0, none⟩), .int .i64 n, .int .i64 kind] w fun e w' => e = .returned (.tuple #[.int .u16 0, .int .i64 3]) ∧ w = w' := by
  go_enter Tryz.func125, Tryz.ntmps125
  go_wp2_with (first | (go_at_call 89; refine (innerR_any D _).mono ?_; rintro e w' ⟨rfl, rfl⟩) | (go_at_call 162; refine (topR_out D a m cap n _ hc hn).mono ?_; rintro e w' ⟨rfl, rfl⟩))
  go_ret2
  exact ⟨rfl, rfl⟩
set_option maxHeartbeats 400000 in
theorem atR_same (D g : Nat) (m cap j k : Nat) (c1 c2 : Int) (w : World) (hc : w.cell? ⟨D, 0, none⟩ = some (.slice (some ⟨g, 0, none⟩) m cap)) (hm : m ≤ 100000) (hj : j + k + 1 = m)
    (h1 : w.cell? ⟨g, k * 2, none⟩ = some (.int .i64 c1)) (h2 : w.cell? ⟨g, k * 2 + 1, none⟩ = some (.int .u16 c2)) :
    Calls Tryz.prog 125 #[.pointer (some ⟨D, 0, none⟩), .int .i64 j, .int .i64 c1] w fun e w' => e = .returned (.tuple #[.int .u16 c2, .int .i64 0]) ∧ ∃ d, w' = w.drewN d := by
  have HJ := Lib.hid hj
  clear hj
  go_enter Tryz.func125, Tryz.ntmps125
  go_wp2_with (first | (go_at_call 89; refine (innerR_any D _).mono ?_; rintro e w' ⟨rfl, rfl⟩) | (go_at_call 162; refine (topR_any D m cap g k j _ hc hm HJ.out).mono ?_; rintro e w' ⟨rfl, d, rfl⟩))
  go_ret2
  exact ⟨rfl, d, rfl⟩
set_option maxHeartbeats 400000 in
theorem atR_other (D g : Nat) (m cap j k : Nat) (kind c1 c2 : Int) (hb : (c1 != kind) = true) (w : World) (hc : w.cell? ⟨D, 0, none⟩ = some (.slice (some ⟨g, 0, none⟩) m cap)) (hm : m ≤ 100000) (hj : j + k + 1 = m)
    (h1 : w.cell? ⟨g, k * 2, none⟩ = some (.int .i64 c1)) (_h2 : w.cell? ⟨g, k * 2 + 1, none⟩ = some (.int .u16 c2)) :
    Calls Tryz.prog 125 #[.pointer (some ⟨D, 0, none⟩), .int .i64 j, .int .i64 kind] w fun e w' => e = .returned (.tuple #[.int .u16 0, .int .i64 5]) ∧ ∃ d, w' = w.drewN d := by
  have HJ := Lib.hid hj
  clear hj
  have hk : ¬ c1 = kind := by simpa using hb
  go_enter Tryz.func125, Tryz.ntmps125
  go_wp2_with (first | (go_at_call 89; refine (innerR_any D _).mono ?_; rintro e w' ⟨rfl, rfl⟩) | (go_at_call 162; refine (topR_any D m cap g k j _ hc hm HJ.out).mono ?_; rintro e w' ⟨rfl, d, rfl⟩))
  go_ret2
  exact ⟨rfl, d, rfl⟩
/-- At, of whatever place and kind. -/
theorem atR_any (T : Nat) (G : Nat → Nat) (i D : Nat) (a : Option Addr) (m cap : Nat) (l : List (Int × Int)) (n kind : Int) (w : World) (hp : Pile 111 T 2 w G i D (.slice a m cap) m (cellsR l)) (hm : m ≤ 100000) :
    Calls Tryz.prog 125 #[.pointer (some ⟨D, 0, none⟩), .int .i64 n, .int .i64 kind] w fun e w' => e = .returned (.tuple #[.int .u16 (atV l n kind), .int .i64 (atE l n kind)]) ∧ ∃ d, w' = w.drewN d := by
  have hlen : l.length = m := by have := hp.nlen; rw [cellsR_length] at this; omega
  by_cases hn : 0 ≤ n ∧ n < m
  · obtain ⟨j, rfl⟩ : ∃ j : Nat, n = j := ⟨n.toNat, by omega⟩
    obtain ⟨k, hk⟩ : ∃ k : Nat, j + k + 1 = m := ⟨m - 1 - j, by omega⟩
    obtain ⟨c, hc⟩ : ∃ c, l[k]? = some c := ⟨l[k]'(by omega), by simp⟩
    obtain ⟨g, rfl, _, _, _, _, h1, h2, _, _⟩ := hp.atR k c hc
    rw [atV_in (by omega) hc, atE_in (by omega) hc]
    by_cases e : c.1 = kind
    · rw [if_pos e, if_pos e, ← e]
      exact atR_same D g m cap j k c.1 c.2 w hp.cell hm hk h1 h2
    · rw [if_neg e, if_neg e]
      exact atR_other D g m cap j k kind c.1 c.2 (by simpa using e) w hp.cell hm hk h1 h2
  · rw [(at_out (by omega)).1, (at_out (by omega)).2]
    exact (atR_out D a m cap n kind w hp.cell (by omega)).mono fun e w' h => ⟨h.1, 0, h.2.symm⟩

theorem setR_nil (x : Int) (w : World) : Calls Tryz.prog 169 #[.pointer none, .int .u16 x] w fun e w' => e = .returned (.tuple #[]) ∧ w = w' := by
  go_enter Tryz.func169, Tryz.ntmps169
  go_wp2_with (first | (go_at_call 89; refine (innerR_nil _).mono ?_; rintro e w' ⟨rfl, rfl⟩) | (go_at_call 162; refine (topR_nil _ _).mono ?_; rintro e w' ⟨rfl, rfl⟩))
  go_end0
  exact ⟨rfl, rfl⟩
theorem setR_none (D : Nat) (a : Option Addr) (cap : Nat) (x : Int) (w : World) (hc : w.cell? ⟨D, 0, none⟩ = some (.slice a 0 cap)) : Calls Tryz.prog 169 #[.pointer (some ⟨D, 0, none⟩), .int .u16 x] w fun e w' => e = .returned (.tuple #[]) ∧ w = w' := by
  go_enter Tryz.func169, Tryz.ntmps169
  go_wp2_with (first | (go_at_call 89; refine (innerR_any D _).mono ?_; rintro e w' ⟨rfl, rfl⟩) | (go_at_call 162; refine (topR_out D a 0 cap 0 _ hc (.inr (by omega))).mono ?_; rintro e w' ⟨rfl, rfl⟩))
  go_end0
  exact ⟨rfl, rfl⟩
theorem cellsR_set (l : List (Int × Int)) (c : Int × Int) (x : Int) : (cellsR (l ++ [c])).set (l.length * 2 + 1) (.int .u16 x) = cellsR (l ++ [(c.1, x)]) := by
  rw [cellsR_append, cellsR_append, ← cellsR_length, List.set_append_right _ _ (by omega)]
  congr 1
  rw [show (cellsR l).length + 1 - (cellsR l).length = 1 from by omega]; rfl
theorem Pile.drewN {e T size : Nat} {w : World} {G : Nat → Nat} {i D : Nat} {v : Value} {n : Nat} {xs : List Value} (h : Pile e T size w G i D v n xs) (d : Nat) : Pile e T size (w.drewN d) G i D v n xs :=
  h.adv (S := fun _ => False) ((Adv.refl _ w G).drewN d) id
set_option maxHeartbeats 400000 in
theorem setR_some (T : Nat) (G : Nat → Nat) (i D : Nat) (a : Option Addr) (m cap : Nat) (l : List (Int × Int)) (c : Int × Int) (x : Int) (hlm : l.length = m) (hm : m < 100000) (w : World) (hp : Pile 111 T 2 w G i D (.slice a (m + 1) cap) (m + 1) (cellsR (l ++ [c]))) :
    Calls Tryz.prog 169 #[.pointer (some ⟨D, 0, none⟩), .int .u16 x] w fun e w' => e = .returned (.tuple #[]) ∧ Adv (· = i) w G w' G ∧ Pile 111 T 2 w' G i D (.slice a (m + 1) cap) (m + 1) (cellsR (l ++ [(c.1, x)])) := by
  obtain ⟨g, rfl, hlc, hcap, hgl, hGg, c1, c2, f1, f2⟩ := hp.atR m c (by rw [← hlm]; simp)
  have hc := hp.cell
  have HP := Lib.hid hp
  have HL := Lib.hid hlm
  clear hp hcap hGg hlm
  go_enter Tryz.func169, Tryz.ntmps169
  go_wp2_with (first | (go_at_call 89; refine (innerR_any D _).mono ?_; rintro e w' ⟨rfl, rfl⟩) | (go_at_call 162; refine (topR_any D (m + 1) cap g m 0 _ hc (by omega) (by omega)).mono ?_; rintro e w' ⟨rfl, d, rfl⟩))
  go_end0
  have h := (HP.out.drewN d).store (m * 2 + 1) (by rw [cellsR_length]; simp; have := HL.out; omega) (.int .u16 x)
  rw [← HL.out, cellsR_set, HL.out] at h
  exact ⟨rfl, (((Adv.refl _ w G).drewN d).trans h.1), h.2⟩

theorem popR_nil (kind : Int) (w : World) : Calls Tryz.prog 149 #[.pointer none, .int .i64 kind] w fun e w' => e = .returned (.tuple #[.int .u16 0, .int .i64 3]) ∧ w = w' := by
  go_enter Tryz.func149, Tryz.ntmps149
  go_wp2_with (go_at_call 125; refine (atR_nil 0 kind _).mono ?_; rintro e w' ⟨rfl, rfl⟩)
  go_ret2
  exact ⟨rfl, rfl⟩
/-- Pop of what is not so: nothing is taken. -/
theorem popR_not (T : Nat) (G : Nat → Nat) (i D : Nat) (a : Option Addr) (m cap : Nat) (l : List (Int × Int)) (kind : Int) (w : World) (hp : Pile 111 T 2 w G i D (.slice a m cap) m (cellsR l)) (hm : m ≤ 100000) (hne : (atE l 0 kind == 0) = false) :
    Calls Tryz.prog 149 #[.pointer (some ⟨D, 0, none⟩), .int .i64 kind] w fun e w' => e = .returned (.tuple #[.int .u16 (atV l 0 kind), .int .i64 (atE l 0 kind)]) ∧ ∃ d, w' = w.drewN d := by
  have HP := Lib.hid hp
  clear hp
  go_enter Tryz.func149, Tryz.ntmps149
  go_wp2_with (go_at_call 125; refine (atR_any T G i D a m cap l 0 kind _ HP.out hm).mono ?_; rintro e w' ⟨rfl, d, rfl⟩)
  go_ret2
  exact ⟨rfl, d, rfl⟩
theorem popR_is (T : Nat) (G : Nat → Nat) (i D : Nat) (a : Option Addr) (m cap : Nat) (l : List (Int × Int)) (c : Int × Int) (w : World) (hlm : l.length = m) (hp : Pile 111 T 2 w G i D (.slice a (m + 1) cap) (m + 1) (cellsR (l ++ [c]))) (hm : m < 100000) :
    Calls Tryz.prog 149 #[.pointer (some ⟨D, 0, none⟩), .int .i64 c.1] w fun e w' => e = .returned (.tuple #[.int .u16 c.2, .int .i64 0]) ∧ ∃ G', Adv (· = i) w G w' G' ∧ Pile 111 T 2 w' G' i D (.slice a m cap) m (cellsR l) := by
  obtain ⟨g, rfl, _, _, _, _, h1, h2, _, _⟩ := hp.atR m c (by rw [← hlm]; simp)
  have hc := hp.cell
  have HP := Lib.hid hp
  have HL := Lib.hid hlm
  clear hp hlm
  go_enter Tryz.func149, Tryz.ntmps149
  go_wp2_with (first | (go_at_call 125; refine (atR_same D g (m + 1) cap 0 m c.1 c.2 _ hc (by omega) (by omega) h1 h2).mono ?_; rintro e w' ⟨rfl, d, rfl⟩) | (go_at_call 170; refine (takeR_any T G i D _ m cap l c HL.out _ (HP.out.drewN d)).mono ?_; rintro e w' ⟨rfl, hr⟩))
  go_ret2
  obtain ⟨G', hr1, hr2⟩ := hr
  exact ⟨rfl, G', ((Adv.refl _ w G).drewN d).trans hr1, hr2⟩

theorem cellsOR_nil (w : World) : Calls Tryz.prog 31 #[.pointer none] w fun e w' => e = .returned (.slice none 0 0) ∧ w = w' := by
  go_enter Tryz.func31, Tryz.ntmps31
  go_wp2_with (first | (go_at_call 89; refine (innerR_nil _).mono ?_; rintro e w' ⟨rfl, rfl⟩) | (go_at_call 90; refine (allR_nil _).mono ?_; rintro e w' ⟨rfl, rfl⟩))
  go_ret
  exact ⟨rfl, rfl⟩
theorem cellsOR_none (D : Nat) (a : Option Addr) (cap : Nat) (w : World) (hc : w.cell? ⟨D, 0, none⟩ = some (.slice a 0 cap)) :
    Calls Tryz.prog 31 #[.pointer (some ⟨D, 0, none⟩)] w fun e w' => e = .returned (.slice none 0 0) ∧ w = w' := by
  go_enter Tryz.func31, Tryz.ntmps31
  go_wp2_with (first | (go_at_call 89; refine (innerR_any D _).mono ?_; rintro e w' ⟨rfl, rfl⟩) | (go_at_call 90; refine (allR_none D a cap _ hc).mono ?_; rintro e w' ⟨rfl, rfl⟩))
  go_ret
  exact ⟨rfl, rfl⟩
set_option maxHeartbeats 400000 in
theorem cellsOR_some (D : Nat) (a : Addr) (n cap : Nat) (xs : List Value) (w : World) (hn0 : 0 < n) (hn1 : n ≤ 1000) (hl : xs.length = n * 2) (hone : ∀ u ∈ xs, u.oneCell' = true)
    (hc : w.cell? ⟨D, 0, none⟩ = some (.slice (some a) n cap)) (hx : ∀ j u, xs[j]? = some u → w.cell? (a.add j) = some u) (hb : a.block < w.heap.size) :
    Calls Tryz.prog 31 #[.pointer (some ⟨D, 0, none⟩)] w fun e w' => e = .returned (.slice (some ⟨w.heap.size, 0, none⟩) n n) ∧ w' = w.alloc (.cells xs.toArray 111) := by
  have HL := Lib.hid hl
  clear hl
  go_enter Tryz.func31, Tryz.ntmps31
  go_wp2_with (first | (go_at_call 89; refine (innerR_any D _).mono ?_; rintro e w' ⟨rfl, rfl⟩) | (go_at_call 90; refine (allR_some D a n cap xs _ hn0 hn1 HL.out hone hc hx hb).mono ?_; rintro e w' ⟨rfl, rfl⟩))
  go_ret
  exact ⟨rfl, rfl⟩
end Go.Proofs.YtdnalhjdmlkbmaaGreatDoor
