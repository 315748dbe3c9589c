/- num.Unary and num.Binary at numbers that are none of theirs. -/
import Derived.Test.YtdnalhjdmlkbmaaDoorLib
import Derived.Test.YtdnalhjdmlkbmaaDoorProg
import Derived.Outline
namespace Go.Proofs.YtdnalhjdmlkbmaaDoor
open Go.RowKit

theorem unary_no6 (x : Int) (w : World) : Calls Tryd.prog 86 #[.int .i64 6, .int .u16 x] w fun e w' => e = .returned (.tuple #[.int .u16 0, .bool false]) ∧ w = w' := by
  go_enter Tryd.func86, Tryd.ntmps86
  go_wp2
  go_ret2
  exact ⟨rfl, rfl⟩
theorem unary_no9 (x : Int) (w : World) : Calls Tryd.prog 86 #[.int .i64 9, .int .u16 x] w fun e w' => e = .returned (.tuple #[.int .u16 0, .bool false]) ∧ w = w' := by
  go_enter Tryd.func86, Tryd.ntmps86
  go_wp2
  go_ret2
  exact ⟨rfl, rfl⟩
theorem unary_no12 (x : Int) (w : World) : Calls Tryd.prog 86 #[.int .i64 12, .int .u16 x] w fun e w' => e = .returned (.tuple #[.int .u16 0, .bool false]) ∧ w = w' := by
  go_enter Tryd.func86, Tryd.ntmps86
  go_wp2
  go_ret2
  exact ⟨rfl, rfl⟩
theorem unary_no13 (x : Int) (w : World) : Calls Tryd.prog 86 #[.int .i64 13, .int .u16 x] w fun e w' => e = .returned (.tuple #[.int .u16 0, .bool false]) ∧ w = w' := by
  go_enter Tryd.func86, Tryd.ntmps86
  go_wp2
  go_ret2
  exact ⟨rfl, rfl⟩
theorem unary_no14 (x : Int) (w : World) : Calls Tryd.prog 86 #[.int .i64 14, .int .u16 x] w fun e w' => e = .returned (.tuple #[.int .u16 0, .bool false]) ∧ w = w' := by
  go_enter Tryd.func86, Tryd.ntmps86
  go_wp2
  go_ret2
  exact ⟨rfl, rfl⟩
theorem unary_no15 (x : Int) (w : World) : Calls Tryd.prog 86 #[.int .i64 15, .int .u16 x] w fun e w' => e = .returned (.tuple #[.int .u16 0, .bool false]) ∧ w = w' := by
  go_enter Tryd.func86, Tryd.ntmps86
  go_wp2
  go_ret2
  exact ⟨rfl, rfl⟩
theorem unary_no16 (x : Int) (w : World) : Calls Tryd.prog 86 #[.int .i64 16, .int .u16 x] w fun e w' => e = .returned (.tuple #[.int .u16 0, .bool false]) ∧ w = w' := by
  go_enter Tryd.func86, Tryd.ntmps86
  go_wp2
  go_ret2
  exact ⟨rfl, rfl⟩
theorem unary_no17 (x : Int) (w : World) : Calls Tryd.prog 86 #[.int .i64 17, .int .u16 x] w fun e w' => e = .returned (.tuple #[.int .u16 0, .bool false]) ∧ w = w' := by
  go_enter Tryd.func86, Tryd.ntmps86
  go_wp2
  go_ret2
  exact ⟨rfl, rfl⟩
theorem unary_no18 (x : Int) (w : World) : Calls Tryd.prog 86 #[.int .i64 18, .int .u16 x] w fun e w' => e = .returned (.tuple #[.int .u16 0, .bool false]) ∧ w = w' := by
  go_enter Tryd.func86, Tryd.ntmps86
  go_wp2
  go_ret2
  exact ⟨rfl, rfl⟩
theorem unary_no19 (x : Int) (w : World) : Calls Tryd.prog 86 #[.int .i64 19, .int .u16 x] w fun e w' => e = .returned (.tuple #[.int .u16 0, .bool false]) ∧ w = w' := by
  go_enter Tryd.func86, Tryd.ntmps86
  go_wp2
  go_ret2
  exact ⟨rfl, rfl⟩
theorem unary_no20 (x : Int) (w : World) : Calls Tryd.prog 86 #[.int .i64 20, .int .u16 x] w fun e w' => e = .returned (.tuple #[.int .u16 0, .bool false]) ∧ w = w' := by
  go_enter Tryd.func86, Tryd.ntmps86
  go_wp2
  go_ret2
  exact ⟨rfl, rfl⟩
theorem unary_no21 (x : Int) (w : World) : Calls Tryd.prog 86 #[.int .i64 21, .int .u16 x] w fun e w' => e = .returned (.tuple #[.int .u16 0, .bool false]) ∧ w = w' := by
  go_enter Tryd.func86, Tryd.ntmps86
  go_wp2
  go_ret2
  exact ⟨rfl, rfl⟩
theorem unary_no22 (x : Int) (w : World) : Calls Tryd.prog 86 #[.int .i64 22, .int .u16 x] w fun e w' => e = .returned (.tuple #[.int .u16 0, .bool false]) ∧ w = w' := by
  go_enter Tryd.func86, Tryd.ntmps86
  go_wp2
  go_ret2
  exact ⟨rfl, rfl⟩
theorem unary_no23 (x : Int) (w : World) : Calls Tryd.prog 86 #[.int .i64 23, .int .u16 x] w fun e w' => e = .returned (.tuple #[.int .u16 0, .bool false]) ∧ w = w' := by
  go_enter Tryd.func86, Tryd.ntmps86
  go_wp2
  go_ret2
  exact ⟨rfl, rfl⟩
theorem unary_no24 (x : Int) (w : World) : Calls Tryd.prog 86 #[.int .i64 24, .int .u16 x] w fun e w' => e = .returned (.tuple #[.int .u16 0, .bool false]) ∧ w = w' := by
  go_enter Tryd.func86, Tryd.ntmps86
  go_wp2
  go_ret2
  exact ⟨rfl, rfl⟩
theorem unary_no25 (x : Int) (w : World) : Calls Tryd.prog 86 #[.int .i64 25, .int .u16 x] w fun e w' => e = .returned (.tuple #[.int .u16 0, .bool false]) ∧ w = w' := by
  go_enter Tryd.func86, Tryd.ntmps86
  go_wp2
  go_ret2
  exact ⟨rfl, rfl⟩
theorem unary_no26 (x : Int) (w : World) : Calls Tryd.prog 86 #[.int .i64 26, .int .u16 x] w fun e w' => e = .returned (.tuple #[.int .u16 0, .bool false]) ∧ w = w' := by
  go_enter Tryd.func86, Tryd.ntmps86
  go_wp2
  go_ret2
  exact ⟨rfl, rfl⟩
theorem unary_no27 (x : Int) (w : World) : Calls Tryd.prog 86 #[.int .i64 27, .int .u16 x] w fun e w' => e = .returned (.tuple #[.int .u16 0, .bool false]) ∧ w = w' := by
  go_enter Tryd.func86, Tryd.ntmps86
  go_wp2
  go_ret2
  exact ⟨rfl, rfl⟩
theorem unary_no30 (x : Int) (w : World) : Calls Tryd.prog 86 #[.int .i64 30, .int .u16 x] w fun e w' => e = .returned (.tuple #[.int .u16 0, .bool false]) ∧ w = w' := by
  go_enter Tryd.func86, Tryd.ntmps86
  go_wp2
  go_ret2
  exact ⟨rfl, rfl⟩
theorem unary_no31 (x : Int) (w : World) : Calls Tryd.prog 86 #[.int .i64 31, .int .u16 x] w fun e w' => e = .returned (.tuple #[.int .u16 0, .bool false]) ∧ w = w' := by
  go_enter Tryd.func86, Tryd.ntmps86
  go_wp2
  go_ret2
  exact ⟨rfl, rfl⟩
theorem unary_no36 (x : Int) (w : World) : Calls Tryd.prog 86 #[.int .i64 36, .int .u16 x] w fun e w' => e = .returned (.tuple #[.int .u16 0, .bool false]) ∧ w = w' := by
  go_enter Tryd.func86, Tryd.ntmps86
  go_wp2
  go_ret2
  exact ⟨rfl, rfl⟩
theorem unary_no37 (x : Int) (w : World) : Calls Tryd.prog 86 #[.int .i64 37, .int .u16 x] w fun e w' => e = .returned (.tuple #[.int .u16 0, .bool false]) ∧ w = w' := by
  go_enter Tryd.func86, Tryd.ntmps86
  go_wp2
  go_ret2
  exact ⟨rfl, rfl⟩
theorem unary_no38 (x : Int) (w : World) : Calls Tryd.prog 86 #[.int .i64 38, .int .u16 x] w fun e w' => e = .returned (.tuple #[.int .u16 0, .bool false]) ∧ w = w' := by
  go_enter Tryd.func86, Tryd.ntmps86
  go_wp2
  go_ret2
  exact ⟨rfl, rfl⟩
theorem unary_no40 (x : Int) (w : World) : Calls Tryd.prog 86 #[.int .i64 40, .int .u16 x] w fun e w' => e = .returned (.tuple #[.int .u16 0, .bool false]) ∧ w = w' := by
  go_enter Tryd.func86, Tryd.ntmps86
  go_wp2
  go_ret2
  exact ⟨rfl, rfl⟩
theorem unary_no41 (x : Int) (w : World) : Calls Tryd.prog 86 #[.int .i64 41, .int .u16 x] w fun e w' => e = .returned (.tuple #[.int .u16 0, .bool false]) ∧ w = w' := by
  go_enter Tryd.func86, Tryd.ntmps86
  go_wp2
  go_ret2
  exact ⟨rfl, rfl⟩
theorem unary_no42 (x : Int) (w : World) : Calls Tryd.prog 86 #[.int .i64 42, .int .u16 x] w fun e w' => e = .returned (.tuple #[.int .u16 0, .bool false]) ∧ w = w' := by
  go_enter Tryd.func86, Tryd.ntmps86
  go_wp2
  go_ret2
  exact ⟨rfl, rfl⟩
theorem unary_no43 (x : Int) (w : World) : Calls Tryd.prog 86 #[.int .i64 43, .int .u16 x] w fun e w' => e = .returned (.tuple #[.int .u16 0, .bool false]) ∧ w = w' := by
  go_enter Tryd.func86, Tryd.ntmps86
  go_wp2
  go_ret2
  exact ⟨rfl, rfl⟩
theorem unary_no44 (x : Int) (w : World) : Calls Tryd.prog 86 #[.int .i64 44, .int .u16 x] w fun e w' => e = .returned (.tuple #[.int .u16 0, .bool false]) ∧ w = w' := by
  go_enter Tryd.func86, Tryd.ntmps86
  go_wp2
  go_ret2
  exact ⟨rfl, rfl⟩
theorem unary_no45 (x : Int) (w : World) : Calls Tryd.prog 86 #[.int .i64 45, .int .u16 x] w fun e w' => e = .returned (.tuple #[.int .u16 0, .bool false]) ∧ w = w' := by
  go_enter Tryd.func86, Tryd.ntmps86
  go_wp2
  go_ret2
  exact ⟨rfl, rfl⟩
theorem unary_no46 (x : Int) (w : World) : Calls Tryd.prog 86 #[.int .i64 46, .int .u16 x] w fun e w' => e = .returned (.tuple #[.int .u16 0, .bool false]) ∧ w = w' := by
  go_enter Tryd.func86, Tryd.ntmps86
  go_wp2
  go_ret2
  exact ⟨rfl, rfl⟩
theorem unary_no47 (x : Int) (w : World) : Calls Tryd.prog 86 #[.int .i64 47, .int .u16 x] w fun e w' => e = .returned (.tuple #[.int .u16 0, .bool false]) ∧ w = w' := by
  go_enter Tryd.func86, Tryd.ntmps86
  go_wp2
  go_ret2
  exact ⟨rfl, rfl⟩
theorem unary_no50 (x : Int) (w : World) : Calls Tryd.prog 86 #[.int .i64 50, .int .u16 x] w fun e w' => e = .returned (.tuple #[.int .u16 0, .bool false]) ∧ w = w' := by
  go_enter Tryd.func86, Tryd.ntmps86
  go_wp2
  go_ret2
  exact ⟨rfl, rfl⟩
theorem unary_no51 (x : Int) (w : World) : Calls Tryd.prog 86 #[.int .i64 51, .int .u16 x] w fun e w' => e = .returned (.tuple #[.int .u16 0, .bool false]) ∧ w = w' := by
  go_enter Tryd.func86, Tryd.ntmps86
  go_wp2
  go_ret2
  exact ⟨rfl, rfl⟩
theorem unary_no52 (x : Int) (w : World) : Calls Tryd.prog 86 #[.int .i64 52, .int .u16 x] w fun e w' => e = .returned (.tuple #[.int .u16 0, .bool false]) ∧ w = w' := by
  go_enter Tryd.func86, Tryd.ntmps86
  go_wp2
  go_ret2
  exact ⟨rfl, rfl⟩
theorem unary_no53 (x : Int) (w : World) : Calls Tryd.prog 86 #[.int .i64 53, .int .u16 x] w fun e w' => e = .returned (.tuple #[.int .u16 0, .bool false]) ∧ w = w' := by
  go_enter Tryd.func86, Tryd.ntmps86
  go_wp2
  go_ret2
  exact ⟨rfl, rfl⟩
theorem unary_no54 (x : Int) (w : World) : Calls Tryd.prog 86 #[.int .i64 54, .int .u16 x] w fun e w' => e = .returned (.tuple #[.int .u16 0, .bool false]) ∧ w = w' := by
  go_enter Tryd.func86, Tryd.ntmps86
  go_wp2
  go_ret2
  exact ⟨rfl, rfl⟩
theorem unary_no55 (x : Int) (w : World) : Calls Tryd.prog 86 #[.int .i64 55, .int .u16 x] w fun e w' => e = .returned (.tuple #[.int .u16 0, .bool false]) ∧ w = w' := by
  go_enter Tryd.func86, Tryd.ntmps86
  go_wp2
  go_ret2
  exact ⟨rfl, rfl⟩
theorem unary_no56 (x : Int) (w : World) : Calls Tryd.prog 86 #[.int .i64 56, .int .u16 x] w fun e w' => e = .returned (.tuple #[.int .u16 0, .bool false]) ∧ w = w' := by
  go_enter Tryd.func86, Tryd.ntmps86
  go_wp2
  go_ret2
  exact ⟨rfl, rfl⟩
theorem unary_no57 (x : Int) (w : World) : Calls Tryd.prog 86 #[.int .i64 57, .int .u16 x] w fun e w' => e = .returned (.tuple #[.int .u16 0, .bool false]) ∧ w = w' := by
  go_enter Tryd.func86, Tryd.ntmps86
  go_wp2
  go_ret2
  exact ⟨rfl, rfl⟩
theorem unary_no58 (x : Int) (w : World) : Calls Tryd.prog 86 #[.int .i64 58, .int .u16 x] w fun e w' => e = .returned (.tuple #[.int .u16 0, .bool false]) ∧ w = w' := by
  go_enter Tryd.func86, Tryd.ntmps86
  go_wp2
  go_ret2
  exact ⟨rfl, rfl⟩
theorem unary_no59 (x : Int) (w : World) : Calls Tryd.prog 86 #[.int .i64 59, .int .u16 x] w fun e w' => e = .returned (.tuple #[.int .u16 0, .bool false]) ∧ w = w' := by
  go_enter Tryd.func86, Tryd.ntmps86
  go_wp2
  go_ret2
  exact ⟨rfl, rfl⟩
theorem unary_no60 (x : Int) (w : World) : Calls Tryd.prog 86 #[.int .i64 60, .int .u16 x] w fun e w' => e = .returned (.tuple #[.int .u16 0, .bool false]) ∧ w = w' := by
  go_enter Tryd.func86, Tryd.ntmps86
  go_wp2
  go_ret2
  exact ⟨rfl, rfl⟩
theorem unary_no61 (x : Int) (w : World) : Calls Tryd.prog 86 #[.int .i64 61, .int .u16 x] w fun e w' => e = .returned (.tuple #[.int .u16 0, .bool false]) ∧ w = w' := by
  go_enter Tryd.func86, Tryd.ntmps86
  go_wp2
  go_ret2
  exact ⟨rfl, rfl⟩
theorem unary_no62 (x : Int) (w : World) : Calls Tryd.prog 86 #[.int .i64 62, .int .u16 x] w fun e w' => e = .returned (.tuple #[.int .u16 0, .bool false]) ∧ w = w' := by
  go_enter Tryd.func86, Tryd.ntmps86
  go_wp2
  go_ret2
  exact ⟨rfl, rfl⟩
theorem unary_no63 (x : Int) (w : World) : Calls Tryd.prog 86 #[.int .i64 63, .int .u16 x] w fun e w' => e = .returned (.tuple #[.int .u16 0, .bool false]) ∧ w = w' := by
  go_enter Tryd.func86, Tryd.ntmps86
  go_wp2
  go_ret2
  exact ⟨rfl, rfl⟩
theorem compared_no6 (x y : Int) (w : World) : Calls Tryd.prog 102 #[.int .i64 6, .int .u16 x, .int .u16 y] w fun e w' => e = .returned (.tuple #[.int .u16 0, .bool false]) ∧ w = w' := by
  go_enter Tryd.func102, Tryd.ntmps102
  go_wp2
  go_ret2
  exact ⟨rfl, rfl⟩
theorem binary_no6 (x y : Int) (w : World) : Calls Tryd.prog 88 #[.int .i64 6, .int .u16 x, .int .u16 y] w fun e w' => e = .returned (.tuple #[.int .u16 0, .bool false]) ∧ w = w' := by
  go_enter Tryd.func88, Tryd.ntmps88
  go_wp2_with (go_at_call 102; refine (compared_no6 _ _ _).mono ?_; rintro e w' ⟨rfl, rfl⟩)
  go_ret2
  exact ⟨rfl, rfl⟩
theorem compared_no9 (x y : Int) (w : World) : Calls Tryd.prog 102 #[.int .i64 9, .int .u16 x, .int .u16 y] w fun e w' => e = .returned (.tuple #[.int .u16 0, .bool false]) ∧ w = w' := by
  go_enter Tryd.func102, Tryd.ntmps102
  go_wp2
  go_ret2
  exact ⟨rfl, rfl⟩
theorem binary_no9 (x y : Int) (w : World) : Calls Tryd.prog 88 #[.int .i64 9, .int .u16 x, .int .u16 y] w fun e w' => e = .returned (.tuple #[.int .u16 0, .bool false]) ∧ w = w' := by
  go_enter Tryd.func88, Tryd.ntmps88
  go_wp2_with (go_at_call 102; refine (compared_no9 _ _ _).mono ?_; rintro e w' ⟨rfl, rfl⟩)
  go_ret2
  exact ⟨rfl, rfl⟩
theorem compared_no12 (x y : Int) (w : World) : Calls Tryd.prog 102 #[.int .i64 12, .int .u16 x, .int .u16 y] w fun e w' => e = .returned (.tuple #[.int .u16 0, .bool false]) ∧ w = w' := by
  go_enter Tryd.func102, Tryd.ntmps102
  go_wp2
  go_ret2
  exact ⟨rfl, rfl⟩
theorem binary_no12 (x y : Int) (w : World) : Calls Tryd.prog 88 #[.int .i64 12, .int .u16 x, .int .u16 y] w fun e w' => e = .returned (.tuple #[.int .u16 0, .bool false]) ∧ w = w' := by
  go_enter Tryd.func88, Tryd.ntmps88
  go_wp2_with (go_at_call 102; refine (compared_no12 _ _ _).mono ?_; rintro e w' ⟨rfl, rfl⟩)
  go_ret2
  exact ⟨rfl, rfl⟩
theorem compared_no13 (x y : Int) (w : World) : Calls Tryd.prog 102 #[.int .i64 13, .int .u16 x, .int .u16 y] w fun e w' => e = .returned (.tuple #[.int .u16 0, .bool false]) ∧ w = w' := by
  go_enter Tryd.func102, Tryd.ntmps102
  go_wp2
  go_ret2
  exact ⟨rfl, rfl⟩
theorem binary_no13 (x y : Int) (w : World) : Calls Tryd.prog 88 #[.int .i64 13, .int .u16 x, .int .u16 y] w fun e w' => e = .returned (.tuple #[.int .u16 0, .bool false]) ∧ w = w' := by
  go_enter Tryd.func88, Tryd.ntmps88
  go_wp2_with (go_at_call 102; refine (compared_no13 _ _ _).mono ?_; rintro e w' ⟨rfl, rfl⟩)
  go_ret2
  exact ⟨rfl, rfl⟩
theorem compared_no14 (x y : Int) (w : World) : Calls Tryd.prog 102 #[.int .i64 14, .int .u16 x, .int .u16 y] w fun e w' => e = .returned (.tuple #[.int .u16 0, .bool false]) ∧ w = w' := by
  go_enter Tryd.func102, Tryd.ntmps102
  go_wp2
  go_ret2
  exact ⟨rfl, rfl⟩
theorem binary_no14 (x y : Int) (w : World) : Calls Tryd.prog 88 #[.int .i64 14, .int .u16 x, .int .u16 y] w fun e w' => e = .returned (.tuple #[.int .u16 0, .bool false]) ∧ w = w' := by
  go_enter Tryd.func88, Tryd.ntmps88
  go_wp2_with (go_at_call 102; refine (compared_no14 _ _ _).mono ?_; rintro e w' ⟨rfl, rfl⟩)
  go_ret2
  exact ⟨rfl, rfl⟩
theorem compared_no15 (x y : Int) (w : World) : Calls Tryd.prog 102 #[.int .i64 15, .int .u16 x, .int .u16 y] w fun e w' => e = .returned (.tuple #[.int .u16 0, .bool false]) ∧ w = w' := by
  go_enter Tryd.func102, Tryd.ntmps102
  go_wp2
  go_ret2
  exact ⟨rfl, rfl⟩
theorem binary_no15 (x y : Int) (w : World) : Calls Tryd.prog 88 #[.int .i64 15, .int .u16 x, .int .u16 y] w fun e w' => e = .returned (.tuple #[.int .u16 0, .bool false]) ∧ w = w' := by
  go_enter Tryd.func88, Tryd.ntmps88
  go_wp2_with (go_at_call 102; refine (compared_no15 _ _ _).mono ?_; rintro e w' ⟨rfl, rfl⟩)
  go_ret2
  exact ⟨rfl, rfl⟩
theorem compared_no16 (x y : Int) (w : World) : Calls Tryd.prog 102 #[.int .i64 16, .int .u16 x, .int .u16 y] w fun e w' => e = .returned (.tuple #[.int .u16 0, .bool false]) ∧ w = w' := by
  go_enter Tryd.func102, Tryd.ntmps102
  go_wp2
  go_ret2
  exact ⟨rfl, rfl⟩
theorem binary_no16 (x y : Int) (w : World) : Calls Tryd.prog 88 #[.int .i64 16, .int .u16 x, .int .u16 y] w fun e w' => e = .returned (.tuple #[.int .u16 0, .bool false]) ∧ w = w' := by
  go_enter Tryd.func88, Tryd.ntmps88
  go_wp2_with (go_at_call 102; refine (compared_no16 _ _ _).mono ?_; rintro e w' ⟨rfl, rfl⟩)
  go_ret2
  exact ⟨rfl, rfl⟩
theorem compared_no17 (x y : Int) (w : World) : Calls Tryd.prog 102 #[.int .i64 17, .int .u16 x, .int .u16 y] w fun e w' => e = .returned (.tuple #[.int .u16 0, .bool false]) ∧ w = w' := by
  go_enter Tryd.func102, Tryd.ntmps102
  go_wp2
  go_ret2
  exact ⟨rfl, rfl⟩
theorem binary_no17 (x y : Int) (w : World) : Calls Tryd.prog 88 #[.int .i64 17, .int .u16 x, .int .u16 y] w fun e w' => e = .returned (.tuple #[.int .u16 0, .bool false]) ∧ w = w' := by
  go_enter Tryd.func88, Tryd.ntmps88
  go_wp2_with (go_at_call 102; refine (compared_no17 _ _ _).mono ?_; rintro e w' ⟨rfl, rfl⟩)
  go_ret2
  exact ⟨rfl, rfl⟩
theorem compared_no18 (x y : Int) (w : World) : Calls Tryd.prog 102 #[.int .i64 18, .int .u16 x, .int .u16 y] w fun e w' => e = .returned (.tuple #[.int .u16 0, .bool false]) ∧ w = w' := by
  go_enter Tryd.func102, Tryd.ntmps102
  go_wp2
  go_ret2
  exact ⟨rfl, rfl⟩
theorem binary_no18 (x y : Int) (w : World) : Calls Tryd.prog 88 #[.int .i64 18, .int .u16 x, .int .u16 y] w fun e w' => e = .returned (.tuple #[.int .u16 0, .bool false]) ∧ w = w' := by
  go_enter Tryd.func88, Tryd.ntmps88
  go_wp2_with (go_at_call 102; refine (compared_no18 _ _ _).mono ?_; rintro e w' ⟨rfl, rfl⟩)
  go_ret2
  exact ⟨rfl, rfl⟩
theorem compared_no19 (x y : Int) (w : World) : Calls Tryd.prog 102 #[.int .i64 19, .int .u16 x, .int .u16 y] w fun e w' => e = .returned (.tuple #[.int .u16 0, .bool false]) ∧ w = w' := by
  go_enter Tryd.func102, Tryd.ntmps102
  go_wp2
  go_ret2
  exact ⟨rfl, rfl⟩
theorem binary_no19 (x y : Int) (w : World) : Calls Tryd.prog 88 #[.int .i64 19, .int .u16 x, .int .u16 y] w fun e w' => e = .returned (.tuple #[.int .u16 0, .bool false]) ∧ w = w' := by
  go_enter Tryd.func88, Tryd.ntmps88
  go_wp2_with (go_at_call 102; refine (compared_no19 _ _ _).mono ?_; rintro e w' ⟨rfl, rfl⟩)
  go_ret2
  exact ⟨rfl, rfl⟩
theorem compared_no20 (x y : Int) (w : World) : Calls Tryd.prog 102 #[.int .i64 20, .int .u16 x, .int .u16 y] w fun e w' => e = .returned (.tuple #[.int .u16 0, .bool false]) ∧ w = w' := by
  go_enter Tryd.func102, Tryd.ntmps102
  go_wp2
  go_ret2
  exact ⟨rfl, rfl⟩
theorem binary_no20 (x y : Int) (w : World) : Calls Tryd.prog 88 #[.int .i64 20, .int .u16 x, .int .u16 y] w fun e w' => e = .returned (.tuple #[.int .u16 0, .bool false]) ∧ w = w' := by
  go_enter Tryd.func88, Tryd.ntmps88
  go_wp2_with (go_at_call 102; refine (compared_no20 _ _ _).mono ?_; rintro e w' ⟨rfl, rfl⟩)
  go_ret2
  exact ⟨rfl, rfl⟩
theorem compared_no50 (x y : Int) (w : World) : Calls Tryd.prog 102 #[.int .i64 50, .int .u16 x, .int .u16 y] w fun e w' => e = .returned (.tuple #[.int .u16 0, .bool false]) ∧ w = w' := by
  go_enter Tryd.func102, Tryd.ntmps102
  go_wp2
  go_ret2
  exact ⟨rfl, rfl⟩
theorem binary_no50 (x y : Int) (w : World) : Calls Tryd.prog 88 #[.int .i64 50, .int .u16 x, .int .u16 y] w fun e w' => e = .returned (.tuple #[.int .u16 0, .bool false]) ∧ w = w' := by
  go_enter Tryd.func88, Tryd.ntmps88
  go_wp2_with (go_at_call 102; refine (compared_no50 _ _ _).mono ?_; rintro e w' ⟨rfl, rfl⟩)
  go_ret2
  exact ⟨rfl, rfl⟩
theorem compared_no51 (x y : Int) (w : World) : Calls Tryd.prog 102 #[.int .i64 51, .int .u16 x, .int .u16 y] w fun e w' => e = .returned (.tuple #[.int .u16 0, .bool false]) ∧ w = w' := by
  go_enter Tryd.func102, Tryd.ntmps102
  go_wp2
  go_ret2
  exact ⟨rfl, rfl⟩
theorem binary_no51 (x y : Int) (w : World) : Calls Tryd.prog 88 #[.int .i64 51, .int .u16 x, .int .u16 y] w fun e w' => e = .returned (.tuple #[.int .u16 0, .bool false]) ∧ w = w' := by
  go_enter Tryd.func88, Tryd.ntmps88
  go_wp2_with (go_at_call 102; refine (compared_no51 _ _ _).mono ?_; rintro e w' ⟨rfl, rfl⟩)
  go_ret2
  exact ⟨rfl, rfl⟩
theorem compared_no52 (x y : Int) (w : World) : Calls Tryd.prog 102 #[.int .i64 52, .int .u16 x, .int .u16 y] w fun e w' => e = .returned (.tuple #[.int .u16 0, .bool false]) ∧ w = w' := by
  go_enter Tryd.func102, Tryd.ntmps102
  go_wp2
  go_ret2
  exact ⟨rfl, rfl⟩
theorem binary_no52 (x y : Int) (w : World) : Calls Tryd.prog 88 #[.int .i64 52, .int .u16 x, .int .u16 y] w fun e w' => e = .returned (.tuple #[.int .u16 0, .bool false]) ∧ w = w' := by
  go_enter Tryd.func88, Tryd.ntmps88
  go_wp2_with (go_at_call 102; refine (compared_no52 _ _ _).mono ?_; rintro e w' ⟨rfl, rfl⟩)
  go_ret2
  exact ⟨rfl, rfl⟩
theorem compared_no53 (x y : Int) (w : World) : Calls Tryd.prog 102 #[.int .i64 53, .int .u16 x, .int .u16 y] w fun e w' => e = .returned (.tuple #[.int .u16 0, .bool false]) ∧ w = w' := by
  go_enter Tryd.func102, Tryd.ntmps102
  go_wp2
  go_ret2
  exact ⟨rfl, rfl⟩
theorem binary_no53 (x y : Int) (w : World) : Calls Tryd.prog 88 #[.int .i64 53, .int .u16 x, .int .u16 y] w fun e w' => e = .returned (.tuple #[.int .u16 0, .bool false]) ∧ w = w' := by
  go_enter Tryd.func88, Tryd.ntmps88
  go_wp2_with (go_at_call 102; refine (compared_no53 _ _ _).mono ?_; rintro e w' ⟨rfl, rfl⟩)
  go_ret2
  exact ⟨rfl, rfl⟩
theorem compared_no54 (x y : Int) (w : World) : Calls Tryd.prog 102 #[.int .i64 54, .int .u16 x, .int .u16 y] w fun e w' => e = .returned (.tuple #[.int .u16 0, .bool false]) ∧ w = w' := by
  go_enter Tryd.func102, Tryd.ntmps102
  go_wp2
  go_ret2
  exact ⟨rfl, rfl⟩
theorem binary_no54 (x y : Int) (w : World) : Calls Tryd.prog 88 #[.int .i64 54, .int .u16 x, .int .u16 y] w fun e w' => e = .returned (.tuple #[.int .u16 0, .bool false]) ∧ w = w' := by
  go_enter Tryd.func88, Tryd.ntmps88
  go_wp2_with (go_at_call 102; refine (compared_no54 _ _ _).mono ?_; rintro e w' ⟨rfl, rfl⟩)
  go_ret2
  exact ⟨rfl, rfl⟩
theorem compared_no55 (x y : Int) (w : World) : Calls Tryd.prog 102 #[.int .i64 55, .int .u16 x, .int .u16 y] w fun e w' => e = .returned (.tuple #[.int .u16 0, .bool false]) ∧ w = w' := by
  go_enter Tryd.func102, Tryd.ntmps102
  go_wp2
  go_ret2
  exact ⟨rfl, rfl⟩
theorem binary_no55 (x y : Int) (w : World) : Calls Tryd.prog 88 #[.int .i64 55, .int .u16 x, .int .u16 y] w fun e w' => e = .returned (.tuple #[.int .u16 0, .bool false]) ∧ w = w' := by
  go_enter Tryd.func88, Tryd.ntmps88
  go_wp2_with (go_at_call 102; refine (compared_no55 _ _ _).mono ?_; rintro e w' ⟨rfl, rfl⟩)
  go_ret2
  exact ⟨rfl, rfl⟩
theorem compared_no56 (x y : Int) (w : World) : Calls Tryd.prog 102 #[.int .i64 56, .int .u16 x, .int .u16 y] w fun e w' => e = .returned (.tuple #[.int .u16 0, .bool false]) ∧ w = w' := by
  go_enter Tryd.func102, Tryd.ntmps102
  go_wp2
  go_ret2
  exact ⟨rfl, rfl⟩
theorem binary_no56 (x y : Int) (w : World) : Calls Tryd.prog 88 #[.int .i64 56, .int .u16 x, .int .u16 y] w fun e w' => e = .returned (.tuple #[.int .u16 0, .bool false]) ∧ w = w' := by
  go_enter Tryd.func88, Tryd.ntmps88
  go_wp2_with (go_at_call 102; refine (compared_no56 _ _ _).mono ?_; rintro e w' ⟨rfl, rfl⟩)
  go_ret2
  exact ⟨rfl, rfl⟩
theorem compared_no57 (x y : Int) (w : World) : Calls Tryd.prog 102 #[.int .i64 57, .int .u16 x, .int .u16 y] w fun e w' => e = .returned (.tuple #[.int .u16 0, .bool false]) ∧ w = w' := by
  go_enter Tryd.func102, Tryd.ntmps102
  go_wp2
  go_ret2
  exact ⟨rfl, rfl⟩
theorem binary_no57 (x y : Int) (w : World) : Calls Tryd.prog 88 #[.int .i64 57, .int .u16 x, .int .u16 y] w fun e w' => e = .returned (.tuple #[.int .u16 0, .bool false]) ∧ w = w' := by
  go_enter Tryd.func88, Tryd.ntmps88
  go_wp2_with (go_at_call 102; refine (compared_no57 _ _ _).mono ?_; rintro e w' ⟨rfl, rfl⟩)
  go_ret2
  exact ⟨rfl, rfl⟩
theorem compared_no58 (x y : Int) (w : World) : Calls Tryd.prog 102 #[.int .i64 58, .int .u16 x, .int .u16 y] w fun e w' => e = .returned (.tuple #[.int .u16 0, .bool false]) ∧ w = w' := by
  go_enter Tryd.func102, Tryd.ntmps102
  go_wp2
  go_ret2
  exact ⟨rfl, rfl⟩
theorem binary_no58 (x y : Int) (w : World) : Calls Tryd.prog 88 #[.int .i64 58, .int .u16 x, .int .u16 y] w fun e w' => e = .returned (.tuple #[.int .u16 0, .bool false]) ∧ w = w' := by
  go_enter Tryd.func88, Tryd.ntmps88
  go_wp2_with (go_at_call 102; refine (compared_no58 _ _ _).mono ?_; rintro e w' ⟨rfl, rfl⟩)
  go_ret2
  exact ⟨rfl, rfl⟩
theorem compared_no59 (x y : Int) (w : World) : Calls Tryd.prog 102 #[.int .i64 59, .int .u16 x, .int .u16 y] w fun e w' => e = .returned (.tuple #[.int .u16 0, .bool false]) ∧ w = w' := by
  go_enter Tryd.func102, Tryd.ntmps102
  go_wp2
  go_ret2
  exact ⟨rfl, rfl⟩
theorem binary_no59 (x y : Int) (w : World) : Calls Tryd.prog 88 #[.int .i64 59, .int .u16 x, .int .u16 y] w fun e w' => e = .returned (.tuple #[.int .u16 0, .bool false]) ∧ w = w' := by
  go_enter Tryd.func88, Tryd.ntmps88
  go_wp2_with (go_at_call 102; refine (compared_no59 _ _ _).mono ?_; rintro e w' ⟨rfl, rfl⟩)
  go_ret2
  exact ⟨rfl, rfl⟩
theorem compared_no60 (x y : Int) (w : World) : Calls Tryd.prog 102 #[.int .i64 60, .int .u16 x, .int .u16 y] w fun e w' => e = .returned (.tuple #[.int .u16 0, .bool false]) ∧ w = w' := by
  go_enter Tryd.func102, Tryd.ntmps102
  go_wp2
  go_ret2
  exact ⟨rfl, rfl⟩
theorem binary_no60 (x y : Int) (w : World) : Calls Tryd.prog 88 #[.int .i64 60, .int .u16 x, .int .u16 y] w fun e w' => e = .returned (.tuple #[.int .u16 0, .bool false]) ∧ w = w' := by
  go_enter Tryd.func88, Tryd.ntmps88
  go_wp2_with (go_at_call 102; refine (compared_no60 _ _ _).mono ?_; rintro e w' ⟨rfl, rfl⟩)
  go_ret2
  exact ⟨rfl, rfl⟩
theorem compared_no61 (x y : Int) (w : World) : Calls Tryd.prog 102 #[.int .i64 61, .int .u16 x, .int .u16 y] w fun e w' => e = .returned (.tuple #[.int .u16 0, .bool false]) ∧ w = w' := by
  go_enter Tryd.func102, Tryd.ntmps102
  go_wp2
  go_ret2
  exact ⟨rfl, rfl⟩
theorem binary_no61 (x y : Int) (w : World) : Calls Tryd.prog 88 #[.int .i64 61, .int .u16 x, .int .u16 y] w fun e w' => e = .returned (.tuple #[.int .u16 0, .bool false]) ∧ w = w' := by
  go_enter Tryd.func88, Tryd.ntmps88
  go_wp2_with (go_at_call 102; refine (compared_no61 _ _ _).mono ?_; rintro e w' ⟨rfl, rfl⟩)
  go_ret2
  exact ⟨rfl, rfl⟩
theorem compared_no62 (x y : Int) (w : World) : Calls Tryd.prog 102 #[.int .i64 62, .int .u16 x, .int .u16 y] w fun e w' => e = .returned (.tuple #[.int .u16 0, .bool false]) ∧ w = w' := by
  go_enter Tryd.func102, Tryd.ntmps102
  go_wp2
  go_ret2
  exact ⟨rfl, rfl⟩
theorem binary_no62 (x y : Int) (w : World) : Calls Tryd.prog 88 #[.int .i64 62, .int .u16 x, .int .u16 y] w fun e w' => e = .returned (.tuple #[.int .u16 0, .bool false]) ∧ w = w' := by
  go_enter Tryd.func88, Tryd.ntmps88
  go_wp2_with (go_at_call 102; refine (compared_no62 _ _ _).mono ?_; rintro e w' ⟨rfl, rfl⟩)
  go_ret2
  exact ⟨rfl, rfl⟩
theorem compared_no63 (x y : Int) (w : World) : Calls Tryd.prog 102 #[.int .i64 63, .int .u16 x, .int .u16 y] w fun e w' => e = .returned (.tuple #[.int .u16 0, .bool false]) ∧ w = w' := by
  go_enter Tryd.func102, Tryd.ntmps102
  go_wp2
  go_ret2
  exact ⟨rfl, rfl⟩
theorem binary_no63 (x y : Int) (w : World) : Calls Tryd.prog 88 #[.int .i64 63, .int .u16 x, .int .u16 y] w fun e w' => e = .returned (.tuple #[.int .u16 0, .bool false]) ∧ w = w' := by
  go_enter Tryd.func88, Tryd.ntmps88
  go_wp2_with (go_at_call 102; refine (compared_no63 _ _ _).mono ?_; rintro e w' ⟨rfl, rfl⟩)
  go_ret2
  exact ⟨rfl, rfl⟩
end Go.Proofs.YtdnalhjdmlkbmaaDoor
