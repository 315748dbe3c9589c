/- num.Unary and num.Binary at numbers that are none of theirs; What does hands back; Of, Plain, adds; entryOf, looks, adds; Do, whatever the primitive; What the primitives of the return stack do on a desk; num.Unary and num.Binary at their numbers; What the references' comparisons answer; prim.All, as a range over a function meets it; prim.Named; The document's rows of primitives 1 to 20; The document's rows of primitives 21 to 41. -/
import Derived.Test.YtdnalhjdmlkbmaaDoorProg
import Derived.Outline
import Derived.Laws.EntriesVeiled
import Derived.Deep.RegionHeld3
import Derived.Deep.DeepCutAuto
import Derived.Laws.StructEq
import Derived.RangeFuncNested
import Derived.RangeFuncBound
import Derived.RangeFuncCalls
import Derived.RangeFuncLeaves
import Derived.Shelf.Abstract
import Derived.Shelf.RegionOpen
import Derived.WalkKit
import Derived.OwnWalkIn
import Derived.TacticsInMore
import Derived.LoopNIn
import Derived.LoopIn
import Derived.Test.YtdnalhjdmlkbmaaDoorVmAsOneU1
import Derived.Test.YtdnalhjdmlkbmaaDoorVmAsOneU2
set_option linter.unusedVariables false
set_option linter.unusedSimpArgs false
set_option linter.unnecessarySimpa false
namespace Go.Proofs.YtdnalhjdmlkbmaaDoor
open Go.RowKit

theorem unary_no6 (x : Int) (w : World) : Calls Tryd.prog 86 #[.int .i64 6, .int .u16 x] w fun e w' => e = .returned (.tuple #[.int .u16 0, .bool false]) ∧ w = w' := by
  go_enter Tryd.func86, Tryd.ntmps86
  go_wp2
  go_ret2
  exact ⟨rfl, rfl⟩
theorem unary_no9 (x : Int) (w : World) : Calls Tryd.prog 86 #[.int .i64 9, .int .u16 x] w fun e w' => e = .returned (.tuple #[.int .u16 0, .bool false]) ∧ w = w' := by
  go_enter Tryd.func86, Tryd.ntmps86
  go_wp2
  go_ret2
  exact ⟨rfl, rfl⟩
theorem unary_no12 (x : Int) (w : World) : Calls Tryd.prog 86 #[.int .i64 12, .int .u16 x] w fun e w' => e = .returned (.tuple #[.int .u16 0, .bool false]) ∧ w = w' := by
  go_enter Tryd.func86, Tryd.ntmps86
  go_wp2
  go_ret2
  exact ⟨rfl, rfl⟩
theorem unary_no13 (x : Int) (w : World) : Calls Tryd.prog 86 #[.int .i64 13, .int .u16 x] w fun e w' => e = .returned (.tuple #[.int .u16 0, .bool false]) ∧ w = w' := by
  go_enter Tryd.func86, Tryd.ntmps86
  go_wp2
  go_ret2
  exact ⟨rfl, rfl⟩
theorem unary_no14 (x : Int) (w : World) : Calls Tryd.prog 86 #[.int .i64 14, .int .u16 x] w fun e w' => e = .returned (.tuple #[.int .u16 0, .bool false]) ∧ w = w' := by
  go_enter Tryd.func86, Tryd.ntmps86
  go_wp2
  go_ret2
  exact ⟨rfl, rfl⟩
theorem unary_no15 (x : Int) (w : World) : Calls Tryd.prog 86 #[.int .i64 15, .int .u16 x] w fun e w' => e = .returned (.tuple #[.int .u16 0, .bool false]) ∧ w = w' := by
  go_enter Tryd.func86, Tryd.ntmps86
  go_wp2
  go_ret2
  exact ⟨rfl, rfl⟩
theorem unary_no16 (x : Int) (w : World) : Calls Tryd.prog 86 #[.int .i64 16, .int .u16 x] w fun e w' => e = .returned (.tuple #[.int .u16 0, .bool false]) ∧ w = w' := by
  go_enter Tryd.func86, Tryd.ntmps86
  go_wp2
  go_ret2
  exact ⟨rfl, rfl⟩
theorem unary_no17 (x : Int) (w : World) : Calls Tryd.prog 86 #[.int .i64 17, .int .u16 x] w fun e w' => e = .returned (.tuple #[.int .u16 0, .bool false]) ∧ w = w' := by
  go_enter Tryd.func86, Tryd.ntmps86
  go_wp2
  go_ret2
  exact ⟨rfl, rfl⟩
theorem unary_no18 (x : Int) (w : World) : Calls Tryd.prog 86 #[.int .i64 18, .int .u16 x] w fun e w' => e = .returned (.tuple #[.int .u16 0, .bool false]) ∧ w = w' := by
  go_enter Tryd.func86, Tryd.ntmps86
  go_wp2
  go_ret2
  exact ⟨rfl, rfl⟩
theorem unary_no19 (x : Int) (w : World) : Calls Tryd.prog 86 #[.int .i64 19, .int .u16 x] w fun e w' => e = .returned (.tuple #[.int .u16 0, .bool false]) ∧ w = w' := by
  go_enter Tryd.func86, Tryd.ntmps86
  go_wp2
  go_ret2
  exact ⟨rfl, rfl⟩
theorem unary_no20 (x : Int) (w : World) : Calls Tryd.prog 86 #[.int .i64 20, .int .u16 x] w fun e w' => e = .returned (.tuple #[.int .u16 0, .bool false]) ∧ w = w' := by
  go_enter Tryd.func86, Tryd.ntmps86
  go_wp2
  go_ret2
  exact ⟨rfl, rfl⟩
theorem unary_no21 (x : Int) (w : World) : Calls Tryd.prog 86 #[.int .i64 21, .int .u16 x] w fun e w' => e = .returned (.tuple #[.int .u16 0, .bool false]) ∧ w = w' := by
  go_enter Tryd.func86, Tryd.ntmps86
  go_wp2
  go_ret2
  exact ⟨rfl, rfl⟩
theorem unary_no22 (x : Int) (w : World) : Calls Tryd.prog 86 #[.int .i64 22, .int .u16 x] w fun e w' => e = .returned (.tuple #[.int .u16 0, .bool false]) ∧ w = w' := by
  go_enter Tryd.func86, Tryd.ntmps86
  go_wp2
  go_ret2
  exact ⟨rfl, rfl⟩
theorem unary_no23 (x : Int) (w : World) : Calls Tryd.prog 86 #[.int .i64 23, .int .u16 x] w fun e w' => e = .returned (.tuple #[.int .u16 0, .bool false]) ∧ w = w' := by
  go_enter Tryd.func86, Tryd.ntmps86
  go_wp2
  go_ret2
  exact ⟨rfl, rfl⟩
theorem unary_no24 (x : Int) (w : World) : Calls Tryd.prog 86 #[.int .i64 24, .int .u16 x] w fun e w' => e = .returned (.tuple #[.int .u16 0, .bool false]) ∧ w = w' := by
  go_enter Tryd.func86, Tryd.ntmps86
  go_wp2
  go_ret2
  exact ⟨rfl, rfl⟩
theorem unary_no25 (x : Int) (w : World) : Calls Tryd.prog 86 #[.int .i64 25, .int .u16 x] w fun e w' => e = .returned (.tuple #[.int .u16 0, .bool false]) ∧ w = w' := by
  go_enter Tryd.func86, Tryd.ntmps86
  go_wp2
  go_ret2
  exact ⟨rfl, rfl⟩
theorem unary_no26 (x : Int) (w : World) : Calls Tryd.prog 86 #[.int .i64 26, .int .u16 x] w fun e w' => e = .returned (.tuple #[.int .u16 0, .bool false]) ∧ w = w' := by
  go_enter Tryd.func86, Tryd.ntmps86
  go_wp2
  go_ret2
  exact ⟨rfl, rfl⟩
theorem unary_no27 (x : Int) (w : World) : Calls Tryd.prog 86 #[.int .i64 27, .int .u16 x] w fun e w' => e = .returned (.tuple #[.int .u16 0, .bool false]) ∧ w = w' := by
  go_enter Tryd.func86, Tryd.ntmps86
  go_wp2
  go_ret2
  exact ⟨rfl, rfl⟩
theorem unary_no30 (x : Int) (w : World) : Calls Tryd.prog 86 #[.int .i64 30, .int .u16 x] w fun e w' => e = .returned (.tuple #[.int .u16 0, .bool false]) ∧ w = w' := by
  go_enter Tryd.func86, Tryd.ntmps86
  go_wp2
  go_ret2
  exact ⟨rfl, rfl⟩
theorem unary_no31 (x : Int) (w : World) : Calls Tryd.prog 86 #[.int .i64 31, .int .u16 x] w fun e w' => e = .returned (.tuple #[.int .u16 0, .bool false]) ∧ w = w' := by
  go_enter Tryd.func86, Tryd.ntmps86
  go_wp2
  go_ret2
  exact ⟨rfl, rfl⟩
theorem unary_no36 (x : Int) (w : World) : Calls Tryd.prog 86 #[.int .i64 36, .int .u16 x] w fun e w' => e = .returned (.tuple #[.int .u16 0, .bool false]) ∧ w = w' := by
  go_enter Tryd.func86, Tryd.ntmps86
  go_wp2
  go_ret2
  exact ⟨rfl, rfl⟩
theorem unary_no37 (x : Int) (w : World) : Calls Tryd.prog 86 #[.int .i64 37, .int .u16 x] w fun e w' => e = .returned (.tuple #[.int .u16 0, .bool false]) ∧ w = w' := by
  go_enter Tryd.func86, Tryd.ntmps86
  go_wp2
  go_ret2
  exact ⟨rfl, rfl⟩
theorem unary_no38 (x : Int) (w : World) : Calls Tryd.prog 86 #[.int .i64 38, .int .u16 x] w fun e w' => e = .returned (.tuple #[.int .u16 0, .bool false]) ∧ w = w' := by
  go_enter Tryd.func86, Tryd.ntmps86
  go_wp2
  go_ret2
  exact ⟨rfl, rfl⟩
theorem unary_no40 (x : Int) (w : World) : Calls Tryd.prog 86 #[.int .i64 40, .int .u16 x] w fun e w' => e = .returned (.tuple #[.int .u16 0, .bool false]) ∧ w = w' := by
  go_enter Tryd.func86, Tryd.ntmps86
  go_wp2
  go_ret2
  exact ⟨rfl, rfl⟩
theorem unary_no41 (x : Int) (w : World) : Calls Tryd.prog 86 #[.int .i64 41, .int .u16 x] w fun e w' => e = .returned (.tuple #[.int .u16 0, .bool false]) ∧ w = w' := by
  go_enter Tryd.func86, Tryd.ntmps86
  go_wp2
  go_ret2
  exact ⟨rfl, rfl⟩
theorem unary_no42 (x : Int) (w : World) : Calls Tryd.prog 86 #[.int .i64 42, .int .u16 x] w fun e w' => e = .returned (.tuple #[.int .u16 0, .bool false]) ∧ w = w' := by
  go_enter Tryd.func86, Tryd.ntmps86
  go_wp2
  go_ret2
  exact ⟨rfl, rfl⟩
theorem unary_no43 (x : Int) (w : World) : Calls Tryd.prog 86 #[.int .i64 43, .int .u16 x] w fun e w' => e = .returned (.tuple #[.int .u16 0, .bool false]) ∧ w = w' := by
  go_enter Tryd.func86, Tryd.ntmps86
  go_wp2
  go_ret2
  exact ⟨rfl, rfl⟩
theorem unary_no44 (x : Int) (w : World) : Calls Tryd.prog 86 #[.int .i64 44, .int .u16 x] w fun e w' => e = .returned (.tuple #[.int .u16 0, .bool false]) ∧ w = w' := by
  go_enter Tryd.func86, Tryd.ntmps86
  go_wp2
  go_ret2
  exact ⟨rfl, rfl⟩
theorem unary_no45 (x : Int) (w : World) : Calls Tryd.prog 86 #[.int .i64 45, .int .u16 x] w fun e w' => e = .returned (.tuple #[.int .u16 0, .bool false]) ∧ w = w' := by
  go_enter Tryd.func86, Tryd.ntmps86
  go_wp2
  go_ret2
  exact ⟨rfl, rfl⟩
theorem unary_no46 (x : Int) (w : World) : Calls Tryd.prog 86 #[.int .i64 46, .int .u16 x] w fun e w' => e = .returned (.tuple #[.int .u16 0, .bool false]) ∧ w = w' := by
  go_enter Tryd.func86, Tryd.ntmps86
  go_wp2
  go_ret2
  exact ⟨rfl, rfl⟩
theorem unary_no47 (x : Int) (w : World) : Calls Tryd.prog 86 #[.int .i64 47, .int .u16 x] w fun e w' => e = .returned (.tuple #[.int .u16 0, .bool false]) ∧ w = w' := by
  go_enter Tryd.func86, Tryd.ntmps86
  go_wp2
  go_ret2
  exact ⟨rfl, rfl⟩
theorem unary_no50 (x : Int) (w : World) : Calls Tryd.prog 86 #[.int .i64 50, .int .u16 x] w fun e w' => e = .returned (.tuple #[.int .u16 0, .bool false]) ∧ w = w' := by
  go_enter Tryd.func86, Tryd.ntmps86
  go_wp2
  go_ret2
  exact ⟨rfl, rfl⟩
theorem unary_no51 (x : Int) (w : World) : Calls Tryd.prog 86 #[.int .i64 51, .int .u16 x] w fun e w' => e = .returned (.tuple #[.int .u16 0, .bool false]) ∧ w = w' := by
  go_enter Tryd.func86, Tryd.ntmps86
  go_wp2
  go_ret2
  exact ⟨rfl, rfl⟩
theorem unary_no52 (x : Int) (w : World) : Calls Tryd.prog 86 #[.int .i64 52, .int .u16 x] w fun e w' => e = .returned (.tuple #[.int .u16 0, .bool false]) ∧ w = w' := by
  go_enter Tryd.func86, Tryd.ntmps86
  go_wp2
  go_ret2
  exact ⟨rfl, rfl⟩
theorem unary_no53 (x : Int) (w : World) : Calls Tryd.prog 86 #[.int .i64 53, .int .u16 x] w fun e w' => e = .returned (.tuple #[.int .u16 0, .bool false]) ∧ w = w' := by
  go_enter Tryd.func86, Tryd.ntmps86
  go_wp2
  go_ret2
  exact ⟨rfl, rfl⟩
theorem unary_no54 (x : Int) (w : World) : Calls Tryd.prog 86 #[.int .i64 54, .int .u16 x] w fun e w' => e = .returned (.tuple #[.int .u16 0, .bool false]) ∧ w = w' := by
  go_enter Tryd.func86, Tryd.ntmps86
  go_wp2
  go_ret2
  exact ⟨rfl, rfl⟩
theorem unary_no55 (x : Int) (w : World) : Calls Tryd.prog 86 #[.int .i64 55, .int .u16 x] w fun e w' => e = .returned (.tuple #[.int .u16 0, .bool false]) ∧ w = w' := by
  go_enter Tryd.func86, Tryd.ntmps86
  go_wp2
  go_ret2
  exact ⟨rfl, rfl⟩
theorem unary_no56 (x : Int) (w : World) : Calls Tryd.prog 86 #[.int .i64 56, .int .u16 x] w fun e w' => e = .returned (.tuple #[.int .u16 0, .bool false]) ∧ w = w' := by
  go_enter Tryd.func86, Tryd.ntmps86
  go_wp2
  go_ret2
  exact ⟨rfl, rfl⟩
theorem unary_no57 (x : Int) (w : World) : Calls Tryd.prog 86 #[.int .i64 57, .int .u16 x] w fun e w' => e = .returned (.tuple #[.int .u16 0, .bool false]) ∧ w = w' := by
  go_enter Tryd.func86, Tryd.ntmps86
  go_wp2
  go_ret2
  exact ⟨rfl, rfl⟩
theorem unary_no58 (x : Int) (w : World) : Calls Tryd.prog 86 #[.int .i64 58, .int .u16 x] w fun e w' => e = .returned (.tuple #[.int .u16 0, .bool false]) ∧ w = w' := by
  go_enter Tryd.func86, Tryd.ntmps86
  go_wp2
  go_ret2
  exact ⟨rfl, rfl⟩
theorem unary_no59 (x : Int) (w : World) : Calls Tryd.prog 86 #[.int .i64 59, .int .u16 x] w fun e w' => e = .returned (.tuple #[.int .u16 0, .bool false]) ∧ w = w' := by
  go_enter Tryd.func86, Tryd.ntmps86
  go_wp2
  go_ret2
  exact ⟨rfl, rfl⟩
theorem unary_no60 (x : Int) (w : World) : Calls Tryd.prog 86 #[.int .i64 60, .int .u16 x] w fun e w' => e = .returned (.tuple #[.int .u16 0, .bool false]) ∧ w = w' := by
  go_enter Tryd.func86, Tryd.ntmps86
  go_wp2
  go_ret2
  exact ⟨rfl, rfl⟩
theorem unary_no61 (x : Int) (w : World) : Calls Tryd.prog 86 #[.int .i64 61, .int .u16 x] w fun e w' => e = .returned (.tuple #[.int .u16 0, .bool false]) ∧ w = w' := by
  go_enter Tryd.func86, Tryd.ntmps86
  go_wp2
  go_ret2
  exact ⟨rfl, rfl⟩
theorem unary_no62 (x : Int) (w : World) : Calls Tryd.prog 86 #[.int .i64 62, .int .u16 x] w fun e w' => e = .returned (.tuple #[.int .u16 0, .bool false]) ∧ w = w' := by
  go_enter Tryd.func86, Tryd.ntmps86
  go_wp2
  go_ret2
  exact ⟨rfl, rfl⟩
theorem unary_no63 (x : Int) (w : World) : Calls Tryd.prog 86 #[.int .i64 63, .int .u16 x] w fun e w' => e = .returned (.tuple #[.int .u16 0, .bool false]) ∧ w = w' := by
  go_enter Tryd.func86, Tryd.ntmps86
  go_wp2
  go_ret2
  exact ⟨rfl, rfl⟩
theorem compared_no6 (x y : Int) (w : World) : Calls Tryd.prog 102 #[.int .i64 6, .int .u16 x, .int .u16 y] w fun e w' => e = .returned (.tuple #[.int .u16 0, .bool false]) ∧ w = w' := by
  go_enter Tryd.func102, Tryd.ntmps102
  go_wp2
  go_ret2
  exact ⟨rfl, rfl⟩
theorem binary_no6 (x y : Int) (w : World) : Calls Tryd.prog 88 #[.int .i64 6, .int .u16 x, .int .u16 y] w fun e w' => e = .returned (.tuple #[.int .u16 0, .bool false]) ∧ w = w' := by
  go_enter Tryd.func88, Tryd.ntmps88
  go_wp2_with (go_at_call 102; refine (compared_no6 _ _ _).mono ?_; rintro e w' ⟨rfl, rfl⟩)
  go_ret2
  exact ⟨rfl, rfl⟩
theorem compared_no9 (x y : Int) (w : World) : Calls Tryd.prog 102 #[.int .i64 9, .int .u16 x, .int .u16 y] w fun e w' => e = .returned (.tuple #[.int .u16 0, .bool false]) ∧ w = w' := by
  go_enter Tryd.func102, Tryd.ntmps102
  go_wp2
  go_ret2
  exact ⟨rfl, rfl⟩
theorem binary_no9 (x y : Int) (w : World) : Calls Tryd.prog 88 #[.int .i64 9, .int .u16 x, .int .u16 y] w fun e w' => e = .returned (.tuple #[.int .u16 0, .bool false]) ∧ w = w' := by
  go_enter Tryd.func88, Tryd.ntmps88
  go_wp2_with (go_at_call 102; refine (compared_no9 _ _ _).mono ?_; rintro e w' ⟨rfl, rfl⟩)
  go_ret2
  exact ⟨rfl, rfl⟩
theorem compared_no12 (x y : Int) (w : World) : Calls Tryd.prog 102 #[.int .i64 12, .int .u16 x, .int .u16 y] w fun e w' => e = .returned (.tuple #[.int .u16 0, .bool false]) ∧ w = w' := by
  go_enter Tryd.func102, Tryd.ntmps102
  go_wp2
  go_ret2
  exact ⟨rfl, rfl⟩
theorem binary_no12 (x y : Int) (w : World) : Calls Tryd.prog 88 #[.int .i64 12, .int .u16 x, .int .u16 y] w fun e w' => e = .returned (.tuple #[.int .u16 0, .bool false]) ∧ w = w' := by
  go_enter Tryd.func88, Tryd.ntmps88
  go_wp2_with (go_at_call 102; refine (compared_no12 _ _ _).mono ?_; rintro e w' ⟨rfl, rfl⟩)
  go_ret2
  exact ⟨rfl, rfl⟩
theorem compared_no13 (x y : Int) (w : World) : Calls Tryd.prog 102 #[.int .i64 13, .int .u16 x, .int .u16 y] w fun e w' => e = .returned (.tuple #[.int .u16 0, .bool false]) ∧ w = w' := by
  go_enter Tryd.func102, Tryd.ntmps102
  go_wp2
  go_ret2
  exact ⟨rfl, rfl⟩
theorem binary_no13 (x y : Int) (w : World) : Calls Tryd.prog 88 #[.int .i64 13, .int .u16 x, .int .u16 y] w fun e w' => e = .returned (.tuple #[.int .u16 0, .bool false]) ∧ w = w' := by
  go_enter Tryd.func88, Tryd.ntmps88
  go_wp2_with (go_at_call 102; refine (compared_no13 _ _ _).mono ?_; rintro e w' ⟨rfl, rfl⟩)
  go_ret2
  exact ⟨rfl, rfl⟩
theorem compared_no14 (x y : Int) (w : World) : Calls Tryd.prog 102 #[.int .i64 14, .int .u16 x, .int .u16 y] w fun e w' => e = .returned (.tuple #[.int .u16 0, .bool false]) ∧ w = w' := by
  go_enter Tryd.func102, Tryd.ntmps102
  go_wp2
  go_ret2
  exact ⟨rfl, rfl⟩
theorem binary_no14 (x y : Int) (w : World) : Calls Tryd.prog 88 #[.int .i64 14, .int .u16 x, .int .u16 y] w fun e w' => e = .returned (.tuple #[.int .u16 0, .bool false]) ∧ w = w' := by
  go_enter Tryd.func88, Tryd.ntmps88
  go_wp2_with (go_at_call 102; refine (compared_no14 _ _ _).mono ?_; rintro e w' ⟨rfl, rfl⟩)
  go_ret2
  exact ⟨rfl, rfl⟩
theorem compared_no15 (x y : Int) (w : World) : Calls Tryd.prog 102 #[.int .i64 15, .int .u16 x, .int .u16 y] w fun e w' => e = .returned (.tuple #[.int .u16 0, .bool false]) ∧ w = w' := by
  go_enter Tryd.func102, Tryd.ntmps102
  go_wp2
  go_ret2
  exact ⟨rfl, rfl⟩
theorem binary_no15 (x y : Int) (w : World) : Calls Tryd.prog 88 #[.int .i64 15, .int .u16 x, .int .u16 y] w fun e w' => e = .returned (.tuple #[.int .u16 0, .bool false]) ∧ w = w' := by
  go_enter Tryd.func88, Tryd.ntmps88
  go_wp2_with (go_at_call 102; refine (compared_no15 _ _ _).mono ?_; rintro e w' ⟨rfl, rfl⟩)
  go_ret2
  exact ⟨rfl, rfl⟩
theorem compared_no16 (x y : Int) (w : World) : Calls Tryd.prog 102 #[.int .i64 16, .int .u16 x, .int .u16 y] w fun e w' => e = .returned (.tuple #[.int .u16 0, .bool false]) ∧ w = w' := by
  go_enter Tryd.func102, Tryd.ntmps102
  go_wp2
  go_ret2
  exact ⟨rfl, rfl⟩
theorem binary_no16 (x y : Int) (w : World) : Calls Tryd.prog 88 #[.int .i64 16, .int .u16 x, .int .u16 y] w fun e w' => e = .returned (.tuple #[.int .u16 0, .bool false]) ∧ w = w' := by
  go_enter Tryd.func88, Tryd.ntmps88
  go_wp2_with (go_at_call 102; refine (compared_no16 _ _ _).mono ?_; rintro e w' ⟨rfl, rfl⟩)
  go_ret2
  exact ⟨rfl, rfl⟩
theorem compared_no17 (x y : Int) (w : World) : Calls Tryd.prog 102 #[.int .i64 17, .int .u16 x, .int .u16 y] w fun e w' => e = .returned (.tuple #[.int .u16 0, .bool false]) ∧ w = w' := by
  go_enter Tryd.func102, Tryd.ntmps102
  go_wp2
  go_ret2
  exact ⟨rfl, rfl⟩
theorem binary_no17 (x y : Int) (w : World) : Calls Tryd.prog 88 #[.int .i64 17, .int .u16 x, .int .u16 y] w fun e w' => e = .returned (.tuple #[.int .u16 0, .bool false]) ∧ w = w' := by
  go_enter Tryd.func88, Tryd.ntmps88
  go_wp2_with (go_at_call 102; refine (compared_no17 _ _ _).mono ?_; rintro e w' ⟨rfl, rfl⟩)
  go_ret2
  exact ⟨rfl, rfl⟩
theorem compared_no18 (x y : Int) (w : World) : Calls Tryd.prog 102 #[.int .i64 18, .int .u16 x, .int .u16 y] w fun e w' => e = .returned (.tuple #[.int .u16 0, .bool false]) ∧ w = w' := by
  go_enter Tryd.func102, Tryd.ntmps102
  go_wp2
  go_ret2
  exact ⟨rfl, rfl⟩
theorem binary_no18 (x y : Int) (w : World) : Calls Tryd.prog 88 #[.int .i64 18, .int .u16 x, .int .u16 y] w fun e w' => e = .returned (.tuple #[.int .u16 0, .bool false]) ∧ w = w' := by
  go_enter Tryd.func88, Tryd.ntmps88
  go_wp2_with (go_at_call 102; refine (compared_no18 _ _ _).mono ?_; rintro e w' ⟨rfl, rfl⟩)
  go_ret2
  exact ⟨rfl, rfl⟩
theorem compared_no19 (x y : Int) (w : World) : Calls Tryd.prog 102 #[.int .i64 19, .int .u16 x, .int .u16 y] w fun e w' => e = .returned (.tuple #[.int .u16 0, .bool false]) ∧ w = w' := by
  go_enter Tryd.func102, Tryd.ntmps102
  go_wp2
  go_ret2
  exact ⟨rfl, rfl⟩
theorem binary_no19 (x y : Int) (w : World) : Calls Tryd.prog 88 #[.int .i64 19, .int .u16 x, .int .u16 y] w fun e w' => e = .returned (.tuple #[.int .u16 0, .bool false]) ∧ w = w' := by
  go_enter Tryd.func88, Tryd.ntmps88
  go_wp2_with (go_at_call 102; refine (compared_no19 _ _ _).mono ?_; rintro e w' ⟨rfl, rfl⟩)
  go_ret2
  exact ⟨rfl, rfl⟩
theorem compared_no20 (x y : Int) (w : World) : Calls Tryd.prog 102 #[.int .i64 20, .int .u16 x, .int .u16 y] w fun e w' => e = .returned (.tuple #[.int .u16 0, .bool false]) ∧ w = w' := by
  go_enter Tryd.func102, Tryd.ntmps102
  go_wp2
  go_ret2
  exact ⟨rfl, rfl⟩
theorem binary_no20 (x y : Int) (w : World) : Calls Tryd.prog 88 #[.int .i64 20, .int .u16 x, .int .u16 y] w fun e w' => e = .returned (.tuple #[.int .u16 0, .bool false]) ∧ w = w' := by
  go_enter Tryd.func88, Tryd.ntmps88
  go_wp2_with (go_at_call 102; refine (compared_no20 _ _ _).mono ?_; rintro e w' ⟨rfl, rfl⟩)
  go_ret2
  exact ⟨rfl, rfl⟩
theorem compared_no50 (x y : Int) (w : World) : Calls Tryd.prog 102 #[.int .i64 50, .int .u16 x, .int .u16 y] w fun e w' => e = .returned (.tuple #[.int .u16 0, .bool false]) ∧ w = w' := by
  go_enter Tryd.func102, Tryd.ntmps102
  go_wp2
  go_ret2
  exact ⟨rfl, rfl⟩
theorem binary_no50 (x y : Int) (w : World) : Calls Tryd.prog 88 #[.int .i64 50, .int .u16 x, .int .u16 y] w fun e w' => e = .returned (.tuple #[.int .u16 0, .bool false]) ∧ w = w' := by
  go_enter Tryd.func88, Tryd.ntmps88
  go_wp2_with (go_at_call 102; refine (compared_no50 _ _ _).mono ?_; rintro e w' ⟨rfl, rfl⟩)
  go_ret2
  exact ⟨rfl, rfl⟩
theorem compared_no51 (x y : Int) (w : World) : Calls Tryd.prog 102 #[.int .i64 51, .int .u16 x, .int .u16 y] w fun e w' => e = .returned (.tuple #[.int .u16 0, .bool false]) ∧ w = w' := by
  go_enter Tryd.func102, Tryd.ntmps102
  go_wp2
  go_ret2
  exact ⟨rfl, rfl⟩
theorem binary_no51 (x y : Int) (w : World) : Calls Tryd.prog 88 #[.int .i64 51, .int .u16 x, .int .u16 y] w fun e w' => e = .returned (.tuple #[.int .u16 0, .bool false]) ∧ w = w' := by
  go_enter Tryd.func88, Tryd.ntmps88
  go_wp2_with (go_at_call 102; refine (compared_no51 _ _ _).mono ?_; rintro e w' ⟨rfl, rfl⟩)
  go_ret2
  exact ⟨rfl, rfl⟩
theorem compared_no52 (x y : Int) (w : World) : Calls Tryd.prog 102 #[.int .i64 52, .int .u16 x, .int .u16 y] w fun e w' => e = .returned (.tuple #[.int .u16 0, .bool false]) ∧ w = w' := by
  go_enter Tryd.func102, Tryd.ntmps102
  go_wp2
  go_ret2
  exact ⟨rfl, rfl⟩
theorem binary_no52 (x y : Int) (w : World) : Calls Tryd.prog 88 #[.int .i64 52, .int .u16 x, .int .u16 y] w fun e w' => e = .returned (.tuple #[.int .u16 0, .bool false]) ∧ w = w' := by
  go_enter Tryd.func88, Tryd.ntmps88
  go_wp2_with (go_at_call 102; refine (compared_no52 _ _ _).mono ?_; rintro e w' ⟨rfl, rfl⟩)
  go_ret2
  exact ⟨rfl, rfl⟩
theorem compared_no53 (x y : Int) (w : World) : Calls Tryd.prog 102 #[.int .i64 53, .int .u16 x, .int .u16 y] w fun e w' => e = .returned (.tuple #[.int .u16 0, .bool false]) ∧ w = w' := by
  go_enter Tryd.func102, Tryd.ntmps102
  go_wp2
  go_ret2
  exact ⟨rfl, rfl⟩
theorem binary_no53 (x y : Int) (w : World) : Calls Tryd.prog 88 #[.int .i64 53, .int .u16 x, .int .u16 y] w fun e w' => e = .returned (.tuple #[.int .u16 0, .bool false]) ∧ w = w' := by
  go_enter Tryd.func88, Tryd.ntmps88
  go_wp2_with (go_at_call 102; refine (compared_no53 _ _ _).mono ?_; rintro e w' ⟨rfl, rfl⟩)
  go_ret2
  exact ⟨rfl, rfl⟩
theorem compared_no54 (x y : Int) (w : World) : Calls Tryd.prog 102 #[.int .i64 54, .int .u16 x, .int .u16 y] w fun e w' => e = .returned (.tuple #[.int .u16 0, .bool false]) ∧ w = w' := by
  go_enter Tryd.func102, Tryd.ntmps102
  go_wp2
  go_ret2
  exact ⟨rfl, rfl⟩
theorem binary_no54 (x y : Int) (w : World) : Calls Tryd.prog 88 #[.int .i64 54, .int .u16 x, .int .u16 y] w fun e w' => e = .returned (.tuple #[.int .u16 0, .bool false]) ∧ w = w' := by
  go_enter Tryd.func88, Tryd.ntmps88
  go_wp2_with (go_at_call 102; refine (compared_no54 _ _ _).mono ?_; rintro e w' ⟨rfl, rfl⟩)
  go_ret2
  exact ⟨rfl, rfl⟩
theorem compared_no55 (x y : Int) (w : World) : Calls Tryd.prog 102 #[.int .i64 55, .int .u16 x, .int .u16 y] w fun e w' => e = .returned (.tuple #[.int .u16 0, .bool false]) ∧ w = w' := by
  go_enter Tryd.func102, Tryd.ntmps102
  go_wp2
  go_ret2
  exact ⟨rfl, rfl⟩
theorem binary_no55 (x y : Int) (w : World) : Calls Tryd.prog 88 #[.int .i64 55, .int .u16 x, .int .u16 y] w fun e w' => e = .returned (.tuple #[.int .u16 0, .bool false]) ∧ w = w' := by
  go_enter Tryd.func88, Tryd.ntmps88
  go_wp2_with (go_at_call 102; refine (compared_no55 _ _ _).mono ?_; rintro e w' ⟨rfl, rfl⟩)
  go_ret2
  exact ⟨rfl, rfl⟩
theorem compared_no56 (x y : Int) (w : World) : Calls Tryd.prog 102 #[.int .i64 56, .int .u16 x, .int .u16 y] w fun e w' => e = .returned (.tuple #[.int .u16 0, .bool false]) ∧ w = w' := by
  go_enter Tryd.func102, Tryd.ntmps102
  go_wp2
  go_ret2
  exact ⟨rfl, rfl⟩
theorem binary_no56 (x y : Int) (w : World) : Calls Tryd.prog 88 #[.int .i64 56, .int .u16 x, .int .u16 y] w fun e w' => e = .returned (.tuple #[.int .u16 0, .bool false]) ∧ w = w' := by
  go_enter Tryd.func88, Tryd.ntmps88
  go_wp2_with (go_at_call 102; refine (compared_no56 _ _ _).mono ?_; rintro e w' ⟨rfl, rfl⟩)
  go_ret2
  exact ⟨rfl, rfl⟩
theorem compared_no57 (x y : Int) (w : World) : Calls Tryd.prog 102 #[.int .i64 57, .int .u16 x, .int .u16 y] w fun e w' => e = .returned (.tuple #[.int .u16 0, .bool false]) ∧ w = w' := by
  go_enter Tryd.func102, Tryd.ntmps102
  go_wp2
  go_ret2
  exact ⟨rfl, rfl⟩
theorem binary_no57 (x y : Int) (w : World) : Calls Tryd.prog 88 #[.int .i64 57, .int .u16 x, .int .u16 y] w fun e w' => e = .returned (.tuple #[.int .u16 0, .bool false]) ∧ w = w' := by
  go_enter Tryd.func88, Tryd.ntmps88
  go_wp2_with (go_at_call 102; refine (compared_no57 _ _ _).mono ?_; rintro e w' ⟨rfl, rfl⟩)
  go_ret2
  exact ⟨rfl, rfl⟩
theorem compared_no58 (x y : Int) (w : World) : Calls Tryd.prog 102 #[.int .i64 58, .int .u16 x, .int .u16 y] w fun e w' => e = .returned (.tuple #[.int .u16 0, .bool false]) ∧ w = w' := by
  go_enter Tryd.func102, Tryd.ntmps102
  go_wp2
  go_ret2
  exact ⟨rfl, rfl⟩
theorem binary_no58 (x y : Int) (w : World) : Calls Tryd.prog 88 #[.int .i64 58, .int .u16 x, .int .u16 y] w fun e w' => e = .returned (.tuple #[.int .u16 0, .bool false]) ∧ w = w' := by
  go_enter Tryd.func88, Tryd.ntmps88
  go_wp2_with (go_at_call 102; refine (compared_no58 _ _ _).mono ?_; rintro e w' ⟨rfl, rfl⟩)
  go_ret2
  exact ⟨rfl, rfl⟩
theorem compared_no59 (x y : Int) (w : World) : Calls Tryd.prog 102 #[.int .i64 59, .int .u16 x, .int .u16 y] w fun e w' => e = .returned (.tuple #[.int .u16 0, .bool false]) ∧ w = w' := by
  go_enter Tryd.func102, Tryd.ntmps102
  go_wp2
  go_ret2
  exact ⟨rfl, rfl⟩
theorem binary_no59 (x y : Int) (w : World) : Calls Tryd.prog 88 #[.int .i64 59, .int .u16 x, .int .u16 y] w fun e w' => e = .returned (.tuple #[.int .u16 0, .bool false]) ∧ w = w' := by
  go_enter Tryd.func88, Tryd.ntmps88
  go_wp2_with (go_at_call 102; refine (compared_no59 _ _ _).mono ?_; rintro e w' ⟨rfl, rfl⟩)
  go_ret2
  exact ⟨rfl, rfl⟩
theorem compared_no60 (x y : Int) (w : World) : Calls Tryd.prog 102 #[.int .i64 60, .int .u16 x, .int .u16 y] w fun e w' => e = .returned (.tuple #[.int .u16 0, .bool false]) ∧ w = w' := by
  go_enter Tryd.func102, Tryd.ntmps102
  go_wp2
  go_ret2
  exact ⟨rfl, rfl⟩
theorem binary_no60 (x y : Int) (w : World) : Calls Tryd.prog 88 #[.int .i64 60, .int .u16 x, .int .u16 y] w fun e w' => e = .returned (.tuple #[.int .u16 0, .bool false]) ∧ w = w' := by
  go_enter Tryd.func88, Tryd.ntmps88
  go_wp2_with (go_at_call 102; refine (compared_no60 _ _ _).mono ?_; rintro e w' ⟨rfl, rfl⟩)
  go_ret2
  exact ⟨rfl, rfl⟩
theorem compared_no61 (x y : Int) (w : World) : Calls Tryd.prog 102 #[.int .i64 61, .int .u16 x, .int .u16 y] w fun e w' => e = .returned (.tuple #[.int .u16 0, .bool false]) ∧ w = w' := by
  go_enter Tryd.func102, Tryd.ntmps102
  go_wp2
  go_ret2
  exact ⟨rfl, rfl⟩
theorem binary_no61 (x y : Int) (w : World) : Calls Tryd.prog 88 #[.int .i64 61, .int .u16 x, .int .u16 y] w fun e w' => e = .returned (.tuple #[.int .u16 0, .bool false]) ∧ w = w' := by
  go_enter Tryd.func88, Tryd.ntmps88
  go_wp2_with (go_at_call 102; refine (compared_no61 _ _ _).mono ?_; rintro e w' ⟨rfl, rfl⟩)
  go_ret2
  exact ⟨rfl, rfl⟩
theorem compared_no62 (x y : Int) (w : World) : Calls Tryd.prog 102 #[.int .i64 62, .int .u16 x, .int .u16 y] w fun e w' => e = .returned (.tuple #[.int .u16 0, .bool false]) ∧ w = w' := by
  go_enter Tryd.func102, Tryd.ntmps102
  go_wp2
  go_ret2
  exact ⟨rfl, rfl⟩
theorem binary_no62 (x y : Int) (w : World) : Calls Tryd.prog 88 #[.int .i64 62, .int .u16 x, .int .u16 y] w fun e w' => e = .returned (.tuple #[.int .u16 0, .bool false]) ∧ w = w' := by
  go_enter Tryd.func88, Tryd.ntmps88
  go_wp2_with (go_at_call 102; refine (compared_no62 _ _ _).mono ?_; rintro e w' ⟨rfl, rfl⟩)
  go_ret2
  exact ⟨rfl, rfl⟩
theorem compared_no63 (x y : Int) (w : World) : Calls Tryd.prog 102 #[.int .i64 63, .int .u16 x, .int .u16 y] w fun e w' => e = .returned (.tuple #[.int .u16 0, .bool false]) ∧ w = w' := by
  go_enter Tryd.func102, Tryd.ntmps102
  go_wp2
  go_ret2
  exact ⟨rfl, rfl⟩
theorem binary_no63 (x y : Int) (w : World) : Calls Tryd.prog 88 #[.int .i64 63, .int .u16 x, .int .u16 y] w fun e w' => e = .returned (.tuple #[.int .u16 0, .bool false]) ∧ w = w' := by
  go_enter Tryd.func88, Tryd.ntmps88
  go_wp2_with (go_at_call 102; refine (compared_no63 _ _ _).mono ?_; rintro e w' ⟨rfl, rfl⟩)
  go_ret2
  exact ⟨rfl, rfl⟩
end Go.Proofs.YtdnalhjdmlkbmaaDoor
namespace Go.Proofs.YtdnalhjdmlkbmaaDoor
open Go.RowKit

/-- What a shuffle's closure holds. -/
def ShufCl (n : Nat) (ps : List Nat) (w : World) (G : Nat → Nat) (c : Array Value) : Prop :=
  ∃ B1 B2 la lc, c = #[.pointer (some ⟨B1, 0, none⟩), .pointer (some ⟨B2, 0, none⟩)] ∧ w.cell? ⟨B1, 0, none⟩ = some (.int .i64 n) ∧ G B1 = 0 ∧ w.cell? ⟨B2, 0, none⟩ = some (.slice la ps.length lc) ∧ G B2 = 0 ∧
    Reads w la (cellsI ps) ∧ ∀ ad, la = some ad → G ad.block = 0 ∧ ad.block < w.heap.size
theorem ShufCl.adv {n : Nat} {ps : List Nat} {S : Nat → Prop} {w w' : World} {G G' : Nat → Nat} {c : Array Value} (h : ShufCl n ps w G c) (ha : Adv S w G w' G') (hs : ¬ S 0) : ShufCl n ps w' G' c := by
  obtain ⟨B1, B2, la, lc, h1, h2, h3, h4, h5, h6, h7⟩ := h
  exact ⟨B1, B2, la, lc, h1, ha.cell_some h2 (by rw [h3]; exact hs), (ha.own _ (World.block_lt_of_cell? w _ h2)).trans h3, ha.cell_some h4 (by rw [h5]; exact hs), (ha.own _ (World.block_lt_of_cell? w _ h4)).trans h5,
    h6.adv ha (fun ad e => by rw [(h7 ad e).1]; exact hs), fun ad e => ⟨(ha.own _ (h7 ad e).2).trans (h7 ad e).1, Nat.lt_of_lt_of_le (h7 ad e).2 ha.size⟩⟩
theorem shufCl_new (w : World) (G : Nat → Nat) (n : Nat) (ps : List Nat) :
    ∃ G', Adv (fun _ => False) w G (((w.alloc (.cells (cellsI ps).toArray 3)).alloc (.cells #[.int .i64 n] 3)).alloc (.cells #[.slice (some ⟨w.heap.size, 0, none⟩) ps.length ps.length] 23)) G' ∧
      ShufCl n ps (((w.alloc (.cells (cellsI ps).toArray 3)).alloc (.cells #[.int .i64 n] 3)).alloc (.cells #[.slice (some ⟨w.heap.size, 0, none⟩) ps.length ps.length] 23)) G' #[.pointer (some ⟨w.heap.size + 1, 0, none⟩), .pointer (some ⟨w.heap.size + 2, 0, none⟩)] := by
  have h1 := (Adv.refl (fun _ => False) w G).alloc (.cells (cellsI ps).toArray 3) 0
  have h2 := h1.alloc (.cells #[.int .i64 n] 3) 0
  have h3 := h2.alloc (.cells #[.slice (some ⟨w.heap.size, 0, none⟩) ps.length ps.length] 23) 0
  refine ⟨_, h3, w.heap.size + 1, w.heap.size + 2, some ⟨w.heap.size, 0, none⟩, ps.length, rfl, ?_, ?_, ?_, ?_, ((Reads.new w (cellsI ps) 3).alloc _).alloc _, ?_⟩
  · exact block_cell (C := #[.int .i64 n]) (T := 3) ((heap_past _ _ _ (by simp)).trans (heap_at _ _ _ (by simp))) 0 _ rfl
  · simp [own1]
  · exact block_cell (C := #[.slice (some ⟨w.heap.size, 0, none⟩) ps.length ps.length]) (T := 23) (heap_at _ _ _ (by simp)) 0 _ rfl
  · simp [own1]
  · rintro ad ⟨⟩; simp [own1]; omega
theorem shufCl_nil (w : World) (G : Nat → Nat) (n : Nat) :
    ∃ G', Adv (fun _ => False) w G ((w.alloc (.cells #[.int .i64 n] 3)).alloc (.cells #[.slice none 0 0] 23)) G' ∧
      ShufCl n [] ((w.alloc (.cells #[.int .i64 n] 3)).alloc (.cells #[.slice none 0 0] 23)) G' #[.pointer (some ⟨w.heap.size, 0, none⟩), .pointer (some ⟨w.heap.size + 1, 0, none⟩)] := by
  have h2 := (Adv.refl (fun _ => False) w G).alloc (.cells #[.int .i64 n] 3) 0
  have h3 := h2.alloc (.cells #[.slice none 0 0] 23) 0
  refine ⟨_, h3, w.heap.size, w.heap.size + 1, none, 0, rfl, ?_, ?_, ?_, ?_, .inl rfl, ?_⟩
  · exact block_cell (C := #[.int .i64 n]) (T := 3) ((heap_past _ _ _ (by simp)).trans (heap_at _ _ _ (by simp))) 0 _ rfl
  · simp [own1]
  · exact block_cell (C := #[.slice none 0 0]) (T := 23) (heap_at _ _ _ (by simp)) 0 _ rfl
  · simp [own1]
  · rintro ad ⟨⟩

set_option maxRecDepth 100000 in
theorem does_12 (G : Nat → Nat) (w : World) : Calls Tryd.prog 79 #[.int .i64 12] w fun e w' => ∃ c G', e = .returned (.func (.func 104) #[] c) ∧ Adv (fun _ => False) w G w' G' ∧ ShufCl 1 [0, 0] w' G' c := by
  have hmf : ∀ (fn : Fn) (first cap : Array Value) (w : World), (Instr.makeFunc fn first cap).run Tryd.prog w = .ok (.func fn first cap) w := fun _ _ _ _ => rfl
  go_enter Tryd.func79, Tryd.ntmps79
  go_wp2_with (first | (go_at_call 86; refine (unary_no12 _ _).mono ?_; rintro e w' ⟨rfl, rfl⟩) | (go_at_call 88; refine (binary_no12 _ _ _).mono ?_; rintro e w' ⟨rfl, rfl⟩) | (go_at_call 91; go_in))
  go_ret
  obtain ⟨G', h1, h2⟩ := shufCl_new w G 1 [0, 0]
  exact ⟨_, G', rfl, h1, h2⟩
set_option maxRecDepth 100000 in
theorem does_13 (G : Nat → Nat) (w : World) : Calls Tryd.prog 79 #[.int .i64 13] w fun e w' => ∃ c G', e = .returned (.func (.func 104) #[] c) ∧ Adv (fun _ => False) w G w' G' ∧ ShufCl 1 [] w' G' c := by
  have hmf : ∀ (fn : Fn) (first cap : Array Value) (w : World), (Instr.makeFunc fn first cap).run Tryd.prog w = .ok (.func fn first cap) w := fun _ _ _ _ => rfl
  go_enter Tryd.func79, Tryd.ntmps79
  go_wp2_with (first | (go_at_call 86; refine (unary_no13 _ _).mono ?_; rintro e w' ⟨rfl, rfl⟩) | (go_at_call 88; refine (binary_no13 _ _ _).mono ?_; rintro e w' ⟨rfl, rfl⟩) | (go_at_call 91; go_in))
  go_ret
  obtain ⟨G', h1, h2⟩ := shufCl_nil w G 1
  exact ⟨_, G', rfl, h1, h2⟩
set_option maxRecDepth 100000 in
theorem does_14 (G : Nat → Nat) (w : World) : Calls Tryd.prog 79 #[.int .i64 14] w fun e w' => ∃ c G', e = .returned (.func (.func 104) #[] c) ∧ Adv (fun _ => False) w G w' G' ∧ ShufCl 2 [1, 0] w' G' c := by
  have hmf : ∀ (fn : Fn) (first cap : Array Value) (w : World), (Instr.makeFunc fn first cap).run Tryd.prog w = .ok (.func fn first cap) w := fun _ _ _ _ => rfl
  go_enter Tryd.func79, Tryd.ntmps79
  go_wp2_with (first | (go_at_call 86; refine (unary_no14 _ _).mono ?_; rintro e w' ⟨rfl, rfl⟩) | (go_at_call 88; refine (binary_no14 _ _ _).mono ?_; rintro e w' ⟨rfl, rfl⟩) | (go_at_call 91; go_in))
  go_ret
  obtain ⟨G', h1, h2⟩ := shufCl_new w G 2 [1, 0]
  exact ⟨_, G', rfl, h1, h2⟩
set_option maxRecDepth 100000 in
theorem does_15 (G : Nat → Nat) (w : World) : Calls Tryd.prog 79 #[.int .i64 15] w fun e w' => ∃ c G', e = .returned (.func (.func 104) #[] c) ∧ Adv (fun _ => False) w G w' G' ∧ ShufCl 2 [0, 1, 0] w' G' c := by
  have hmf : ∀ (fn : Fn) (first cap : Array Value) (w : World), (Instr.makeFunc fn first cap).run Tryd.prog w = .ok (.func fn first cap) w := fun _ _ _ _ => rfl
  go_enter Tryd.func79, Tryd.ntmps79
  go_wp2_with (first | (go_at_call 86; refine (unary_no15 _ _).mono ?_; rintro e w' ⟨rfl, rfl⟩) | (go_at_call 88; refine (binary_no15 _ _ _).mono ?_; rintro e w' ⟨rfl, rfl⟩) | (go_at_call 91; go_in))
  go_ret
  obtain ⟨G', h1, h2⟩ := shufCl_new w G 2 [0, 1, 0]
  exact ⟨_, G', rfl, h1, h2⟩
set_option maxRecDepth 100000 in
theorem does_16 (G : Nat → Nat) (w : World) : Calls Tryd.prog 79 #[.int .i64 16] w fun e w' => ∃ c G', e = .returned (.func (.func 104) #[] c) ∧ Adv (fun _ => False) w G w' G' ∧ ShufCl 3 [1, 2, 0] w' G' c := by
  have hmf : ∀ (fn : Fn) (first cap : Array Value) (w : World), (Instr.makeFunc fn first cap).run Tryd.prog w = .ok (.func fn first cap) w := fun _ _ _ _ => rfl
  go_enter Tryd.func79, Tryd.ntmps79
  go_wp2_with (first | (go_at_call 86; refine (unary_no16 _ _).mono ?_; rintro e w' ⟨rfl, rfl⟩) | (go_at_call 88; refine (binary_no16 _ _ _).mono ?_; rintro e w' ⟨rfl, rfl⟩) | (go_at_call 91; go_in))
  go_ret
  obtain ⟨G', h1, h2⟩ := shufCl_new w G 3 [1, 2, 0]
  exact ⟨_, G', rfl, h1, h2⟩
set_option maxRecDepth 100000 in
theorem does_17 (G : Nat → Nat) (w : World) : Calls Tryd.prog 79 #[.int .i64 17] w fun e w' => ∃ c G', e = .returned (.func (.func 104) #[] c) ∧ Adv (fun _ => False) w G w' G' ∧ ShufCl 2 [1] w' G' c := by
  have hmf : ∀ (fn : Fn) (first cap : Array Value) (w : World), (Instr.makeFunc fn first cap).run Tryd.prog w = .ok (.func fn first cap) w := fun _ _ _ _ => rfl
  go_enter Tryd.func79, Tryd.ntmps79
  go_wp2_with (first | (go_at_call 86; refine (unary_no17 _ _).mono ?_; rintro e w' ⟨rfl, rfl⟩) | (go_at_call 88; refine (binary_no17 _ _ _).mono ?_; rintro e w' ⟨rfl, rfl⟩) | (go_at_call 91; go_in))
  go_ret
  obtain ⟨G', h1, h2⟩ := shufCl_new w G 2 [1]
  exact ⟨_, G', rfl, h1, h2⟩
set_option maxRecDepth 100000 in
theorem does_18 (G : Nat → Nat) (w : World) : Calls Tryd.prog 79 #[.int .i64 18] w fun e w' => ∃ c G', e = .returned (.func (.func 104) #[] c) ∧ Adv (fun _ => False) w G w' G' ∧ ShufCl 2 [1, 0, 1] w' G' c := by
  have hmf : ∀ (fn : Fn) (first cap : Array Value) (w : World), (Instr.makeFunc fn first cap).run Tryd.prog w = .ok (.func fn first cap) w := fun _ _ _ _ => rfl
  go_enter Tryd.func79, Tryd.ntmps79
  go_wp2_with (first | (go_at_call 86; refine (unary_no18 _ _).mono ?_; rintro e w' ⟨rfl, rfl⟩) | (go_at_call 88; refine (binary_no18 _ _ _).mono ?_; rintro e w' ⟨rfl, rfl⟩) | (go_at_call 91; go_in))
  go_ret
  obtain ⟨G', h1, h2⟩ := shufCl_new w G 2 [1, 0, 1]
  exact ⟨_, G', rfl, h1, h2⟩
set_option maxRecDepth 100000 in
theorem does_19 (G : Nat → Nat) (w : World) : Calls Tryd.prog 79 #[.int .i64 19] w fun e w' => ∃ c G', e = .returned (.func (.func 104) #[] c) ∧ Adv (fun _ => False) w G w' G' ∧ ShufCl 2 [0, 1, 0, 1] w' G' c := by
  have hmf : ∀ (fn : Fn) (first cap : Array Value) (w : World), (Instr.makeFunc fn first cap).run Tryd.prog w = .ok (.func fn first cap) w := fun _ _ _ _ => rfl
  go_enter Tryd.func79, Tryd.ntmps79
  go_wp2_with (first | (go_at_call 86; refine (unary_no19 _ _).mono ?_; rintro e w' ⟨rfl, rfl⟩) | (go_at_call 88; refine (binary_no19 _ _ _).mono ?_; rintro e w' ⟨rfl, rfl⟩) | (go_at_call 91; go_in))
  go_ret
  obtain ⟨G', h1, h2⟩ := shufCl_new w G 2 [0, 1, 0, 1]
  exact ⟨_, G', rfl, h1, h2⟩
set_option maxRecDepth 100000 in
theorem does_20 (G : Nat → Nat) (w : World) : Calls Tryd.prog 79 #[.int .i64 20] w fun e w' => ∃ c G', e = .returned (.func (.func 104) #[] c) ∧ Adv (fun _ => False) w G w' G' ∧ ShufCl 2 [] w' G' c := by
  have hmf : ∀ (fn : Fn) (first cap : Array Value) (w : World), (Instr.makeFunc fn first cap).run Tryd.prog w = .ok (.func fn first cap) w := fun _ _ _ _ => rfl
  go_enter Tryd.func79, Tryd.ntmps79
  go_wp2_with (first | (go_at_call 86; refine (unary_no20 _ _).mono ?_; rintro e w' ⟨rfl, rfl⟩) | (go_at_call 88; refine (binary_no20 _ _ _).mono ?_; rintro e w' ⟨rfl, rfl⟩) | (go_at_call 91; go_in))
  go_ret
  obtain ⟨G', h1, h2⟩ := shufCl_nil w G 2
  exact ⟨_, G', rfl, h1, h2⟩
theorem does_6 (w : World) : Calls Tryd.prog 79 #[.int .i64 6] w fun e w' => e = .returned (.func (.func 106) #[] #[]) ∧ w = w' := by
  go_enter Tryd.func79, Tryd.ntmps79
  go_wp2_with (first | (go_at_call 86; refine (unary_no6 _ _).mono ?_; rintro e w' ⟨rfl, rfl⟩) | (go_at_call 88; refine (binary_no6 _ _ _).mono ?_; rintro e w' ⟨rfl, rfl⟩) | (go_at_call 92; go_in))
  go_ret
  exact ⟨rfl, rfl⟩
theorem does_50 (w : World) : Calls Tryd.prog 79 #[.int .i64 50] w fun e w' => e = .returned (.func (.func 107) #[] #[]) ∧ w = w' := by
  go_enter Tryd.func79, Tryd.ntmps79
  go_wp2_with (first | (go_at_call 86; refine (unary_no50 _ _).mono ?_; rintro e w' ⟨rfl, rfl⟩) | (go_at_call 88; refine (binary_no50 _ _ _).mono ?_; rintro e w' ⟨rfl, rfl⟩) | (go_at_call 92; go_in))
  go_ret
  exact ⟨rfl, rfl⟩
theorem does_51 (w : World) : Calls Tryd.prog 79 #[.int .i64 51] w fun e w' => e = .returned (.func (.func 108) #[] #[]) ∧ w = w' := by
  go_enter Tryd.func79, Tryd.ntmps79
  go_wp2_with (first | (go_at_call 86; refine (unary_no51 _ _).mono ?_; rintro e w' ⟨rfl, rfl⟩) | (go_at_call 88; refine (binary_no51 _ _ _).mono ?_; rintro e w' ⟨rfl, rfl⟩) | (go_at_call 92; go_in))
  go_ret
  exact ⟨rfl, rfl⟩
theorem does_52 (w : World) : Calls Tryd.prog 79 #[.int .i64 52] w fun e w' => e = .returned (.func (.func 109) #[] #[]) ∧ w = w' := by
  go_enter Tryd.func79, Tryd.ntmps79
  go_wp2_with (first | (go_at_call 86; refine (unary_no52 _ _).mono ?_; rintro e w' ⟨rfl, rfl⟩) | (go_at_call 88; refine (binary_no52 _ _ _).mono ?_; rintro e w' ⟨rfl, rfl⟩) | (go_at_call 92; go_in))
  go_ret
  exact ⟨rfl, rfl⟩
theorem does_53 (w : World) : Calls Tryd.prog 79 #[.int .i64 53] w fun e w' => e = .returned (.func (.func 110) #[] #[]) ∧ w = w' := by
  go_enter Tryd.func79, Tryd.ntmps79
  go_wp2_with (first | (go_at_call 86; refine (unary_no53 _ _).mono ?_; rintro e w' ⟨rfl, rfl⟩) | (go_at_call 88; refine (binary_no53 _ _ _).mono ?_; rintro e w' ⟨rfl, rfl⟩) | (go_at_call 92; go_in))
  go_ret
  exact ⟨rfl, rfl⟩
theorem does_54 (w : World) : Calls Tryd.prog 79 #[.int .i64 54] w fun e w' => e = .returned (.func (.func 111) #[] #[]) ∧ w = w' := by
  go_enter Tryd.func79, Tryd.ntmps79
  go_wp2_with (first | (go_at_call 86; refine (unary_no54 _ _).mono ?_; rintro e w' ⟨rfl, rfl⟩) | (go_at_call 88; refine (binary_no54 _ _ _).mono ?_; rintro e w' ⟨rfl, rfl⟩) | (go_at_call 92; go_in))
  go_ret
  exact ⟨rfl, rfl⟩
theorem does_55 (w : World) : Calls Tryd.prog 79 #[.int .i64 55] w fun e w' => e = .returned (.func (.func 112) #[] #[]) ∧ w = w' := by
  go_enter Tryd.func79, Tryd.ntmps79
  go_wp2_with (first | (go_at_call 86; refine (unary_no55 _ _).mono ?_; rintro e w' ⟨rfl, rfl⟩) | (go_at_call 88; refine (binary_no55 _ _ _).mono ?_; rintro e w' ⟨rfl, rfl⟩) | (go_at_call 92; go_in))
  go_ret
  exact ⟨rfl, rfl⟩
theorem does_56 (w : World) : Calls Tryd.prog 79 #[.int .i64 56] w fun e w' => e = .returned (.func (.func 113) #[] #[]) ∧ w = w' := by
  go_enter Tryd.func79, Tryd.ntmps79
  go_wp2_with (first | (go_at_call 86; refine (unary_no56 _ _).mono ?_; rintro e w' ⟨rfl, rfl⟩) | (go_at_call 88; refine (binary_no56 _ _ _).mono ?_; rintro e w' ⟨rfl, rfl⟩) | (go_at_call 92; go_in))
  go_ret
  exact ⟨rfl, rfl⟩
theorem does_57 (w : World) : Calls Tryd.prog 79 #[.int .i64 57] w fun e w' => e = .returned (.func (.func 114) #[] #[]) ∧ w = w' := by
  go_enter Tryd.func79, Tryd.ntmps79
  go_wp2_with (first | (go_at_call 86; refine (unary_no57 _ _).mono ?_; rintro e w' ⟨rfl, rfl⟩) | (go_at_call 88; refine (binary_no57 _ _ _).mono ?_; rintro e w' ⟨rfl, rfl⟩) | (go_at_call 92; go_in))
  go_ret
  exact ⟨rfl, rfl⟩
theorem does_58 (w : World) : Calls Tryd.prog 79 #[.int .i64 58] w fun e w' => e = .returned (.func (.func 115) #[] #[]) ∧ w = w' := by
  go_enter Tryd.func79, Tryd.ntmps79
  go_wp2_with (first | (go_at_call 86; refine (unary_no58 _ _).mono ?_; rintro e w' ⟨rfl, rfl⟩) | (go_at_call 88; refine (binary_no58 _ _ _).mono ?_; rintro e w' ⟨rfl, rfl⟩) | (go_at_call 92; go_in))
  go_ret
  exact ⟨rfl, rfl⟩
theorem does_59 (w : World) : Calls Tryd.prog 79 #[.int .i64 59] w fun e w' => e = .returned (.func (.func 116) #[] #[]) ∧ w = w' := by
  go_enter Tryd.func79, Tryd.ntmps79
  go_wp2_with (first | (go_at_call 86; refine (unary_no59 _ _).mono ?_; rintro e w' ⟨rfl, rfl⟩) | (go_at_call 88; refine (binary_no59 _ _ _).mono ?_; rintro e w' ⟨rfl, rfl⟩) | (go_at_call 92; go_in))
  go_ret
  exact ⟨rfl, rfl⟩
theorem does_60 (w : World) : Calls Tryd.prog 79 #[.int .i64 60] w fun e w' => e = .returned (.func (.func 117) #[] #[]) ∧ w = w' := by
  go_enter Tryd.func79, Tryd.ntmps79
  go_wp2_with (first | (go_at_call 86; refine (unary_no60 _ _).mono ?_; rintro e w' ⟨rfl, rfl⟩) | (go_at_call 88; refine (binary_no60 _ _ _).mono ?_; rintro e w' ⟨rfl, rfl⟩) | (go_at_call 92; go_in))
  go_ret
  exact ⟨rfl, rfl⟩
theorem does_61 (w : World) : Calls Tryd.prog 79 #[.int .i64 61] w fun e w' => e = .returned (.func (.func 118) #[] #[]) ∧ w = w' := by
  go_enter Tryd.func79, Tryd.ntmps79
  go_wp2_with (first | (go_at_call 86; refine (unary_no61 _ _).mono ?_; rintro e w' ⟨rfl, rfl⟩) | (go_at_call 88; refine (binary_no61 _ _ _).mono ?_; rintro e w' ⟨rfl, rfl⟩) | (go_at_call 92; go_in))
  go_ret
  exact ⟨rfl, rfl⟩
theorem does_62 (w : World) : Calls Tryd.prog 79 #[.int .i64 62] w fun e w' => e = .returned (.func (.func 119) #[] #[]) ∧ w = w' := by
  go_enter Tryd.func79, Tryd.ntmps79
  go_wp2_with (first | (go_at_call 86; refine (unary_no62 _ _).mono ?_; rintro e w' ⟨rfl, rfl⟩) | (go_at_call 88; refine (binary_no62 _ _ _).mono ?_; rintro e w' ⟨rfl, rfl⟩) | (go_at_call 92; go_in))
  go_ret
  exact ⟨rfl, rfl⟩
theorem does_63 (w : World) : Calls Tryd.prog 79 #[.int .i64 63] w fun e w' => e = .returned (.func (.func 120) #[] #[]) ∧ w = w' := by
  go_enter Tryd.func79, Tryd.ntmps79
  go_wp2_with (first | (go_at_call 86; refine (unary_no63 _ _).mono ?_; rintro e w' ⟨rfl, rfl⟩) | (go_at_call 88; refine (binary_no63 _ _ _).mono ?_; rintro e w' ⟨rfl, rfl⟩) | (go_at_call 92; go_in))
  go_ret
  exact ⟨rfl, rfl⟩
theorem does_9 (w : World) : Calls Tryd.prog 79 #[.int .i64 9] w fun e w' => e = .returned (.func (.func 90) #[] #[]) ∧ w = w' := by
  go_enter Tryd.func79, Tryd.ntmps79
  go_wp2_with (first | (go_at_call 86; refine (unary_no9 _ _).mono ?_; rintro e w' ⟨rfl, rfl⟩) | (go_at_call 88; refine (binary_no9 _ _ _).mono ?_; rintro e w' ⟨rfl, rfl⟩))
  go_ret
  exact ⟨rfl, rfl⟩
end Go.Proofs.YtdnalhjdmlkbmaaDoor
namespace Go.Proofs.YtdnalhjdmlkbmaaDoor
open Go.RowKit

set_option maxRecDepth 100000 in
theorem of_in (G : Nat → Nat) (k : Nat) (h1 : 1 ≤ k) (hk : k < 64) (w : World) (ht : Tabs w G) :
    Calls Tryd.prog 11 #[.int .i64 k] w fun e w' => e = .returned (.tuple #[primV k, .int .i64 0]) ∧ ∃ G', Adv (fun _ => False) w G w' G' := by
  have a1 : decide ((k : Int) < 1) = false := by simp; omega
  have a2 : decide (64 ≤ (k : Int)) = false := by simp; omega
  have HT := Lib.hid (ht.adv ((Adv.refl (fun _ => False) w G).alloc (.cells #[.int .i64 0, .string ⟨#[]⟩, .int .i64 0, .int .i64 0, .int .i64 0, .bool false] 25) 0) id)
  clear ht
  go_enter Tryd.func11, Tryd.ntmps11
  go_wp2_with fail
  refine (primOf_any _ k hk _ HT.out).mono ?_
  rintro e w' ⟨rfl, G', ha⟩
  have hc := (ha.keep w.heap.size (by simp) id).trans (heap_alloc_new w _)
  have c0 := block_cell hc 0 _ rfl
  have c1 := block_cell hc 1 _ rfl
  have c2 := block_cell hc 2 _ rfl
  have c3 := block_cell hc 3 _ rfl
  have c4 := block_cell hc 4 _ rfl
  have c5 := block_cell hc 5 _ rfl
  have f0 := block_free hc
  have HA := Lib.hid (((Adv.refl (fun _ => False) w G).alloc _ 0).trans ha)
  clear ha hc
  unfold primV
  go_wp2
  exact bodyPost_ret (v := .tuple #[primV k, .int .i64 0]) (by simp [results, Tryd.results11, go_sem, primV, c0, c1, c2, c3, c4, c5]) rfl
    ⟨rfl, _, (((((HA.out.setNew (Nat.le_refl _) _).setNew (Nat.le_refl _) _).setNew (Nat.le_refl _) _).setNew (Nat.le_refl _) _).setNew (Nat.le_refl _) _).setNew (Nat.le_refl _) _⟩
theorem of_out (G : Nat → Nat) (x : Int) (hx : x < 1 ∨ 64 ≤ x) (w : World) :
    Calls Tryd.prog 11 #[.int .i64 x] w fun e w' => e = .returned (.tuple #[primV0, .int .i64 60]) ∧ ∃ G', Adv (fun _ => False) w G w' G' := by
  by_cases h : x < 1
  · have a1 : decide (x < 1) = true := by simpa using h
    go_enter Tryd.func11, Tryd.ntmps11
    go_wp2
    exact bodyPost_ret (v := .tuple #[primV0, .int .i64 60]) (by simp [results, Tryd.results11, go_sem, primV0]) rfl ⟨rfl, _, (Adv.refl _ w G).alloc _ 0⟩
  · have a1 : decide (x < 1) = false := by simpa using h
    have a2 : decide (64 ≤ x) = true := by simp; omega
    go_enter Tryd.func11, Tryd.ntmps11
    go_wp2
    exact bodyPost_ret (v := .tuple #[primV0, .int .i64 60]) (by simp [results, Tryd.results11, go_sem, primV0]) rfl ⟨rfl, _, (Adv.refl _ w G).alloc _ 0⟩
/-- Plain's answer. -/
def plainB (x : Int) : Bool := x == 9 || (x == 6 || decide (12 ≤ x ∧ x < 64))
theorem ret_bool {a b : Bool} (h : a = b) : Ending.returned (.bool a) = .returned (.bool b) := by rw [h]
theorem plain_any (x : Int) (w : World) : Calls Tryd.prog 14 #[.int .i64 x] w fun e w' => e = .returned (.bool (plainB x)) ∧ w = w' := by
  by_cases h9 : x = 9
  · subst h9
    go_enter Tryd.func14, Tryd.ntmps14
    go_wp2
    go_ret
    exact ⟨rfl, rfl⟩
  · by_cases h6 : x = 6
    · subst h6
      go_enter Tryd.func14, Tryd.ntmps14
      go_wp2
      go_ret
      exact ⟨rfl, rfl⟩
    · have e9 : (x == 9) = false := by simpa using h9
      have e6 : (x == 6) = false := by simpa using h6
      by_cases hl : 12 ≤ x
      · have el : decide (12 ≤ x) = true := by simpa using hl
        by_cases hh : x < 64
        · have eh : decide (x < 64) = true := by simpa using hh
          have hf : plainB x = true := by simp [plainB, hl, hh]
          have HF := Lib.hid hf
          clear hf
          go_enter Tryd.func14, Tryd.ntmps14
          go_wp2
          go_ret
          exact ⟨ret_bool HF.out.symm, rfl⟩
        · have eh : decide (x < 64) = false := by simpa using hh
          have hf : plainB x = false := by simp [plainB, h9, h6, hh]
          have HF := Lib.hid hf
          clear hf
          go_enter Tryd.func14, Tryd.ntmps14
          go_wp2
          go_ret
          exact ⟨ret_bool HF.out.symm, rfl⟩
      · have el : decide (12 ≤ x) = false := by simpa using hl
        have hf : plainB x = false := by simp [plainB, h9, h6, hl]
        have HF := Lib.hid hf
        clear hf
        go_enter Tryd.func14, Tryd.ntmps14
        go_wp2
        go_ret
        exact ⟨ret_bool HF.out.symm, rfl⟩
end Go.Proofs.YtdnalhjdmlkbmaaDoor
namespace Go.Proofs.YtdnalhjdmlkbmaaDoor
open Go.RowKit

/-- An entry. -/
def entryV (k : Nat) (v : Value) : Value := .agg #[.int .i64 k, .string (nameB k), .int .i64 (takesN k), .int .i64 (leavesN k), .int .i64 (costsN k), .bool (operandB k), v]
/-- What holds of a closure's captured values stays, whatever others do. -/
def Keeps (Cl : World → (Nat → Nat) → Array Value → Prop) : Prop := ∀ (S : Nat → Prop) (w w' : World) (G G' : Nat → Nat) (c : Array Value), Cl w G c → Adv S w G w' G' → ¬ S 0 → Cl w' G' c
/-- What does hands back for a number. -/
def DoesIs (k f : Nat) (Cl : World → (Nat → Nat) → Array Value → Prop) : Prop :=
  ∀ (G : Nat → Nat) (w : World), Calls Tryd.prog 79 #[.int .i64 k] w fun e w' => ∃ c G', e = .returned (.func (.func f) #[] c) ∧ Adv (fun _ => False) w G w' G' ∧ Cl w' G' c
set_option maxRecDepth 100000 in
set_option maxHeartbeats 400000 in
theorem entry_any (G : Nat → Nat) (k : Nat) (hk : k < 64) (f : Nat) (Cl : World → (Nat → Nat) → Array Value → Prop)
    (hd : DoesIs k f Cl) (hcl : Keeps Cl) (w : World) (ht : Tabs w G) :
    Calls Tryd.prog 54 #[.int .i64 k] w fun e w' => ∃ c G', e = .returned (entryV k (.func (.func f) #[] c)) ∧ Adv (fun _ => False) w G w' G' ∧ Cl w' G' c := by
  have hA0 := (Adv.refl (fun _ => False) w G).alloc (.cells #[.int .i64 0, .string ⟨#[]⟩, .int .i64 0, .int .i64 0, .int .i64 0, .bool false, .nilFunc] 117) 1000
  have HT := Lib.hid (ht.adv hA0 id)
  have HA0 := Lib.hid hA0
  have HC := Lib.hid hcl
  clear ht hcl hA0
  go_enter Tryd.func54, Tryd.ntmps54
  go_wp2_with fail
  refine (primOf_any _ k hk _ HT.out).mono ?_
  rintro e w1 ⟨rfl, G1, ha1⟩
  have HA1 := Lib.hid ha1
  clear ha1
  go_wp2_with fail
  refine (hd G1 _).mono ?_
  rintro e w2 ⟨c, G2, rfl, ha2, hc2⟩
  have ha := HA1.out.trans ha2
  have hc := (ha.keep w.heap.size (by simp) id).trans (heap_alloc_new w _)
  have c0 := block_cell hc 0 _ rfl
  have c1 := block_cell hc 1 _ rfl
  have c2 := block_cell hc 2 _ rfl
  have c3 := block_cell hc 3 _ rfl
  have c4 := block_cell hc 4 _ rfl
  have c5 := block_cell hc 5 _ rfl
  have c6 := block_cell hc 6 _ rfl
  have f0 := block_free hc
  have hs := HA0.out.trans ha
  have HS := Lib.hid hs
  have HC2 := Lib.hid hc2
  have hG : G2 w.heap.size = 1000 := (ha.own _ (by simp)).trans (own1_new _ _ _)
  have HG := Lib.hid hG
  clear ha hc hs ha2 hc2 hG
  unfold primV
  go_wp2
  refine bodyPost_ret (v := entryV k (.func (.func f) #[] c)) (by simp [results, Tryd.results54, go_sem, entryV, c0, c1, c2, c3, c4, c5, c6]) rfl ⟨c, G2, rfl, ?_, ?_⟩
  · exact ((((((HS.out.setNew (Nat.le_refl _) _).setNew (Nat.le_refl _) _).setNew (Nat.le_refl _) _).setNew (Nat.le_refl _) _).setNew (Nat.le_refl _) _).setNew (Nat.le_refl _) _).setNew (Nat.le_refl _) _
  · refine HC.out (fun i => i = 1000) w2 _ G2 G2 c HC2.out ?_ (by omega)
    exact (((((((Adv.refl (fun i => i = 1000) w2 G2).setCell HG.out _).setCell HG.out _).setCell HG.out _).setCell HG.out _).setCell HG.out _).setCell HG.out _).setCell HG.out _

/-- How many cells a primitive puts on the return stack. -/
def addsF (k : Int) : Int := if k = 55 then 1 else if k = 6 then 2 else 0
theorem adds_any (k : Int) (w : World) : Calls Tryd.prog 57 #[.int .i64 k] w fun e w' => e = .returned (.int .i64 (addsF k)) ∧ w = w' := by
  by_cases h1 : k = 55
  · subst h1
    go_enter Tryd.func57, Tryd.ntmps57
    go_wp2
    go_ret
    exact ⟨rfl, rfl⟩
  · by_cases h2 : k = 6
    · subst h2
      go_enter Tryd.func57, Tryd.ntmps57
      go_wp2
      go_ret
      exact ⟨rfl, rfl⟩
    · have e1 : (k == 55) = false := by simpa using h1
      have e2 : (k == 6) = false := by simpa using h2
      have HF := Lib.hid (show addsF k = 0 by simp [addsF, h1, h2])
      clear h1 h2
      go_enter Tryd.func57, Tryd.ntmps57
      go_wp2
      go_ret
      exact ⟨ret_int HF.out.symm, rfl⟩
/-- The fault of what a primitive looks at on the return stack. -/
def looksF (k : Int) (l : List (Int × Int)) : Int := if k = 56 ∨ k = 57 then atE l 0 4 else if k = 58 then atE l 0 3 else if k = 59 then atE l 2 3 else 0
theorem looks_any (G : Nat → Nat) (i R : Nat) (l : List (Int × Int)) (k : Int) (w : World) (hp : PR w G i R l) (hm : l.length ≤ 100000) :
    Calls Tryd.prog 56 #[.int .i64 k, .pointer (some ⟨R, 0, none⟩)] w fun e w' => e = .returned (.int .i64 (looksF k l)) ∧ ∃ d, w' = w.drewN d := by
  have at1 : ∀ (n : Int) (kind : Int) (w' : World), w = w' → Calls Tryd.prog 80 #[.pointer (some ⟨R, 0, none⟩), .int .i64 n, .int .i64 kind] w' fun e w' => e = .returned (.tuple #[.int .u16 (atV l n kind), .int .i64 (atE l n kind)]) ∧ ∃ d, w' = w.drewN d := by
    rintro n kind w' rfl
    exact atPR G i R l n kind w hp hm
  have AT := Lib.hid at1
  clear at1
  by_cases h1 : k = 56
  · subst h1
    go_enter Tryd.func56, Tryd.ntmps56
    go_wp2_with (go_at_call 80; refine (AT.out 0 4 _ rfl).mono ?_; rintro e w' ⟨rfl, d, rfl⟩)
    go_ret
    exact ⟨rfl, d, rfl⟩
  · by_cases h2 : k = 57
    · subst h2
      go_enter Tryd.func56, Tryd.ntmps56
      go_wp2_with (go_at_call 80; refine (AT.out 0 4 _ rfl).mono ?_; rintro e w' ⟨rfl, d, rfl⟩)
      go_ret
      exact ⟨rfl, d, rfl⟩
    · by_cases h3 : k = 58
      · subst h3
        go_enter Tryd.func56, Tryd.ntmps56
        go_wp2_with (go_at_call 80; refine (AT.out 0 3 _ rfl).mono ?_; rintro e w' ⟨rfl, d, rfl⟩)
        go_ret
        exact ⟨rfl, d, rfl⟩
      · by_cases h4 : k = 59
        · subst h4
          go_enter Tryd.func56, Tryd.ntmps56
          go_wp2_with (go_at_call 80; refine (AT.out 2 3 _ rfl).mono ?_; rintro e w' ⟨rfl, d, rfl⟩)
          go_ret
          exact ⟨rfl, d, rfl⟩
        · have e1 : (k == 56) = false := by simpa using h1
          have e2 : (k == 57) = false := by simpa using h2
          have e3 : (k == 58) = false := by simpa using h3
          have e4 : (k == 59) = false := by simpa using h4
          have HF := Lib.hid (show looksF k l = 0 by simp [looksF, h1, h2, h3, h4])
          clear h1 h2 h3 h4
          go_enter Tryd.func56, Tryd.ntmps56
          go_wp2
          go_ret
          exact ⟨ret_int HF.out.symm, 0, rfl⟩
end Go.Proofs.YtdnalhjdmlkbmaaDoor
namespace Go.Proofs.YtdnalhjdmlkbmaaDoor
open Go.RowKit
set_option linter.unusedVariables false

set_option maxRecDepth 100000 in
set_option maxHeartbeats 1000000 in
/-- Do, where nothing is missing: what the primitive's function does on a desk is what Do does. -/
theorem do_ok (G : Nat → Nat) (k : Nat) (hk : k < 64) (hpl : plainB k = true) (f : Nat) (he : ∀ (args : Array Value) (w : World), (callFunc f args).run Tryd.prog w = .ok (.enter f args) w) (Cl : World → (Nat → Nat) → Array Value → Prop) (hd : DoesIs k f Cl) (hcl : Keeps Cl)
    (i j D R : Nat) (M : Addr) (l : List Int) (rl : List (Int × Int)) (_hi : i ≠ 0) (_hj : j ≠ 0) (S : Nat → Prop) (Post : World → (Nat → Nat) → Prop) (hl : l.length ≤ 256) (hrl : rl.length ≤ 128)
    (hneed : needF l.length (takesN k) (leavesN k) = 0) (hlooks : looksF k rl = 0) (hadds : (rl.length : Int) + addsF k ≤ 128) (w : World) (ht : Tabs w G) (hp : PU w G i D l) (hr : PR w G j R rl)
    (hf : ∀ (w1 : World) (G1 : Nat → Nat) (K : Nat) (c : Array Value), Adv (fun _ => False) w G w1 G1 → Cl w1 G1 c → Desk w1 G1 K D R (some M) →
      Calls Tryd.prog f (#[.pointer (some ⟨K, 0, none⟩)] ++ c) w1 fun e w' => e = .returned (.tuple #[]) ∧ ∃ G', Adv S w1 G1 w' G' ∧ Post w' G') :
    Calls Tryd.prog 21 #[.int .i64 k, .pointer (some ⟨D, 0, none⟩), .pointer (some ⟨R, 0, none⟩), .pointer (some M)] w fun e w' => e = .returned (.int .i64 0) ∧ ∃ G', Adv S w G w' G' ∧ Post w' G' := by
  have b1 := takes_le k hk
  have b2 := leaves_le k hk
  have HPL := Lib.hid hpl
  have HT := Lib.hid ht
  have HP := Lib.hid hp
  have HR := Lib.hid hr
  have HF := Lib.hid hf
  have HN := Lib.hid hneed
  have HL := Lib.hid hlooks
  have HAD := Lib.hid hadds
  have HCL := Lib.hid hcl
  clear ht hp hr hf hneed hlooks hadds hcl hpl
  go_enter Tryd.func21, Tryd.ntmps21
  go_wp2_with fail
  refine (plain_any k _).mono ?_
  rintro e w' ⟨rfl, rfl⟩
  rw [HPL.out]
  go_wp2_with fail
  refine (entry_any G k hk f Cl hd HCL.out _ HT.out).mono ?_
  rintro e w1 ⟨c, G1, rfl, ha1, hc1⟩
  unfold entryV
  have hA2 := ha1.alloc (.cells #[.int .i64 k, .string (nameB k), .int .i64 (takesN k), .int .i64 (leavesN k), .int .i64 (costsN k), .bool (operandB k), .func (.func f) #[] c] 117) 1000
  have HC2 := Lib.hid (HCL.out _ _ _ _ _ _ hc1 ((Adv.refl (fun _ => False) w1 G1).alloc (.cells #[.int .i64 k, .string (nameB k), .int .i64 (takesN k), .int .i64 (leavesN k), .int .i64 (costsN k), .bool (operandB k), .func (.func f) #[] c] 117) 1000) id)
  have HP2 := Lib.hid (HP.out.adv hA2 id)
  have HR2 := Lib.hid (HR.out.adv hA2 id)
  have HA2 := Lib.hid hA2
  clear ha1 hc1 hA2
  go_wp2_with fail
  refine (needPU _ i D l (takesN k) (leavesN k) _ HP2.out (by omega) (by omega) (by omega)).mono ?_
  rintro e w' ⟨rfl, rfl⟩
  rw [HN.out]
  go_wp2_with fail
  refine (looks_any _ j R rl k _ HR2.out (by omega)).mono ?_
  rintro e w' ⟨rfl, d, rfl⟩
  rw [HL.out]
  go_wp2_with fail
  refine (lenPR _ j R rl _ (HR2.out.drewN d)).mono ?_
  rintro e w' ⟨rfl, rfl⟩
  go_wp2_with fail
  refine (adds_any k _).mono ?_
  rintro e w' ⟨rfl, rfl⟩
  have hadd := HAD.out
  have hadd0 : 0 ≤ addsF k ∧ addsF k ≤ 2 := by unfold addsF; constructor <;> (repeat' split) <;> omega
  have hgt : decide (128 < (rl.length : Int) + addsF k) = false := by simp; omega
  go_wp2_with fail
  have hA3 := (HA2.out.drewN d).alloc (.cells #[.pointer (some ⟨D, 0, none⟩), .pointer (some ⟨R, 0, none⟩), .pointer (some M)] 123) 0
  have hC3 := HCL.out (fun _ => False) _ _ _ _ _ HC2.out (((Adv.refl (fun _ => False) _ _).drewN d).alloc (.cells #[.pointer (some ⟨D, 0, none⟩), .pointer (some ⟨R, 0, none⟩), .pointer (some M)] 123) 0) id
  refine (HF.out _ _ (w1.heap.size + 1) c hA3 hC3 ⟨heap_at _ _ _ (by simp), by simp [own1]⟩).mono ?_
  rintro e w2 ⟨rfl, G2, ha2, hpost⟩
  have HE := Lib.hid (And.intro (hA3.mono (T := S) (fun _ h => h.elim) |>.trans ha2) hpost)
  clear hA3 hC3 ha2 hpost
  go_wp2
  go_ret
  exact ⟨rfl, G2, HE.out.1, HE.out.2⟩
end Go.Proofs.YtdnalhjdmlkbmaaDoor
namespace Go.Proofs.YtdnalhjdmlkbmaaDoor
open Go.RowKit

set_option maxRecDepth 100000 in
set_option maxHeartbeats 1000000 in
theorem doDo_any (G : Nat → Nat) (i j D K R : Nat) (M : Option Addr) (base : List Int) (a b : Int) (rl : List (Int × Int)) (hi : i ≠ 0) (hj : j ≠ 0) (hij : i ≠ j) (hroom : rl.length + 2 ≤ 128)
    (w : World) (hp : PU w G i D (base ++ [a, b])) (hr : PR w G j R rl) (hk : Desk w G K D R M) :
    Calls Tryd.prog 106 #[.pointer (some ⟨K, 0, none⟩)] w fun e w' => e = .returned (.tuple #[]) ∧ ∃ G', Adv (fun o => o = i ∨ o = j) w G w' G' ∧ PU w' G' i D base ∧ PR w' G' j R (rl ++ [(2, a), (3, b)]) := by
  have HP := Lib.hid hp
  have HR := Lib.hid hr
  have HK := Lib.hid hk
  clear hp hr hk
  go_enter Tryd.func106, Tryd.ntmps106
  go_wp2_with fail
  refine (taken_any G i D K R M base [a, b] 2 rfl (by decide) (by decide) hi _ HP.out HK.out).mono ?_
  rintro e w1 ⟨B, G1, rfl, ha1, hp1, hrow⟩
  have HK1 := HK.out.adv ha1 (Ne.symm hi)
  have HR1 := Lib.hid (HR.out.adv ha1 (Ne.symm hij))
  have cR := HK1.r
  have c0 := (hrow.at (by decide)).2.2.2 0 _ rfl
  have c1 := (hrow.at (by decide)).2.2.2 1 _ rfl
  have gB := (hrow.at (by decide)).2.1
  have gK := HK1.2
  have hkk : ∀ (S : Nat → Prop) (w' : World) (G' : Nat → Nat), ¬ S 0 → Adv S w1 G1 w' G' → w'.cell? ⟨K, 1, none⟩ = some (.pointer (some ⟨R, 0, none⟩)) ∧ w'.cell? ⟨B, 0, none⟩ = some (.int .u16 a) ∧ w'.cell? ⟨B, 1, none⟩ = some (.int .u16 b) := fun S w' G' hs h =>
    ⟨h.cell_some (p := ⟨K, 1, none⟩) cR (by show ¬ S (G1 K); rw [gK]; exact hs), h.cell_some (p := ⟨B, 0, none⟩) c0 (by show ¬ S (G1 B); rw [gB]; exact hs), h.cell_some (p := ⟨B, 1, none⟩) c1 (by show ¬ S (G1 B); rw [gB]; exact hs)⟩
  have HKK := Lib.hid hkk
  have HA1 := Lib.hid ha1
  have HP1 := Lib.hid hp1
  clear ha1 hp1 HK1 hrow gB gK hkk
  go_upto_region 1 with fail
  go_region_held3 (fun w' => w'.cell? ⟨K, 1, none⟩ = some (.pointer (some ⟨R, 0, none⟩)) ∧ w'.cell? ⟨B, 0, none⟩ = some (.int .u16 a) ∧ w'.cell? ⟨B, 1, none⟩ = some (.int .u16 b)) (first | exact ⟨cR, c0, c1⟩ | exact HKK.out (fun _ => False) _ _ id ((Adv.refl _ w1 G1).alloc _ 0).drew | exact KR.out)
    ((go_at_call 76; refine (pushPR (own1 w1 G1 0) j R rl [(2, a), (3, b)] _ 2 2 _ (HR1.out.alloc _ 0).drew rfl hroom (Reads.new _ (cellsR [(2, a), (3, b)]) 59)).mono ?_; rintro e w2 ⟨rfl, G2, ha2, hr2⟩; have HA2 := Lib.hid (((Adv.refl (fun o => o = j) w1 G1).alloc _ 0).drew.trans ha2); have KR := Lib.hid (HKK.out (fun o => o = j) _ _ (Ne.symm hj) HA2.out); have HR2 := Lib.hid hr2; clear ha2 hr2))
  go_wp2_with fail
  go_end0
  exact ⟨rfl, G2, (HA1.out.mono fun _ h => .inl h).trans (HA2.out.mono fun _ h => .inr h), HP1.out.adv HA2.out hij, HR2.out⟩
set_option maxRecDepth 100000 in
set_option maxHeartbeats 1000000 in
theorem sees_any (G : Nat → Nat) (i j D K R : Nat) (M : Option Addr) (l : List Int) (rl : List (Int × Int)) (n kind : Int) (hroom : l.length + 1 ≤ 256) (hrl : rl.length ≤ 128)
    (w : World) (hp : PU w G i D l) (hr : PR w G j R rl) (hk : Desk w G K D R M) :
    Calls Tryd.prog 125 #[.pointer (some ⟨K, 0, none⟩), .int .i64 n, .int .i64 kind] w fun e w' => e = .returned (.tuple #[]) ∧ ∃ G', Adv (fun o => o = i) w G w' G' ∧ PU w' G' i D (l ++ [atV rl n kind]) := by
  have HP := Lib.hid hp
  have cR := hk.r
  have cD := hk.d
  have HR := Lib.hid hr
  clear hp hr
  go_enter Tryd.func125, Tryd.ntmps125
  go_wp2_with fail
  refine (atPR G j R rl n kind _ HR.out (by omega)).mono ?_
  rintro e w1 ⟨rfl, d, rfl⟩
  have HA := Lib.hid (((Adv.refl (fun o => o = i) w G).drewN d).alloc (.cells #[.int .u16 (atV rl n kind)] 41) 0)
  have HPd := Lib.hid ((HP.out.drewN d).alloc (.cells #[.int .u16 (atV rl n kind)] 41) 0)
  go_wp2_with fail
  refine (pushPU (own1 (w.drewN d) G 0) i D l [atV rl n kind] _ 1 1 _ HPd.out rfl hroom (Reads.new (w.drewN d) (cellsU [atV rl n kind]) 41)).mono ?_
  rintro e w2 ⟨rfl, G2, ha2, hp2⟩
  have HF := Lib.hid (And.intro (HA.out.trans ha2) hp2)
  clear ha2 hp2
  go_wp2_with fail
  go_end0
  exact ⟨rfl, G2, HF.out.1, HF.out.2⟩
theorem doIndex_any (G : Nat → Nat) (i j D K R : Nat) (M : Option Addr) (l : List Int) (rl : List (Int × Int)) (hroom : l.length + 1 ≤ 256) (hrl : rl.length ≤ 128)
    (w : World) (hp : PU w G i D l) (hr : PR w G j R rl) (hk : Desk w G K D R M) :
    Calls Tryd.prog 115 #[.pointer (some ⟨K, 0, none⟩)] w fun e w' => e = .returned (.tuple #[]) ∧ ∃ G', Adv (fun o => o = i) w G w' G' ∧ PU w' G' i D (l ++ [atV rl 0 3]) := by
  have HP := Lib.hid hp
  have HR := Lib.hid hr
  have HK := Lib.hid hk
  clear hp hr hk
  go_enter Tryd.func115, Tryd.ntmps115
  go_wp2_with fail
  refine (sees_any G i j D K R M l rl 0 3 hroom hrl _ HP.out HR.out HK.out).mono ?_
  rintro e w2 ⟨rfl, G2, ha2, hp2⟩
  have HF := Lib.hid (And.intro ha2 hp2)
  clear ha2 hp2
  go_wp2_with fail
  go_end0
  exact ⟨rfl, G2, HF.out.1, HF.out.2⟩
end Go.Proofs.YtdnalhjdmlkbmaaDoor
namespace Go.Proofs.YtdnalhjdmlkbmaaDoor
open Go.RowKit

theorem tup2 {a b : Int} (h : a = b) : Ending.returned (.tuple #[.int .u16 a, .bool true]) = .returned (.tuple #[.int .u16 b, .bool true]) := by rw [h]
theorem ret16 {a b : Int} (h : a = b) : Ending.returned (.int .u16 a) = .returned (.int .u16 b) := by rw [h]
theorem signed_any (x : Int) (w : World) (h0 : 0 ≤ x) (h1 : x < 65536) : Calls Tryd.prog 98 #[.int .u16 x] w fun e w' => e = .returned (.int .i64 (sgn x)) ∧ w = w' := by
  have hs := sgn_wrap x h0 h1
  have h2 := sgn_rng x h0 h1
  go_enter Tryd.func98, Tryd.ntmps98
  go_wp2
  go_ret
  exact ⟨rfl, rfl⟩
theorem flag_any (b : Bool) (w : World) : Calls Tryd.prog 99 #[.bool b] w fun e w' => e = .returned (.int .u16 (flagB b)) ∧ w = w' := by
  cases b
  · go_enter Tryd.func99, Tryd.ntmps99
    go_wp2
    go_ret
    exact ⟨rfl, rfl⟩
  · go_enter Tryd.func99, Tryd.ntmps99
    go_wp2
    go_ret
    exact ⟨rfl, rfl⟩
theorem cell16_any (n : Int) (w : World) : Calls Tryd.prog 97 #[.int .i64 n] w fun e w' => e = .returned (.int .u16 (n % 65536)) ∧ w = w' := by
  go_enter Tryd.func97, Tryd.ntmps97
  go_wp2
  go_ret
  exact ⟨ret16 (wrap_u16_mod n), rfl⟩
set_option maxHeartbeats 400000 in
theorem unary_28 (x : Int) (h0 : 0 ≤ x) (h1 : x < 65536) (w : World) : Calls Tryd.prog 86 #[.int .i64 28, .int .u16 x] w fun e w' => e = .returned (.tuple #[.int .u16 (unF 28 x), .bool true]) ∧ w = w' := by
  have hr := sgn_rng x h0 h1
  go_enter Tryd.func86, Tryd.ntmps86
  go_wp2_with (first | (go_at_call 98; refine (signed_any _ _ (by assumption) (by assumption)).mono ?_; rintro e w' ⟨rfl, rfl⟩) | (go_at_call 99; refine (flag_any _ _).mono ?_; rintro e w' ⟨rfl, rfl⟩) | (go_at_call 97; refine (cell16_any _ _).mono ?_; rintro e w' ⟨rfl, rfl⟩))
  all_goals
    go_ret2
    exact ⟨tup2 (by first | exact un_28 x h0 h1 | exact un_28 x h0 h1 (by assumption) | exact un_28' x h0 h1 (by omega) | exact un_28'' x h0 h1 (by omega)), rfl⟩
set_option maxHeartbeats 400000 in
theorem unary_29 (x : Int) (h0 : 0 ≤ x) (h1 : x < 65536) (w : World) : Calls Tryd.prog 86 #[.int .i64 29, .int .u16 x] w fun e w' => e = .returned (.tuple #[.int .u16 (unF 29 x), .bool true]) ∧ w = w' := by
  have hr := sgn_rng x h0 h1
  go_enter Tryd.func86, Tryd.ntmps86
  go_wp2_with (first | (go_at_call 98; refine (signed_any _ _ (by assumption) (by assumption)).mono ?_; rintro e w' ⟨rfl, rfl⟩) | (go_at_call 99; refine (flag_any _ _).mono ?_; rintro e w' ⟨rfl, rfl⟩) | (go_at_call 97; refine (cell16_any _ _).mono ?_; rintro e w' ⟨rfl, rfl⟩))
  all_goals
    go_ret2
    exact ⟨tup2 (by first | exact un_29 x h0 h1 | exact un_29 x h0 h1 (by assumption) | exact un_29' x h0 h1 (by omega) | exact un_29'' x h0 h1 (by omega)), rfl⟩
set_option maxHeartbeats 400000 in
theorem unary_32 (x : Int) (h0 : 0 ≤ x) (h1 : x < 65536) (w : World) : Calls Tryd.prog 86 #[.int .i64 32, .int .u16 x] w fun e w' => e = .returned (.tuple #[.int .u16 (unF 32 x), .bool true]) ∧ w = w' := by
  have hr := sgn_rng x h0 h1
  go_enter Tryd.func86, Tryd.ntmps86
  go_wp2_with (first | (go_at_call 98; refine (signed_any _ _ (by assumption) (by assumption)).mono ?_; rintro e w' ⟨rfl, rfl⟩) | (go_at_call 99; refine (flag_any _ _).mono ?_; rintro e w' ⟨rfl, rfl⟩) | (go_at_call 97; refine (cell16_any _ _).mono ?_; rintro e w' ⟨rfl, rfl⟩))
  all_goals
    go_ret2
    exact ⟨tup2 (by first | exact un_32 x h0 h1 | exact un_32 x h0 h1 (by assumption) | exact un_32' x h0 h1 (by omega) | exact un_32'' x h0 h1 (by omega)), rfl⟩
set_option maxHeartbeats 400000 in
theorem unary_33 (x : Int) (h0 : 0 ≤ x) (h1 : x < 65536) (w : World) : Calls Tryd.prog 86 #[.int .i64 33, .int .u16 x] w fun e w' => e = .returned (.tuple #[.int .u16 (unF 33 x), .bool true]) ∧ w = w' := by
  have hr := sgn_rng x h0 h1
  go_enter Tryd.func86, Tryd.ntmps86
  go_wp2_with (first | (go_at_call 98; refine (signed_any _ _ (by assumption) (by assumption)).mono ?_; rintro e w' ⟨rfl, rfl⟩) | (go_at_call 99; refine (flag_any _ _).mono ?_; rintro e w' ⟨rfl, rfl⟩) | (go_at_call 97; refine (cell16_any _ _).mono ?_; rintro e w' ⟨rfl, rfl⟩))
  all_goals
    go_ret2
    exact ⟨tup2 (by first | exact un_33 x h0 h1 | exact un_33 x h0 h1 (by assumption) | exact un_33' x h0 h1 (by omega) | exact un_33'' x h0 h1 (by omega)), rfl⟩
set_option maxHeartbeats 400000 in
theorem unary_34 (x : Int) (h0 : 0 ≤ x) (h1 : x < 65536) (w : World) : Calls Tryd.prog 86 #[.int .i64 34, .int .u16 x] w fun e w' => e = .returned (.tuple #[.int .u16 (unF 34 x), .bool true]) ∧ w = w' := by
  have hr := sgn_rng x h0 h1
  go_enter Tryd.func86, Tryd.ntmps86
  go_wp2_with (first | (go_at_call 98; refine (signed_any _ _ (by assumption) (by assumption)).mono ?_; rintro e w' ⟨rfl, rfl⟩) | (go_at_call 99; refine (flag_any _ _).mono ?_; rintro e w' ⟨rfl, rfl⟩) | (go_at_call 97; refine (cell16_any _ _).mono ?_; rintro e w' ⟨rfl, rfl⟩))
  all_goals
    go_ret2
    exact ⟨tup2 (by first | exact un_34 x h0 h1 | exact un_34 x h0 h1 (by assumption) | exact un_34' x h0 h1 (by omega) | exact un_34'' x h0 h1 (by omega)), rfl⟩
set_option maxHeartbeats 400000 in
theorem unary_35 (x : Int) (h0 : 0 ≤ x) (h1 : x < 65536) (w : World) : Calls Tryd.prog 86 #[.int .i64 35, .int .u16 x] w fun e w' => e = .returned (.tuple #[.int .u16 (unF 35 x), .bool true]) ∧ w = w' := by
  have hr := sgn_rng x h0 h1
  go_enter Tryd.func86, Tryd.ntmps86
  go_wp2_with (first | (go_at_call 98; refine (signed_any _ _ (by assumption) (by assumption)).mono ?_; rintro e w' ⟨rfl, rfl⟩) | (go_at_call 99; refine (flag_any _ _).mono ?_; rintro e w' ⟨rfl, rfl⟩) | (go_at_call 97; refine (cell16_any _ _).mono ?_; rintro e w' ⟨rfl, rfl⟩))
  all_goals
    go_ret2
    exact ⟨tup2 (by first | exact un_35 x h0 h1 | exact un_35 x h0 h1 (by assumption) | exact un_35' x h0 h1 (by omega) | exact un_35'' x h0 h1 (by omega)), rfl⟩
set_option maxHeartbeats 400000 in
theorem unary_39 (x : Int) (h0 : 0 ≤ x) (h1 : x < 65536) (w : World) : Calls Tryd.prog 86 #[.int .i64 39, .int .u16 x] w fun e w' => e = .returned (.tuple #[.int .u16 (unF 39 x), .bool true]) ∧ w = w' := by
  have hr := sgn_rng x h0 h1
  go_enter Tryd.func86, Tryd.ntmps86
  go_wp2_with (first | (go_at_call 98; refine (signed_any _ _ (by assumption) (by assumption)).mono ?_; rintro e w' ⟨rfl, rfl⟩) | (go_at_call 99; refine (flag_any _ _).mono ?_; rintro e w' ⟨rfl, rfl⟩) | (go_at_call 97; refine (cell16_any _ _).mono ?_; rintro e w' ⟨rfl, rfl⟩))
  all_goals
    go_ret2
    exact ⟨tup2 (by first | exact un_39 x h0 h1 | exact un_39 x h0 h1 (by assumption) | exact un_39' x h0 h1 (by omega) | exact un_39'' x h0 h1 (by omega)), rfl⟩
set_option maxHeartbeats 400000 in
theorem unary_48 (x : Int) (h0 : 0 ≤ x) (h1 : x < 65536) (w : World) : Calls Tryd.prog 86 #[.int .i64 48, .int .u16 x] w fun e w' => e = .returned (.tuple #[.int .u16 (unF 48 x), .bool true]) ∧ w = w' := by
  have hr := sgn_rng x h0 h1
  go_enter Tryd.func86, Tryd.ntmps86
  go_wp2_with (first | (go_at_call 98; refine (signed_any _ _ (by assumption) (by assumption)).mono ?_; rintro e w' ⟨rfl, rfl⟩) | (go_at_call 99; refine (flag_any _ _).mono ?_; rintro e w' ⟨rfl, rfl⟩) | (go_at_call 97; refine (cell16_any _ _).mono ?_; rintro e w' ⟨rfl, rfl⟩))
  all_goals
    go_ret2
    exact ⟨tup2 (by first | exact un_48 x h0 h1 | exact un_48 x h0 h1 (by assumption) | exact un_48' x h0 h1 (by omega) | exact un_48'' x h0 h1 (by omega)), rfl⟩
set_option maxHeartbeats 400000 in
theorem unary_49 (x : Int) (h0 : 0 ≤ x) (h1 : x < 65536) (w : World) : Calls Tryd.prog 86 #[.int .i64 49, .int .u16 x] w fun e w' => e = .returned (.tuple #[.int .u16 (unF 49 x), .bool true]) ∧ w = w' := by
  have hr := sgn_rng x h0 h1
  go_enter Tryd.func86, Tryd.ntmps86
  go_wp2_with (first | (go_at_call 98; refine (signed_any _ _ (by assumption) (by assumption)).mono ?_; rintro e w' ⟨rfl, rfl⟩) | (go_at_call 99; refine (flag_any _ _).mono ?_; rintro e w' ⟨rfl, rfl⟩) | (go_at_call 97; refine (cell16_any _ _).mono ?_; rintro e w' ⟨rfl, rfl⟩))
  all_goals
    go_ret2
    exact ⟨tup2 (by first | exact un_49 x h0 h1 | exact un_49 x h0 h1 (by assumption) | exact un_49' x h0 h1 (by omega) | exact un_49'' x h0 h1 (by omega)), rfl⟩
set_option maxHeartbeats 400000 in
theorem divided_24 (x y : Int) (h0 : 0 ≤ x) (h1 : x < 65536) (y0 : 0 ≤ y) (y1 : y < 65536) (w : World) : Calls Tryd.prog 101 #[.int .i64 24, .int .u16 x, .int .u16 y] w fun e w' => e = .returned (.int .u16 (binF 24 x y)) ∧ w = w' := by
  have hr := sgn_rng x h0 h1
  have hq := sgn_rng y y0 y1
  by_cases hy : y = 0
  · subst hy
    go_enter Tryd.func101, Tryd.ntmps101
    go_wp2
    go_ret
    exact ⟨ret16 (bin_24z x).symm, rfl⟩
  · have hyb : (y == 0) = false := by simpa using hy
    have hsb : ¬ sgn y = 0 := sgn_ne y y0 y1 hy
    have hyn : ¬ y = 0 := hy
    have HY := Lib.hid hy
    clear hy
    go_enter Tryd.func101, Tryd.ntmps101
    go_wp2_with (first | (go_at_call 98; refine (signed_any _ _ (by assumption) (by assumption)).mono ?_; rintro e w' ⟨rfl, rfl⟩) | (go_at_call 99; refine (flag_any _ _).mono ?_; rintro e w' ⟨rfl, rfl⟩) | (go_at_call 97; refine (cell16_any _ _).mono ?_; rintro e w' ⟨rfl, rfl⟩))
    go_ret
    exact ⟨ret16 (bin_24 x y h0 h1 y0 y1 HY.out), rfl⟩
set_option maxHeartbeats 400000 in
theorem divided_25 (x y : Int) (h0 : 0 ≤ x) (h1 : x < 65536) (y0 : 0 ≤ y) (y1 : y < 65536) (w : World) : Calls Tryd.prog 101 #[.int .i64 25, .int .u16 x, .int .u16 y] w fun e w' => e = .returned (.int .u16 (binF 25 x y)) ∧ w = w' := by
  have hr := sgn_rng x h0 h1
  have hq := sgn_rng y y0 y1
  by_cases hy : y = 0
  · subst hy
    go_enter Tryd.func101, Tryd.ntmps101
    go_wp2
    go_ret
    exact ⟨ret16 (bin_25z x).symm, rfl⟩
  · have hyb : (y == 0) = false := by simpa using hy
    have hsb : ¬ sgn y = 0 := sgn_ne y y0 y1 hy
    have hyn : ¬ y = 0 := hy
    have HY := Lib.hid hy
    clear hy
    go_enter Tryd.func101, Tryd.ntmps101
    go_wp2_with (first | (go_at_call 98; refine (signed_any _ _ (by assumption) (by assumption)).mono ?_; rintro e w' ⟨rfl, rfl⟩) | (go_at_call 99; refine (flag_any _ _).mono ?_; rintro e w' ⟨rfl, rfl⟩) | (go_at_call 97; refine (cell16_any _ _).mono ?_; rintro e w' ⟨rfl, rfl⟩))
    go_ret
    exact ⟨ret16 (bin_25 x y h0 h1 y0 y1 HY.out), rfl⟩
set_option maxHeartbeats 400000 in
theorem divided_26 (x y : Int) (h0 : 0 ≤ x) (h1 : x < 65536) (y0 : 0 ≤ y) (y1 : y < 65536) (w : World) : Calls Tryd.prog 101 #[.int .i64 26, .int .u16 x, .int .u16 y] w fun e w' => e = .returned (.int .u16 (binF 26 x y)) ∧ w = w' := by
  have hr := sgn_rng x h0 h1
  have hq := sgn_rng y y0 y1
  by_cases hy : y = 0
  · subst hy
    go_enter Tryd.func101, Tryd.ntmps101
    go_wp2
    go_ret
    exact ⟨ret16 (bin_26z x).symm, rfl⟩
  · have hyb : (y == 0) = false := by simpa using hy
    have hsb : ¬ sgn y = 0 := sgn_ne y y0 y1 hy
    have hyn : ¬ y = 0 := hy
    have HY := Lib.hid hy
    clear hy
    go_enter Tryd.func101, Tryd.ntmps101
    go_wp2_with (first | (go_at_call 98; refine (signed_any _ _ (by assumption) (by assumption)).mono ?_; rintro e w' ⟨rfl, rfl⟩) | (go_at_call 99; refine (flag_any _ _).mono ?_; rintro e w' ⟨rfl, rfl⟩) | (go_at_call 97; refine (cell16_any _ _).mono ?_; rintro e w' ⟨rfl, rfl⟩))
    go_ret
    exact ⟨ret16 (bin_26 x y h0 h1 y0 y1 HY.out), rfl⟩
set_option maxHeartbeats 400000 in
theorem divided_27 (x y : Int) (h0 : 0 ≤ x) (h1 : x < 65536) (y0 : 0 ≤ y) (y1 : y < 65536) (w : World) : Calls Tryd.prog 101 #[.int .i64 27, .int .u16 x, .int .u16 y] w fun e w' => e = .returned (.int .u16 (binF 27 x y)) ∧ w = w' := by
  have hr := sgn_rng x h0 h1
  have hq := sgn_rng y y0 y1
  by_cases hy : y = 0
  · subst hy
    go_enter Tryd.func101, Tryd.ntmps101
    go_wp2
    go_ret
    exact ⟨ret16 (bin_27z x).symm, rfl⟩
  · have hyb : (y == 0) = false := by simpa using hy
    have hsb : ¬ sgn y = 0 := sgn_ne y y0 y1 hy
    have hyn : ¬ y = 0 := hy
    have HY := Lib.hid hy
    clear hy
    go_enter Tryd.func101, Tryd.ntmps101
    go_wp2_with (first | (go_at_call 98; refine (signed_any _ _ (by assumption) (by assumption)).mono ?_; rintro e w' ⟨rfl, rfl⟩) | (go_at_call 99; refine (flag_any _ _).mono ?_; rintro e w' ⟨rfl, rfl⟩) | (go_at_call 97; refine (cell16_any _ _).mono ?_; rintro e w' ⟨rfl, rfl⟩))
    go_ret
    exact ⟨ret16 (bin_27 x y h0 h1 y0 y1 HY.out), rfl⟩
set_option maxHeartbeats 400000 in
theorem compared_30 (x y : Int) (h0 : 0 ≤ x) (h1 : x < 65536) (y0 : 0 ≤ y) (y1 : y < 65536) (w : World) : Calls Tryd.prog 102 #[.int .i64 30, .int .u16 x, .int .u16 y] w fun e w' => e = .returned (.tuple #[.int .u16 (binF 30 x y), .bool true]) ∧ w = w' := by
  have hr := sgn_rng x h0 h1
  have hq := sgn_rng y y0 y1
  go_enter Tryd.func102, Tryd.ntmps102
  go_wp2_with (first | (go_at_call 98; refine (signed_any _ _ (by assumption) (by assumption)).mono ?_; rintro e w' ⟨rfl, rfl⟩) | (go_at_call 99; refine (flag_any _ _).mono ?_; rintro e w' ⟨rfl, rfl⟩))
  all_goals
    go_ret2
    exact ⟨tup2 (by first | exact bin_30 x y | exact bin_30 x y (by assumption) | exact bin_30' x y (by omega)), rfl⟩
set_option maxHeartbeats 400000 in
theorem compared_31 (x y : Int) (h0 : 0 ≤ x) (h1 : x < 65536) (y0 : 0 ≤ y) (y1 : y < 65536) (w : World) : Calls Tryd.prog 102 #[.int .i64 31, .int .u16 x, .int .u16 y] w fun e w' => e = .returned (.tuple #[.int .u16 (binF 31 x y), .bool true]) ∧ w = w' := by
  have hr := sgn_rng x h0 h1
  have hq := sgn_rng y y0 y1
  go_enter Tryd.func102, Tryd.ntmps102
  go_wp2_with (first | (go_at_call 98; refine (signed_any _ _ (by assumption) (by assumption)).mono ?_; rintro e w' ⟨rfl, rfl⟩) | (go_at_call 99; refine (flag_any _ _).mono ?_; rintro e w' ⟨rfl, rfl⟩))
  all_goals
    go_ret2
    exact ⟨tup2 (by first | exact bin_31 x y | exact bin_31 x y (by assumption) | exact bin_31' x y (by omega)), rfl⟩
set_option maxHeartbeats 400000 in
theorem compared_42 (x y : Int) (h0 : 0 ≤ x) (h1 : x < 65536) (y0 : 0 ≤ y) (y1 : y < 65536) (w : World) : Calls Tryd.prog 102 #[.int .i64 42, .int .u16 x, .int .u16 y] w fun e w' => e = .returned (.tuple #[.int .u16 (binF 42 x y), .bool true]) ∧ w = w' := by
  have hr := sgn_rng x h0 h1
  have hq := sgn_rng y y0 y1
  go_enter Tryd.func102, Tryd.ntmps102
  go_wp2_with (first | (go_at_call 98; refine (signed_any _ _ (by assumption) (by assumption)).mono ?_; rintro e w' ⟨rfl, rfl⟩) | (go_at_call 99; refine (flag_any _ _).mono ?_; rintro e w' ⟨rfl, rfl⟩))
  all_goals
    go_ret2
    exact ⟨tup2 (by first | exact bin_42 x y | exact bin_42 x y (by assumption) | exact bin_42' x y (by omega)), rfl⟩
set_option maxHeartbeats 400000 in
theorem compared_43 (x y : Int) (h0 : 0 ≤ x) (h1 : x < 65536) (y0 : 0 ≤ y) (y1 : y < 65536) (w : World) : Calls Tryd.prog 102 #[.int .i64 43, .int .u16 x, .int .u16 y] w fun e w' => e = .returned (.tuple #[.int .u16 (binF 43 x y), .bool true]) ∧ w = w' := by
  have hr := sgn_rng x h0 h1
  have hq := sgn_rng y y0 y1
  go_enter Tryd.func102, Tryd.ntmps102
  go_wp2_with (first | (go_at_call 98; refine (signed_any _ _ (by assumption) (by assumption)).mono ?_; rintro e w' ⟨rfl, rfl⟩) | (go_at_call 99; refine (flag_any _ _).mono ?_; rintro e w' ⟨rfl, rfl⟩))
  all_goals
    go_ret2
    exact ⟨tup2 (by first | exact bin_43 x y | exact bin_43 x y (by assumption) | exact bin_43' x y (by omega)), rfl⟩
set_option maxHeartbeats 400000 in
theorem compared_44 (x y : Int) (h0 : 0 ≤ x) (h1 : x < 65536) (y0 : 0 ≤ y) (y1 : y < 65536) (w : World) : Calls Tryd.prog 102 #[.int .i64 44, .int .u16 x, .int .u16 y] w fun e w' => e = .returned (.tuple #[.int .u16 (binF 44 x y), .bool true]) ∧ w = w' := by
  have hr := sgn_rng x h0 h1
  have hq := sgn_rng y y0 y1
  go_enter Tryd.func102, Tryd.ntmps102
  go_wp2_with (first | (go_at_call 98; refine (signed_any _ _ (by assumption) (by assumption)).mono ?_; rintro e w' ⟨rfl, rfl⟩) | (go_at_call 99; refine (flag_any _ _).mono ?_; rintro e w' ⟨rfl, rfl⟩))
  all_goals
    go_ret2
    exact ⟨tup2 (by first | exact bin_44 x y | exact bin_44 x y (by assumption) | exact bin_44' x y (by omega)), rfl⟩
set_option maxHeartbeats 400000 in
theorem compared_45 (x y : Int) (h0 : 0 ≤ x) (h1 : x < 65536) (y0 : 0 ≤ y) (y1 : y < 65536) (w : World) : Calls Tryd.prog 102 #[.int .i64 45, .int .u16 x, .int .u16 y] w fun e w' => e = .returned (.tuple #[.int .u16 (binF 45 x y), .bool true]) ∧ w = w' := by
  have hr := sgn_rng x h0 h1
  have hq := sgn_rng y y0 y1
  go_enter Tryd.func102, Tryd.ntmps102
  go_wp2_with (first | (go_at_call 98; refine (signed_any _ _ (by assumption) (by assumption)).mono ?_; rintro e w' ⟨rfl, rfl⟩) | (go_at_call 99; refine (flag_any _ _).mono ?_; rintro e w' ⟨rfl, rfl⟩))
  all_goals
    go_ret2
    exact ⟨tup2 (by first | exact bin_45 x y | exact bin_45 x y (by assumption) | exact bin_45' x y (by omega)), rfl⟩
set_option maxHeartbeats 400000 in
theorem compared_46 (x y : Int) (h0 : 0 ≤ x) (h1 : x < 65536) (y0 : 0 ≤ y) (y1 : y < 65536) (w : World) : Calls Tryd.prog 102 #[.int .i64 46, .int .u16 x, .int .u16 y] w fun e w' => e = .returned (.tuple #[.int .u16 (binF 46 x y), .bool true]) ∧ w = w' := by
  have hr := sgn_rng x h0 h1
  have hq := sgn_rng y y0 y1
  go_enter Tryd.func102, Tryd.ntmps102
  go_wp2_with (first | (go_at_call 98; refine (signed_any _ _ (by assumption) (by assumption)).mono ?_; rintro e w' ⟨rfl, rfl⟩) | (go_at_call 99; refine (flag_any _ _).mono ?_; rintro e w' ⟨rfl, rfl⟩))
  all_goals
    go_ret2
    exact ⟨tup2 (by first | exact bin_46 x y | exact bin_46 x y (by assumption) | exact bin_46' x y (by omega)), rfl⟩
set_option maxHeartbeats 400000 in
theorem compared_47 (x y : Int) (h0 : 0 ≤ x) (h1 : x < 65536) (y0 : 0 ≤ y) (y1 : y < 65536) (w : World) : Calls Tryd.prog 102 #[.int .i64 47, .int .u16 x, .int .u16 y] w fun e w' => e = .returned (.tuple #[.int .u16 (binF 47 x y), .bool true]) ∧ w = w' := by
  have hr := sgn_rng x h0 h1
  have hq := sgn_rng y y0 y1
  go_enter Tryd.func102, Tryd.ntmps102
  go_wp2_with (first | (go_at_call 98; refine (signed_any _ _ (by assumption) (by assumption)).mono ?_; rintro e w' ⟨rfl, rfl⟩) | (go_at_call 99; refine (flag_any _ _).mono ?_; rintro e w' ⟨rfl, rfl⟩))
  all_goals
    go_ret2
    exact ⟨tup2 (by first | exact bin_47 x y | exact bin_47 x y (by assumption) | exact bin_47' x y (by omega)), rfl⟩
set_option maxHeartbeats 400000 in
theorem binary_21 (x y : Int) (h0 : 0 ≤ x) (h1 : x < 65536) (y0 : 0 ≤ y) (y1 : y < 65536) (w : World) : Calls Tryd.prog 88 #[.int .i64 21, .int .u16 x, .int .u16 y] w fun e w' => e = .returned (.tuple #[.int .u16 (binF 21 x y), .bool true]) ∧ w = w' := by
  go_enter Tryd.func88, Tryd.ntmps88
  go_wp2
  go_ret2
  exact ⟨tup2 (bin_21 x y h0 h1 y0 y1), rfl⟩
set_option maxHeartbeats 400000 in
theorem binary_22 (x y : Int) (h0 : 0 ≤ x) (h1 : x < 65536) (y0 : 0 ≤ y) (y1 : y < 65536) (w : World) : Calls Tryd.prog 88 #[.int .i64 22, .int .u16 x, .int .u16 y] w fun e w' => e = .returned (.tuple #[.int .u16 (binF 22 x y), .bool true]) ∧ w = w' := by
  go_enter Tryd.func88, Tryd.ntmps88
  go_wp2
  go_ret2
  exact ⟨tup2 (bin_22 x y h0 h1 y0 y1), rfl⟩
set_option maxHeartbeats 400000 in
theorem binary_23 (x y : Int) (h0 : 0 ≤ x) (h1 : x < 65536) (y0 : 0 ≤ y) (y1 : y < 65536) (w : World) : Calls Tryd.prog 88 #[.int .i64 23, .int .u16 x, .int .u16 y] w fun e w' => e = .returned (.tuple #[.int .u16 (binF 23 x y), .bool true]) ∧ w = w' := by
  go_enter Tryd.func88, Tryd.ntmps88
  go_wp2
  go_ret2
  exact ⟨tup2 (bin_23 x y h0 h1 y0 y1), rfl⟩
set_option maxHeartbeats 400000 in
theorem binary_24 (x y : Int) (h0 : 0 ≤ x) (h1 : x < 65536) (y0 : 0 ≤ y) (y1 : y < 65536) (w : World) : Calls Tryd.prog 88 #[.int .i64 24, .int .u16 x, .int .u16 y] w fun e w' => e = .returned (.tuple #[.int .u16 (binF 24 x y), .bool true]) ∧ w = w' := by
  go_enter Tryd.func88, Tryd.ntmps88
  go_wp2_with (first | (go_at_call 101; refine (divided_24 _ _ (by assumption) (by assumption) (by assumption) (by assumption) _).mono ?_; rintro e w' ⟨rfl, rfl⟩))
  go_ret2
  exact ⟨rfl, rfl⟩
set_option maxHeartbeats 400000 in
theorem binary_25 (x y : Int) (h0 : 0 ≤ x) (h1 : x < 65536) (y0 : 0 ≤ y) (y1 : y < 65536) (w : World) : Calls Tryd.prog 88 #[.int .i64 25, .int .u16 x, .int .u16 y] w fun e w' => e = .returned (.tuple #[.int .u16 (binF 25 x y), .bool true]) ∧ w = w' := by
  go_enter Tryd.func88, Tryd.ntmps88
  go_wp2_with (first | (go_at_call 101; refine (divided_25 _ _ (by assumption) (by assumption) (by assumption) (by assumption) _).mono ?_; rintro e w' ⟨rfl, rfl⟩))
  go_ret2
  exact ⟨rfl, rfl⟩
set_option maxHeartbeats 400000 in
theorem binary_26 (x y : Int) (h0 : 0 ≤ x) (h1 : x < 65536) (y0 : 0 ≤ y) (y1 : y < 65536) (w : World) : Calls Tryd.prog 88 #[.int .i64 26, .int .u16 x, .int .u16 y] w fun e w' => e = .returned (.tuple #[.int .u16 (binF 26 x y), .bool true]) ∧ w = w' := by
  go_enter Tryd.func88, Tryd.ntmps88
  go_wp2_with (first | (go_at_call 101; refine (divided_26 _ _ (by assumption) (by assumption) (by assumption) (by assumption) _).mono ?_; rintro e w' ⟨rfl, rfl⟩))
  go_ret2
  exact ⟨rfl, rfl⟩
set_option maxHeartbeats 400000 in
theorem binary_27 (x y : Int) (h0 : 0 ≤ x) (h1 : x < 65536) (y0 : 0 ≤ y) (y1 : y < 65536) (w : World) : Calls Tryd.prog 88 #[.int .i64 27, .int .u16 x, .int .u16 y] w fun e w' => e = .returned (.tuple #[.int .u16 (binF 27 x y), .bool true]) ∧ w = w' := by
  go_enter Tryd.func88, Tryd.ntmps88
  go_wp2_with (first | (go_at_call 101; refine (divided_27 _ _ (by assumption) (by assumption) (by assumption) (by assumption) _).mono ?_; rintro e w' ⟨rfl, rfl⟩))
  go_ret2
  exact ⟨rfl, rfl⟩
set_option maxHeartbeats 400000 in
theorem binary_30 (x y : Int) (h0 : 0 ≤ x) (h1 : x < 65536) (y0 : 0 ≤ y) (y1 : y < 65536) (w : World) : Calls Tryd.prog 88 #[.int .i64 30, .int .u16 x, .int .u16 y] w fun e w' => e = .returned (.tuple #[.int .u16 (binF 30 x y), .bool true]) ∧ w = w' := by
  go_enter Tryd.func88, Tryd.ntmps88
  go_wp2_with (first | (go_at_call 102; refine (compared_30 _ _ (by assumption) (by assumption) (by assumption) (by assumption) _).mono ?_; rintro e w' ⟨rfl, rfl⟩))
  go_ret2
  exact ⟨rfl, rfl⟩
set_option maxHeartbeats 400000 in
theorem binary_31 (x y : Int) (h0 : 0 ≤ x) (h1 : x < 65536) (y0 : 0 ≤ y) (y1 : y < 65536) (w : World) : Calls Tryd.prog 88 #[.int .i64 31, .int .u16 x, .int .u16 y] w fun e w' => e = .returned (.tuple #[.int .u16 (binF 31 x y), .bool true]) ∧ w = w' := by
  go_enter Tryd.func88, Tryd.ntmps88
  go_wp2_with (first | (go_at_call 102; refine (compared_31 _ _ (by assumption) (by assumption) (by assumption) (by assumption) _).mono ?_; rintro e w' ⟨rfl, rfl⟩))
  go_ret2
  exact ⟨rfl, rfl⟩
set_option maxHeartbeats 400000 in
theorem binary_36 (x y : Int) (h0 : 0 ≤ x) (h1 : x < 65536) (y0 : 0 ≤ y) (y1 : y < 65536) (w : World) : Calls Tryd.prog 88 #[.int .i64 36, .int .u16 x, .int .u16 y] w fun e w' => e = .returned (.tuple #[.int .u16 (binF 36 x y), .bool true]) ∧ w = w' := by
  go_enter Tryd.func88, Tryd.ntmps88
  go_wp2
  go_ret2
  exact ⟨tup2 (bin_36 x y h0 h1 y0 y1), rfl⟩
set_option maxHeartbeats 400000 in
theorem binary_37 (x y : Int) (h0 : 0 ≤ x) (h1 : x < 65536) (y0 : 0 ≤ y) (y1 : y < 65536) (w : World) : Calls Tryd.prog 88 #[.int .i64 37, .int .u16 x, .int .u16 y] w fun e w' => e = .returned (.tuple #[.int .u16 (binF 37 x y), .bool true]) ∧ w = w' := by
  go_enter Tryd.func88, Tryd.ntmps88
  go_wp2
  go_ret2
  exact ⟨tup2 (bin_37 x y h0 h1 y0 y1), rfl⟩
set_option maxHeartbeats 400000 in
theorem binary_38 (x y : Int) (h0 : 0 ≤ x) (h1 : x < 65536) (y0 : 0 ≤ y) (y1 : y < 65536) (w : World) : Calls Tryd.prog 88 #[.int .i64 38, .int .u16 x, .int .u16 y] w fun e w' => e = .returned (.tuple #[.int .u16 (binF 38 x y), .bool true]) ∧ w = w' := by
  go_enter Tryd.func88, Tryd.ntmps88
  go_wp2
  go_ret2
  exact ⟨tup2 (bin_38 x y h0 h1 y0 y1), rfl⟩
set_option maxHeartbeats 400000 in
theorem binary_40 (x y : Int) (h0 : 0 ≤ x) (h1 : x < 65536) (y0 : 0 ≤ y) (y1 : y < 65536) (w : World) : Calls Tryd.prog 88 #[.int .i64 40, .int .u16 x, .int .u16 y] w fun e w' => e = .returned (.tuple #[.int .u16 (binF 40 x y), .bool true]) ∧ w = w' := by
  go_enter Tryd.func88, Tryd.ntmps88
  go_wp2
  go_ret2
  exact ⟨tup2 (bin_40 x y h0 h1 y0 y1), rfl⟩
set_option maxHeartbeats 400000 in
theorem binary_41 (x y : Int) (h0 : 0 ≤ x) (h1 : x < 65536) (y0 : 0 ≤ y) (y1 : y < 65536) (w : World) : Calls Tryd.prog 88 #[.int .i64 41, .int .u16 x, .int .u16 y] w fun e w' => e = .returned (.tuple #[.int .u16 (binF 41 x y), .bool true]) ∧ w = w' := by
  go_enter Tryd.func88, Tryd.ntmps88
  go_wp2
  go_ret2
  exact ⟨tup2 (bin_41 x y h0 h1 y0 y1), rfl⟩
set_option maxHeartbeats 400000 in
theorem binary_42 (x y : Int) (h0 : 0 ≤ x) (h1 : x < 65536) (y0 : 0 ≤ y) (y1 : y < 65536) (w : World) : Calls Tryd.prog 88 #[.int .i64 42, .int .u16 x, .int .u16 y] w fun e w' => e = .returned (.tuple #[.int .u16 (binF 42 x y), .bool true]) ∧ w = w' := by
  go_enter Tryd.func88, Tryd.ntmps88
  go_wp2_with (first | (go_at_call 102; refine (compared_42 _ _ (by assumption) (by assumption) (by assumption) (by assumption) _).mono ?_; rintro e w' ⟨rfl, rfl⟩))
  go_ret2
  exact ⟨rfl, rfl⟩
set_option maxHeartbeats 400000 in
theorem binary_43 (x y : Int) (h0 : 0 ≤ x) (h1 : x < 65536) (y0 : 0 ≤ y) (y1 : y < 65536) (w : World) : Calls Tryd.prog 88 #[.int .i64 43, .int .u16 x, .int .u16 y] w fun e w' => e = .returned (.tuple #[.int .u16 (binF 43 x y), .bool true]) ∧ w = w' := by
  go_enter Tryd.func88, Tryd.ntmps88
  go_wp2_with (first | (go_at_call 102; refine (compared_43 _ _ (by assumption) (by assumption) (by assumption) (by assumption) _).mono ?_; rintro e w' ⟨rfl, rfl⟩))
  go_ret2
  exact ⟨rfl, rfl⟩
set_option maxHeartbeats 400000 in
theorem binary_44 (x y : Int) (h0 : 0 ≤ x) (h1 : x < 65536) (y0 : 0 ≤ y) (y1 : y < 65536) (w : World) : Calls Tryd.prog 88 #[.int .i64 44, .int .u16 x, .int .u16 y] w fun e w' => e = .returned (.tuple #[.int .u16 (binF 44 x y), .bool true]) ∧ w = w' := by
  go_enter Tryd.func88, Tryd.ntmps88
  go_wp2_with (first | (go_at_call 102; refine (compared_44 _ _ (by assumption) (by assumption) (by assumption) (by assumption) _).mono ?_; rintro e w' ⟨rfl, rfl⟩))
  go_ret2
  exact ⟨rfl, rfl⟩
set_option maxHeartbeats 400000 in
theorem binary_45 (x y : Int) (h0 : 0 ≤ x) (h1 : x < 65536) (y0 : 0 ≤ y) (y1 : y < 65536) (w : World) : Calls Tryd.prog 88 #[.int .i64 45, .int .u16 x, .int .u16 y] w fun e w' => e = .returned (.tuple #[.int .u16 (binF 45 x y), .bool true]) ∧ w = w' := by
  go_enter Tryd.func88, Tryd.ntmps88
  go_wp2_with (first | (go_at_call 102; refine (compared_45 _ _ (by assumption) (by assumption) (by assumption) (by assumption) _).mono ?_; rintro e w' ⟨rfl, rfl⟩))
  go_ret2
  exact ⟨rfl, rfl⟩
set_option maxHeartbeats 400000 in
theorem binary_46 (x y : Int) (h0 : 0 ≤ x) (h1 : x < 65536) (y0 : 0 ≤ y) (y1 : y < 65536) (w : World) : Calls Tryd.prog 88 #[.int .i64 46, .int .u16 x, .int .u16 y] w fun e w' => e = .returned (.tuple #[.int .u16 (binF 46 x y), .bool true]) ∧ w = w' := by
  go_enter Tryd.func88, Tryd.ntmps88
  go_wp2_with (first | (go_at_call 102; refine (compared_46 _ _ (by assumption) (by assumption) (by assumption) (by assumption) _).mono ?_; rintro e w' ⟨rfl, rfl⟩))
  go_ret2
  exact ⟨rfl, rfl⟩
set_option maxHeartbeats 400000 in
theorem binary_47 (x y : Int) (h0 : 0 ≤ x) (h1 : x < 65536) (y0 : 0 ≤ y) (y1 : y < 65536) (w : World) : Calls Tryd.prog 88 #[.int .i64 47, .int .u16 x, .int .u16 y] w fun e w' => e = .returned (.tuple #[.int .u16 (binF 47 x y), .bool true]) ∧ w = w' := by
  go_enter Tryd.func88, Tryd.ntmps88
  go_wp2_with (first | (go_at_call 102; refine (compared_47 _ _ (by assumption) (by assumption) (by assumption) (by assumption) _).mono ?_; rintro e w' ⟨rfl, rfl⟩))
  go_ret2
  exact ⟨rfl, rfl⟩
end Go.Proofs.YtdnalhjdmlkbmaaDoor
namespace Go.Proofs.YtdnalhjdmlkbmaaDoor
open Go.RowKit

theorem Tryd.stood59 : Tryd.prog.stoodInHeld 59 = false := by kernel_rfl
theorem eql43 (a b c d : Int) (w : World) : (Op.equalIn 10000 59 (.agg #[.int .i64 a, .int .u16 b]) (.agg #[.int .i64 c, .int .u16 d])).run Tryd.prog w = .ok (a == c && b == d) w := by
  have ht : Tryd.prog.underlying 59 = some (.struct (Tryd.prog.fieldsOf 59)) := by simp only [Program.fieldsOf, Tryd.underlying59]
  rw [show (10000 : Nat) = 9998 + 1 + 1 from rfl, run_equalIn_struct w (9998 + 1) 59 _ _ ht Tryd.stood59]
  simp only [Program.fieldsOf, Tryd.underlying59]
  by_cases e : a = c
  · by_cases e2 : b = d
    · simp [Op.eqFields, go_sem, e, e2]
    · have e2' : (b == d) = false := by simpa using e2
      simp [Op.eqFields, go_sem, e, e2']
  · have e' : (a == c) = false := by simpa using e
    simp [Op.eqFields, go_sem, e']
theorem take_ext {α : Type} {l m : List α} {k : Nat} (h : l.take k = m.take k) {x y : α} (hx : l[k]? = some x) (hy : m[k]? = some y) (e : x = y) : l.take (k + 1) = m.take (k + 1) := by
  rw [List.take_add_one, List.take_add_one, h, hx, hy, e]

set_option maxHeartbeats 400000 in
theorem sameR_any (a b : Option Addr) (n c m d : Nat) (l k : List (Int × Int)) (w : World) (hl : l.length = n) (hk : k.length = m) (hn : n ≤ 9223372036854775807) (hm : m ≤ 9223372036854775807) (ha : Reads w a (cellsR l)) (hb : Reads w b (cellsR k)) :
    Calls Tryd.prog 25 #[.slice a n c, .slice b m d] w fun e w' => e = .returned (.bool (decide (l = k))) ∧ ∃ q, w' = w.drewN q := by
  have HL := Lib.hid hl
  have HK := Lib.hid hk
  have HA := Lib.hid ha
  have HB := Lib.hid hb
  clear hl hk ha hb
  by_cases hnm : n = m
  · subst hnm
    go_enter Tryd.func25, Tryd.ntmps25
    go_wp2
    go_loopw [5] (fun s5 wr => ∃ j : Nat, j ≤ n ∧ s5 = .int .i64 j ∧ l.take j = k.take j ∧ ∃ q, wr = w.drewN q) (fun s5 _ => n - (intOf s5).toNat)
    case atStart => exact ⟨0, by omega, rfl, rfl, 0, rfl⟩
    case round =>
      obtain ⟨j, hj, rfl, htk, q, rfl⟩ := hrel
      have HT := Lib.hid htk
      clear htk
      by_cases hlt : j < n
      · obtain ⟨x, hx⟩ : ∃ x, l[j]? = some x := ⟨l[j]'(by rw [HL.out]; omega), by simp⟩
        obtain ⟨y, hy⟩ : ∃ y, k[j]? = some y := ⟨k[j]'(by rw [HK.out]; omega), by simp⟩
        obtain ⟨ab, ao, rfl, hx1, hx2, _⟩ := HA.out.atR j x hx
        obtain ⟨bb, bo, rfl, hy1, hy2, _⟩ := HB.out.atR j y hy
        have HX := Lib.hid hx
        have HY := Lib.hid hy
        have hj0 : (0 : Int) ≤ (j : Int) := Int.natCast_nonneg _
        have hj1 : (j : Int) < (n : Int) := by omega
        clear hx hy
        have hE := eql43
        by_cases hxy : x = y
        · subst hxy
          go_wp2_with fail
          go_quiet (fail)
          go_wp2
          go_roundw
          case rel => exact ⟨j + 1, by omega, by go_num, take_ext HT.out HX.out HY.out rfl, _, rfl⟩
          case measure => simp [intOf]; omega
        · have hb : (x.1 == y.1 && x.2 == y.2) = false := by
            simp only [Bool.and_eq_false_iff, beq_eq_false_iff_ne]
            by_cases e : x.1 = y.1
            · exact .inr fun e2 => hxy (Prod.ext e e2)
            · exact .inl e
          have hne : l ≠ k := by
            intro e
            have h1 := HX.out
            have h2 := HY.out
            rw [e, h2] at h1
            exact hxy (by simpa using h1.symm)
          have HNE := Lib.hid hne
          clear hxy hne
          go_wp2_with fail
          go_quiet (fail)
          go_wp2
          go_ret
          exact ⟨by rw [decide_eq_false HNE.out]; rfl, q + nq, by simp⟩
      · have heq : l = k := by
          have h := HT.out
          rwa [List.take_of_length_le (by rw [HL.out]; omega), List.take_of_length_le (by rw [HK.out]; omega)] at h
        have HEQ := Lib.hid heq
        clear heq
        go_wp2
        go_ret
        exact ⟨by rw [decide_eq_true HEQ.out]; rfl, _, rfl⟩
  · have hne : l ≠ k := by
      intro e
      have h1 := HL.out
      rw [e, HK.out] at h1
      exact hnm h1.symm
    have HNE := Lib.hid hne
    have hb : ((n : Int) == (m : Int)) = false := by simp; omega
    have hb2 : ((n : Int) != (m : Int)) = true := by simp; omega
    clear hne
    go_enter Tryd.func25, Tryd.ntmps25
    go_wp2
    go_ret
    exact ⟨by rw [decide_eq_false HNE.out]; rfl, 0, rfl⟩

set_option maxHeartbeats 400000 in
theorem sameU_any (a b : Option Addr) (n c m d : Nat) (l k : List Int) (w : World) (hl : l.length = n) (hk : k.length = m) (hn : n ≤ 9223372036854775807) (hm : m ≤ 9223372036854775807) (ha : Reads w a (cellsU l)) (hb : Reads w b (cellsU k)) :
    Calls Tryd.prog 47 #[.slice a n c, .slice b m d] w fun e w' => e = .returned (.bool (decide (l = k))) ∧ ∃ q, w' = w.drewN q := by
  have HL := Lib.hid hl
  have HK := Lib.hid hk
  have HA := Lib.hid ha
  have HB := Lib.hid hb
  clear hl hk ha hb
  by_cases hnm : n = m
  · subst hnm
    go_enter Tryd.func47, Tryd.ntmps47
    go_wp2
    go_loopw [5] (fun s5 wr => ∃ j : Nat, j ≤ n ∧ s5 = .int .i64 j ∧ l.take j = k.take j ∧ ∃ q, wr = w.drewN q) (fun s5 _ => n - (intOf s5).toNat)
    case atStart => exact ⟨0, by omega, rfl, rfl, 0, rfl⟩
    case round =>
      obtain ⟨j, hj, rfl, htk, q, rfl⟩ := hrel
      have HT := Lib.hid htk
      clear htk
      by_cases hlt : j < n
      · obtain ⟨x, hx⟩ : ∃ x, l[j]? = some x := ⟨l[j]'(by rw [HL.out]; omega), by simp⟩
        obtain ⟨y, hy⟩ : ∃ y, k[j]? = some y := ⟨k[j]'(by rw [HK.out]; omega), by simp⟩
        obtain ⟨ab, ao, rfl, hx1, _⟩ := HA.out.atU j x hx
        obtain ⟨bb, bo, rfl, hy1, _⟩ := HB.out.atU j y hy
        have HX := Lib.hid hx
        have HY := Lib.hid hy
        have hj0 : (0 : Int) ≤ (j : Int) := Int.natCast_nonneg _
        have hj1 : (j : Int) < (n : Int) := by omega
        clear hx hy
        by_cases hxy : x = y
        · subst hxy
          go_wp2_with fail
          go_quiet (fail)
          go_wp2
          go_roundw
          case rel => exact ⟨j + 1, by omega, by go_num, take_ext HT.out HX.out HY.out rfl, _, rfl⟩
          case measure => simp [intOf]; omega
        · have hb : (x != y) = true := by simpa using hxy
          have hb2 : (x == y) = false := by simpa using hxy
          have hne : l ≠ k := by
            intro e
            have h1 := HX.out
            have h2 := HY.out
            rw [e, h2] at h1
            exact hxy (by simpa using h1.symm)
          have HNE := Lib.hid hne
          clear hne
          go_wp2_with fail
          go_quiet (fail)
          go_wp2
          go_ret
          exact ⟨by rw [decide_eq_false HNE.out]; rfl, q + nq, by simp⟩
      · have heq : l = k := by
          have h := HT.out
          rwa [List.take_of_length_le (by rw [HL.out]; omega), List.take_of_length_le (by rw [HK.out]; omega)] at h
        have HEQ := Lib.hid heq
        clear heq
        go_wp2
        go_ret
        exact ⟨by rw [decide_eq_true HEQ.out]; rfl, _, rfl⟩
  · have hne : l ≠ k := by
      intro e
      have h1 := HL.out
      rw [e, HK.out] at h1
      exact hnm h1.symm
    have HNE := Lib.hid hne
    have hb : ((n : Int) == (m : Int)) = false := by simp; omega
    have hb2 : ((n : Int) != (m : Int)) = true := by simp; omega
    clear hne
    go_enter Tryd.func47, Tryd.ntmps47
    go_wp2
    go_ret
    exact ⟨by rw [decide_eq_false HNE.out]; rfl, 0, rfl⟩

end Go.Proofs.YtdnalhjdmlkbmaaDoor
namespace Go.Proofs.YtdnalhjdmlkbmaaDoor
open Go.RowKit Go.Shelf
attribute [local go_sem] Oper.semAt_some

theorem Adv.grown {w w' : World} {G G' : Nat → Nat} (h : Adv (fun _ => False) w G w' G') : w.grownBy w' none := ⟨h.os, h.tape, h.output, h.size, fun k hk _ => h.keep k hk id⟩
theorem Adv.ofBelow {w w' : World} (G : Nat → Nat) (h : Below w.heap.size w w') : Adv (fun _ => False) w G w' (fun b => if b < w.heap.size then G b else 0) :=
  ⟨h.os, h.tape, h.output, h.size, fun _ hb => if_pos hb, fun b hb _ => h.block b hb⟩
def upTo (k : Nat) : List Nat := (List.range k).map (· + 1)
theorem upTo_succ (k : Nat) : upTo (k + 1) = upTo k ++ [k + 1] := by simp [upTo, List.range_succ]
theorem upTo_prefix (j k : Nat) (h : j ≤ k) : upTo j <+: upTo k := by
  unfold upTo
  refine List.IsPrefix.map _ ?_
  rw [List.prefix_iff_eq_take, List.length_range, List.take_range, Nat.min_eq_left h]
theorem upTo_length (k : Nat) : (upTo k).length = k := by simp [upTo]
theorem Tabs.below {n₀ : Nat} {A B : World} (h : Below n₀ A B) (hn : 4 ≤ n₀) (ht : Tabs A (fun _ => 0)) : Tabs B (fun _ => 0) :=
  ⟨fun k hk => (h.cell (p := ⟨_, k, none⟩) (by dsimp only; omega)).trans (ht.names k hk), fun k hk => (h.cell (p := ⟨_, k, none⟩) (by dsimp only; omega)).trans (ht.takes k hk),
    fun k hk => (h.cell (p := ⟨_, k, none⟩) (by dsimp only; omega)).trans (ht.leaves k hk), fun k hk => (h.cell (p := ⟨_, k, none⟩) (by dsimp only; omega)).trans (ht.costs k hk), rfl, rfl, rfl, rfl⟩
set_option maxRecDepth 100000 in
set_option maxHeartbeats 1000000 in
theorem all1_in (n : Nat) (hn : 1 ≤ n) (l n₀ : Nat) (hn₀ : 4 ≤ n₀) (J Jx : List Nat → World → Prop) (W : World) (hJ : AbidesFrom W.heap.size J) (ht : Tabs W (fun _ => 0))
    (hY : ∀ pre x W, J pre W → pre.length < 63 → YieldAt Fence.wide (n - 1) Tryd.prog l #[primV x] W fun e W' =>
      (e = .returned (.bool true) ∧ J (pre ++ [x]) W' ∧ Below n₀ W W') ∨ (e = .returned (.bool false) ∧ Jx (pre ++ [x]) W'))
    (h0 : J [] W) :
    CallsIn Fence.wide n Tryd.prog 50 #[.func (.yield l) #[] #[]] W fun e W' => (∃ v, e = .returned v) ∧
      ((∃ ys, ys = upTo 63 ∧ J ys W') ∨ (∃ pre, pre <+: upTo 63 ∧ Jx pre W')) := by
  have HT := Lib.hid ht
  have HJ := Lib.hid hJ
  have HY := Lib.hid hY
  clear ht hJ hY
  refine callsIn_of_wp Tryd.func50 rfl trivial ?_ rfl
  simp only [Tryd.ntmps50, List.size_toArray, List.length_cons, List.length_nil, Nat.reduceAdd, Nat.reduceSub, Array.replicate_succ, Array.replicate_zero, List.push_toArray, List.append_toArray, List.nil_append, List.cons_append]
  gi_wp2
  gi_loopw [2] (fun v wr => ∃ k : Nat, 1 ≤ k ∧ k ≤ 64 ∧ v = .int .i64 k ∧ J (upTo (k - 1)) wr ∧ Tabs wr (fun _ => 0)) (fun v _ => 64 - (intOf v).toNat)
  case atStart => exact ⟨1, by omega, by omega, rfl, h0, HT.out⟩
  case round =>
    obtain ⟨k, h1, h2, rfl, h3, h4⟩ := hrel
    by_cases hlt : k < 64
    · have H3 := Lib.hid h3
      have H4 := Lib.hid h4
      clear h3 h4
      gi_wp2_with (fail)
      refine ⟨trivial, ?_⟩
      refine (callsIn_wide.2 (primOf_any (fun _ => 0) k hlt _ H4.out)).mono ?_
      rintro e w1 ⟨rfl, G1, ha1⟩
      have hJ1 := HJ.out _ _ _ _ H3.out ha1.grown (fun r e => by cases e)
      have ht1 := H4.out.adv ha1 id
      obtain ⟨fn, tmps, assign, body, hy, hR⟩ := HY.out (upTo (k - 1)) k w1 hJ1 (by rw [upTo_length]; omega)
      have HT1 := Lib.hid (show Tabs w1 (fun _ => 0) from ⟨ht1.names, ht1.takes, ht1.leaves, ht1.costs, rfl, rfl, rfl, rfl⟩)
      clear hJ1 ht1 ha1
      gi_wp2
      refine hR.mono ?_
      rintro e W3 (⟨rfl, hJ3, hk3⟩ | ⟨rfl, hJx3⟩)
      · have HF := Lib.hid (And.intro hJ3 (Tabs.below hk3 hn₀ HT1.out))
        clear hJ3 hk3
        gi_wp2
        go_roundw
        case rel =>
          refine ⟨k + 1, by omega, by omega, by go_num, ?_, HF.out.2⟩
          rw [Nat.add_sub_cancel, show k = k - 1 + 1 from by omega, upTo_succ]
          have := HF.out.1
          rwa [show k - 1 + 1 = k from by omega]
        case measure => simp [intOf]; omega
      · gi_wp2
        refine bodyPost_ret (results_none rfl _ _ _) rfl ?_
        refine ⟨⟨_, rfl⟩, .inr ⟨upTo (k - 1) ++ [k], ?_, hJx3⟩⟩
        have e : upTo (k - 1) ++ [k] = upTo k := by
          have := upTo_succ (k - 1)
          rw [show k - 1 + 1 = k from by omega] at this
          exact this.symm
        rw [e]
        exact upTo_prefix k 63 (by omega)
    · have hk : k = 64 := by omega
      have HF := Lib.hid (And.intro h3 hk)
      clear h3 h4 hk
      gi_wp2
      go_end0
      refine ⟨⟨_, rfl⟩, .inl ⟨upTo 63, rfl, ?_⟩⟩
      have := HF.out.1
      rwa [HF.out.2] at this
theorem all_any (w : World) : Calls Tryd.prog 18 #[] w fun e w' => e = .returned (.func (.func 50) #[] #[]) ∧ w = w' := by
  go_enter Tryd.func18, Tryd.ntmps18
  go_wp2
  go_ret
  exact ⟨rfl, rfl⟩
theorem all_stops (n : Nat) (hn : 1 ≤ n) (n₀ : Nat) (hn₀ : 4 ≤ n₀) (w : World) (ht : Tabs w (fun _ => 0)) :
    SeqStopsK Fence.wide n Tryd.prog 50 #[] (fun x : Nat => #[primV x]) (Below n₀) (fun ys => ys = upTo 63) (fun pre => pre <+: upTo 63) 63 w := fun l J Jx W hW hJ _ hY h0 =>
  all1_in n hn l n₀ hn₀ J Jx W hJ (Tabs.below (n₀ := w.heap.size) hW (by have := World.block_lt_of_cell? w _ (ht.names 0 (by omega)); have := World.block_lt_of_cell? w _ (ht.takes 0 (by omega)); have := World.block_lt_of_cell? w _ (ht.leaves 0 (by omega)); have := World.block_lt_of_cell? w _ (ht.costs 0 (by omega)); simp at *; omega) ht) hY h0
end Go.Proofs.YtdnalhjdmlkbmaaDoor
namespace Go.Proofs.YtdnalhjdmlkbmaaDoor
open Go.RowKit Go.Shelf
attribute [local go_sem] Oper.semAt_some

/-- Block B holds these cells, all of them. -/
def BoxN (W : World) (B : Nat) (T : TypeId) (C : Array Value) : Prop := W.heap[B]? = some (.cells C T (0, 0))
theorem boxN_own {β : Type} (B : Nat) (T : TypeId) (f : β → Array Value) : Own (fun s W => BoxN W B T (f s)) := fun s X Y row hs hg hrow => by
  have hs' : X.heap[B]? = some (.cells (f s) T (0, 0)) := hs
  exact (hg.block B (Array.getElem?_eq_some_iff.1 hs').1 (fun e => by
    obtain ⟨o, ho, hc⟩ := hrow B e.symm
    rw [hs'] at ho; cases ho; cases hc)).trans hs'
theorem BoxN.new (W : World) (T : TypeId) (C : Array Value) : BoxN (W.alloc (.cells C T)) W.heap.size T C := heap_alloc_new W _
theorem BoxN.alloc {W : World} {B : Nat} {T : TypeId} {C : Array Value} (h : BoxN W B T C) (o : Obj) : BoxN (W.alloc o) B T C :=
  (heap_past W o B (Array.getElem?_eq_some_iff.1 (show W.heap[B]? = _ from h)).1).trans h
theorem BoxN.lt {W : World} {B : Nat} {T : TypeId} {C : Array Value} (h : BoxN W B T C) : B < W.heap.size := (Array.getElem?_eq_some_iff.1 (show W.heap[B]? = _ from h)).1
theorem BoxN.set {W : World} {B : Nat} {T : TypeId} {C : Array Value} (h : BoxN W B T C) (j : Nat) (v : Value) : BoxN (W.setCell ⟨B, j, none⟩ v) B T (C.setIfInBounds j v) := by
  unfold BoxN at h ⊢
  simp only [World.setCell, Array.getElem?_modify, h]; simp
theorem BoxN.other {W : World} {B B' : Nat} {T : TypeId} {C : Array Value} (h : BoxN W B T C) (hne : B ≠ B') (j : Nat) (v : Value) : BoxN (W.setCell ⟨B', j, none⟩ v) B T C :=
  (Below.heap_setCell _ _ _ _ hne).trans h
theorem BoxN.putObj {W : World} {B D : Nat} {T : TypeId} {C : Array Value} (h : BoxN W B T C) (o : Obj) (hne : B ≠ D) : BoxN (W.putObj D o) B T C := (World.putObj_heap_other hne).trans h

/-- The place of a name in the table; 64: it has none. -/
def nameIx (s : ByteArray) : Nat := 9 + (List.range 55).findIdx (fun d => nameB (9 + d) == s)
def primC (k : Nat) : Array Value := #[.int .i64 k, .string (nameB k), .int .i64 (takesN k), .int .i64 (leavesN k), .int .i64 (costsN k), .bool (operandB k)]
def primC0 : Array Value := #[.int .i64 0, .string ⟨#[]⟩, .int .i64 0, .int .i64 0, .int .i64 0, .bool false]
/-- Is this row the one that is asked for? -/
def hitB (s : ByteArray) (k : Nat) : Bool := !s.toList.isEmpty && ((nameB k).toList == s.toList)
set_option maxRecDepth 100000 in
set_option maxHeartbeats 1000000 in
theorem named_in (s : ByteArray) (w : World) (ht : Tabs w (fun _ => 0)) :
    CallsIn Fence.wide 6 Tryd.prog 16 #[.string s] w fun e w' =>
      ((∃ pre k, pre ++ [k] <+: upTo 63 ∧ (∀ j ∈ pre, hitB s j = false) ∧ hitB s k = true ∧ e = .returned (.tuple #[primV k, .bool true])) ∨ ((∀ j ∈ upTo 63, hitB s j = false) ∧ e = .returned (.tuple #[primV0, .bool false]))) ∧ Below w.heap.size w w' := by
  refine callsIn_of_wp_marks Tryd.func16 rfl trivial ?_ rfl
  simp only [Tryd.ntmps16, List.size_toArray, List.length_cons, List.length_nil, Nat.reduceAdd, Nat.reduceSub, Array.replicate_succ, Array.replicate_zero, List.push_toArray, List.append_toArray, List.nil_append, List.cons_append]
  gi_wp2_with (fail)
  refine ⟨trivial, ?_⟩
  refine (callsIn_wide.2 (all_any _)).mono ?_
  rintro e w' ⟨rfl, rfl⟩
  gi_wp2_with (fail)
  have b1 := ((BoxN.new w 9 #[.string s]).alloc (.cells primC0 25)).alloc (.cells #[.bool false] 4)
  have b2 := (BoxN.new (w.alloc (.cells #[.string s] 9)) 25 primC0).alloc (.cells #[.bool false] 4)
  have b3 := BoxN.new ((w.alloc (.cells #[.string s] 9)).alloc (.cells primC0 25)) 4 #[.bool false]
  simp only [World.size_alloc] at b2 b3
  have hB0 : Below w.heap.size w (((w.alloc (.cells #[.string s] 9)).alloc (.cells primC0 25)).alloc (.cells #[.bool false] 4)) := (((Below.refl _ w).alloc (Nat.le_refl _) _).alloc (by simp) _).alloc (by simp; omega) _
  have h4 : 4 ≤ w.heap.size := by
    have := World.block_lt_of_cell? w _ (ht.names 0 (by omega)); have := World.block_lt_of_cell? w _ (ht.takes 0 (by omega)); have := World.block_lt_of_cell? w _ (ht.leaves 0 (by omega)); have := World.block_lt_of_cell? w _ (ht.costs 0 (by omega)); simp at *; omega
  have hsz : (((w.alloc (.cells #[.string s] 9)).alloc (.cells primC0 25)).alloc (.cells #[.bool false] 4)).heap.size = w.heap.size + 3 := by simp
  have hT0 := Tabs.below hB0 h4 ht
  change Code.wpIn _ _ _ _ _ _ (((w.alloc (.cells #[.string s] 9)).alloc (.cells primC0 25)).alloc (.cells #[.bool false] 4))
  obtain ⟨W0, hW0⟩ : ∃ W0, ((w.alloc (.cells #[.string s] 9)).alloc (.cells primC0 25)).alloc (.cells #[.bool false] 4) = W0 := ⟨_, rfl⟩
  rw [hW0] at b1 b2 b3 hB0 hsz hT0 ⊢
  clear hW0
  refine wpIn_rangeFunc_ownH rfl (by omega) (gf := 50) (lb := #[]) rfl trivial (enters_of Tryd.func50 (by kernel_rfl) rfl)
    (all_stops 5 (by omega) w.heap.size h4 W0 hT0) belowK_t (belowK_b (by omega)) (Below.refl _ _) (fun _ => rfl)
    (fun pre W => ((((∀ j ∈ pre, hitB s j = false) ∧ BoxN W w.heap.size 9 #[.string s]) ∧ BoxN W (w.heap.size + 1) 25 primC0) ∧ BoxN W (w.heap.size + 1 + 1) 4 #[.bool false]) ∧ Below w.heap.size w W)
    (fun c pre W => (((c = .ret ∧ ∃ pre' k, pre = pre' ++ [k] ∧ (∀ j ∈ pre', hitB s j = false) ∧ hitB s k = true) ∧ BoxN W (w.heap.size + 1) 25 (primC (pre.getLast?.getD 0))) ∧ BoxN W (w.heap.size + 1 + 1) 4 #[.bool true]) ∧ Below w.heap.size w W)
    (OwnFrom.and (OwnFrom.and (OwnFrom.and (OwnFrom.and (ownFrom_pure _ _) (Own.from (boxN_own _ _ _) _)) (Own.from (boxN_own _ _ _) _)) (Own.from (boxN_own _ _ _) _)) (ownFrom_below (Nat.le_refl _) (by omega)))
    (fun c => OwnFrom.and (OwnFrom.and (OwnFrom.and (ownFrom_pure _ _) (Own.from (boxN_own _ _ _) _)) (Own.from (boxN_own _ _ _) _)) (ownFrom_below (Nat.le_refl _) (by omega)))
    ⟨⟨⟨⟨by simp, b1⟩, b2⟩, b3⟩, hB0⟩
    (fun x a' W => ∃ Bx, w.heap.size + 2 < Bx ∧ BoxN W Bx 25 (primC x) ∧ a' = { tmps := #[.string s, .pointer (some ⟨w.heap.size, 0, none⟩), .pointer (some ⟨w.heap.size + 1, 0, none⟩), .pointer (some ⟨w.heap.size + 1 + 1, 0, none⟩), .pointer (some ⟨Bx, 0, none⟩), .func (.func 50) #[] #[], primV x, undef, undef, undef, undef, undef, undef, undef, undef, undef, undef], defers := [] })
    (fun x a' _ X Y row hs hg hr => by obtain ⟨Bx, e1, e2, e3⟩ := hs; exact ⟨Bx, e1, boxN_own Bx 25 (fun (_ : Unit) => primC x) () X Y row e2 hg (fun r e => (hr r e).2), e3⟩)
    ?assign ?body ?done ?stop
  case assign =>
    rintro l pre x W K ⟨⟨⟨⟨hp, c1⟩, c2⟩, c3⟩, hB1⟩ hK
    have hz3 := c3.lt
    unfold primV at hK ⊢
    gi_wp2
    exact hK _ _ ((KeepsOthers.alloc _ _).from _) ((Below.refl _ W).alloc hB1.size _) ⟨⟨⟨⟨hp, c1.alloc _⟩, c2.alloc _⟩, c3.alloc _⟩, hB1.alloc hB1.size _⟩ ⟨W.heap.size, by omega, BoxN.new W _ _, rfl⟩
  case body =>
    rintro l pre x a' W hl ⟨r, hr⟩ ⟨⟨⟨⟨hp, c1⟩, c2⟩, c3⟩, hB1⟩ ⟨Bx, hBx, bX, rfl⟩ hlt
    have d1 : W.cell? ⟨w.heap.size, 0, none⟩ = some (.string s) := block_cell c1 0 _ rfl
    have x0 : W.cell? ⟨Bx, 0, none⟩ = some (.int .i64 x) := block_cell bX 0 _ rfl
    have x1 : W.cell? ⟨Bx, 1, none⟩ = some (.string (nameB x)) := block_cell bX 1 _ rfl
    have x2 : W.cell? ⟨Bx, 2, none⟩ = some (.int .i64 (takesN x)) := block_cell bX 2 _ rfl
    have x3 : W.cell? ⟨Bx, 3, none⟩ = some (.int .i64 (leavesN x)) := block_cell bX 3 _ rfl
    have x4 : W.cell? ⟨Bx, 4, none⟩ = some (.int .i64 (costsN x)) := block_cell bX 4 _ rfl
    have x5 : W.cell? ⟨Bx, 5, none⟩ = some (.bool (operandB x)) := block_cell bX 5 _ rfl
    have y0 : W.cell? ⟨w.heap.size + 1, 0, none⟩ = some (.int .i64 0) := block_cell c2 0 _ rfl
    have y1 : W.cell? ⟨w.heap.size + 1, 1, none⟩ = some (.string ⟨#[]⟩) := block_cell c2 1 _ rfl
    have y2 : W.cell? ⟨w.heap.size + 1, 2, none⟩ = some (.int .i64 0) := block_cell c2 2 _ rfl
    have y3 : W.cell? ⟨w.heap.size + 1, 3, none⟩ = some (.int .i64 0) := block_cell c2 3 _ rfl
    have y4 : W.cell? ⟨w.heap.size + 1, 4, none⟩ = some (.int .i64 0) := block_cell c2 4 _ rfl
    have y5 : W.cell? ⟨w.heap.size + 1, 5, none⟩ = some (.bool false) := block_cell c2 5 _ rfl
    have z0 : W.cell? ⟨w.heap.size + 1 + 1, 0, none⟩ = some (.bool false) := block_cell c3 0 _ rfl
    have fy := block_free c2
    have fz := block_free c3
    have HC := Lib.hid (And.intro hp (And.intro c1 (And.intro c2 (And.intro c3 (And.intro hB1 bX)))))
    clear hp c1 c2 c3 hB1 bX hr hl hlt
    unfold primV
    have hno : hitB s x = false → ∀ j ∈ pre ++ [x], hitB s j = false := fun h j hj => (List.mem_append.1 hj).elim (HC.out.1 j) (fun e => by simp at e; subst e; exact h)
    have HNO := Lib.hid hno
    clear hno
    cases he : s.toList.isEmpty with
    | true =>
      have HH := Lib.hid (show hitB s x = false by unfold hitB; rw [he]; rfl)
      gi_wp2
      exact ⟨KeepsFrom.refl _ _, Below.refl _ _, ⟨⟨⟨⟨HNO.out HH.out, HC.out.2.1⟩, HC.out.2.2.1⟩, HC.out.2.2.2.1⟩, HC.out.2.2.2.2.1⟩⟩
    | false =>
      cases hq : (nameB x).toList == s.toList with
      | false =>
        have HH := Lib.hid (show hitB s x = false by unfold hitB; rw [he, hq]; rfl)
        gi_wp2
        exact ⟨KeepsFrom.refl _ _, Below.refl _ _, ⟨⟨⟨⟨HNO.out HH.out, HC.out.2.1⟩, HC.out.2.2.1⟩, HC.out.2.2.2.1⟩, HC.out.2.2.2.2.1⟩⟩
      | true =>
        have HH := Lib.hid (show hitB s x = true by unfold hitB; rw [he, hq]; rfl)
        gi_wp2
        have e : (pre ++ [x]).getLast?.getD 0 = x := by simp
        have b2 := ((((((HC.out.2.2.1.set 0 (.int .i64 x)).set 1 (.string (nameB x))).set 2 (.int .i64 (takesN x))).set 3 (.int .i64 (leavesN x))).set 4 (.int .i64 (costsN x))).set 5 (.bool (operandB x))).other (B' := w.heap.size + 1 + 1) (by omega) 0 (.bool true)
        have b3 := ((((((HC.out.2.2.2.1.other (B' := w.heap.size + 1) (by omega) 0 (.int .i64 x)).other (B' := w.heap.size + 1) (by omega) 1 (.string (nameB x))).other (B' := w.heap.size + 1) (by omega) 2 (.int .i64 (takesN x))).other (B' := w.heap.size + 1) (by omega) 3 (.int .i64 (leavesN x))).other (B' := w.heap.size + 1) (by omega) 4 (.int .i64 (costsN x))).other (B' := w.heap.size + 1) (by omega) 5 (.bool (operandB x))).set 0 (.bool true)
        have b4 := ((((((HC.out.2.2.2.2.1.setCell (p := ⟨w.heap.size + 1, 0, none⟩) (by simp) (.int .i64 x)).setCell (p := ⟨w.heap.size + 1, 1, none⟩) (by simp) (.string (nameB x))).setCell (p := ⟨w.heap.size + 1, 2, none⟩) (by simp) (.int .i64 (takesN x))).setCell (p := ⟨w.heap.size + 1, 3, none⟩) (by simp) (.int .i64 (leavesN x))).setCell (p := ⟨w.heap.size + 1, 4, none⟩) (by simp) (.int .i64 (costsN x))).setCell (p := ⟨w.heap.size + 1, 5, none⟩) (by simp) (.bool (operandB x))).setCell (p := ⟨w.heap.size + 1 + 1, 0, none⟩) (by simp; omega) (.bool true)
        refine ⟨((((((KeepsOthers.setCell _ _ _).trans (KeepsOthers.setCell _ _ _)).trans (KeepsOthers.setCell _ _ _)).trans (KeepsOthers.setCell _ _ _)).trans (KeepsOthers.setCell _ _ _)).trans (KeepsOthers.setCell _ _ _)).trans (KeepsOthers.setCell _ _ _) |>.from _, ⟨⟨⟨⟨rfl, pre, x, rfl, HC.out.1, HH.out⟩, ?_⟩, b3⟩, b4⟩⟩
        rw [e]
        exact b2
  case done =>
    rintro D zs W hD rfl ⟨⟨⟨⟨hp, c1⟩, c2⟩, c3⟩, hB1⟩ hK
    have y0 : W.cell? ⟨w.heap.size + 1, 0, none⟩ = some (.int .i64 0) := block_cell c2 0 _ rfl
    have y1 : W.cell? ⟨w.heap.size + 1, 1, none⟩ = some (.string ⟨#[]⟩) := block_cell c2 1 _ rfl
    have y2 : W.cell? ⟨w.heap.size + 1, 2, none⟩ = some (.int .i64 0) := block_cell c2 2 _ rfl
    have y3 : W.cell? ⟨w.heap.size + 1, 3, none⟩ = some (.int .i64 0) := block_cell c2 3 _ rfl
    have y4 : W.cell? ⟨w.heap.size + 1, 4, none⟩ = some (.int .i64 0) := block_cell c2 4 _ rfl
    have y5 : W.cell? ⟨w.heap.size + 1, 5, none⟩ = some (.bool false) := block_cell c2 5 _ rfl
    have z0 : W.cell? ⟨w.heap.size + 1 + 1, 0, none⟩ = some (.bool false) := block_cell c3 0 _ rfl
    have fy := block_free c2
    have fz := block_free c3
    have HC := Lib.hid (And.intro hp (And.intro c2 (And.intro c3 (And.intro hB1 hK))))
    clear hp c1 c2 c3 hB1 hK
    gi_wp2
    have b2 : BoxN _ (w.heap.size + 1) 25 primC0 := ((((((HC.out.2.1.set 0 (.int .i64 0)).set 1 (.string ⟨#[]⟩)).set 2 (.int .i64 0)).set 3 (.int .i64 0)).set 4 (.int .i64 0)).set 5 (.bool false)).other (B' := w.heap.size + 1 + 1) (by omega) 0 (.bool false)
    have b3 : BoxN _ (w.heap.size + 1 + 1) 4 #[.bool false] := ((((((HC.out.2.2.1.other (B' := w.heap.size + 1) (by omega) 0 (.int .i64 0)).other (B' := w.heap.size + 1) (by omega) 1 (.string ⟨#[]⟩)).other (B' := w.heap.size + 1) (by omega) 2 (.int .i64 0)).other (B' := w.heap.size + 1) (by omega) 3 (.int .i64 0)).other (B' := w.heap.size + 1) (by omega) 4 (.int .i64 0)).other (B' := w.heap.size + 1) (by omega) 5 (.bool false)).set 0 (.bool false)
    have b4 := ((((((HC.out.2.2.2.1.setCell (p := ⟨w.heap.size + 1, 0, none⟩) (by simp) (.int .i64 0)).setCell (p := ⟨w.heap.size + 1, 1, none⟩) (by simp) (.string ⟨#[]⟩)).setCell (p := ⟨w.heap.size + 1, 2, none⟩) (by simp) (.int .i64 0)).setCell (p := ⟨w.heap.size + 1, 3, none⟩) (by simp) (.int .i64 0)).setCell (p := ⟨w.heap.size + 1, 4, none⟩) (by simp) (.int .i64 0)).setCell (p := ⟨w.heap.size + 1, 5, none⟩) (by simp) (.bool false)).setCell (p := ⟨w.heap.size + 1 + 1, 0, none⟩) (by simp; omega) (.bool false)
    have hK' := (((((((KeepsOthers.setCell W ⟨w.heap.size + 1, 0, none⟩ (.int .i64 0)).trans (KeepsOthers.setCell _ ⟨w.heap.size + 1, 1, none⟩ (.string ⟨#[]⟩))).trans (KeepsOthers.setCell _ ⟨w.heap.size + 1, 2, none⟩ (.int .i64 0))).trans (KeepsOthers.setCell _ ⟨w.heap.size + 1, 3, none⟩ (.int .i64 0))).trans (KeepsOthers.setCell _ ⟨w.heap.size + 1, 4, none⟩ (.int .i64 0))).trans (KeepsOthers.setCell _ ⟨w.heap.size + 1, 5, none⟩ (.bool false))).trans (KeepsOthers.setCell _ ⟨w.heap.size + 1 + 1, 0, none⟩ (.bool false))).same D _ HC.out.2.2.2.2 rfl
    refine ⟨by simp, .inl ⟨_, _, rfl, run_takeDeferred hK', ?_⟩⟩
    have q2 := b2.putObj (D := D) (.deferred none) (by omega)
    have q3 := b3.putObj (D := D) (.deferred none) (by omega)
    refine ⟨.tuple #[primV0, .bool false], ?_, .inr ⟨HC.out.1, rfl⟩, b4.trans (belowK_b (w := w) (Nat.le_refl _) _ D _ _ (by omega) hK' rfl rfl)⟩
    have e0 := block_cell q2 0 _ rfl
    have e1 := block_cell q2 1 _ rfl
    have e2 := block_cell q2 2 _ rfl
    have e3 := block_cell q2 3 _ rfl
    have e4 := block_cell q2 4 _ rfl
    have e5 := block_cell q2 5 _ rfl
    have e6 := block_cell q3 0 _ rfl
    simp [results, Tryd.f16, go_sem, e0, e1, e2, e3, e4, e5, e6, primV0, primC0]
  case stop =>
    rintro D c pre W hD hpre ⟨⟨⟨⟨rfl, pre', k, rfl, hp, hh⟩, c2⟩, c3⟩, hB1⟩ hK
    have e : (pre' ++ [k]).getLast?.getD 0 = k := by simp
    rw [e] at c2
    have HC := Lib.hid (And.intro hp (And.intro c2 (And.intro c3 (And.intro hB1 hK))))
    clear hp c2 c3 hB1 hK e
    gi_wp2
    have hK' := HC.out.2.2.2.2
    refine ⟨by simp, .inl ⟨_, _, rfl, run_takeDeferred hK', ?_⟩⟩
    have q2 := HC.out.2.1.putObj (D := D) (.deferred none) (by omega)
    have q3 := HC.out.2.2.1.putObj (D := D) (.deferred none) (by omega)
    refine ⟨.tuple #[primV k, .bool true], ?_, .inl ⟨pre', k, hpre, HC.out.1, hh, rfl⟩, HC.out.2.2.2.1.trans (belowK_b (w := w) (Nat.le_refl _) _ D _ _ (by omega) hK' rfl rfl)⟩
    have e0 := block_cell q2 0 _ rfl
    have e1 := block_cell q2 1 _ rfl
    have e2 := block_cell q2 2 _ rfl
    have e3 := block_cell q2 3 _ rfl
    have e4 := block_cell q2 4 _ rfl
    have e5 := block_cell q2 5 _ rfl
    have e6 := block_cell q3 0 _ rfl
    simp [results, Tryd.f16, go_sem, e0, e1, e2, e3, e4, e5, e6, primV, primC]
end Go.Proofs.YtdnalhjdmlkbmaaDoor
namespace Go.Proofs.YtdnalhjdmlkbmaaDoor
open Go.RowKit

theorem lower_1 (G : Nat → Nat) (w : World) : Calls Tryd.prog 73 #[.int .i64 1] w fun e w' => e = .returned (primV 1) ∧ ∃ G', Adv (fun _ => False) w G w' G' := by
  go_enter Tryd.func73, Tryd.ntmps73
  go_wp2
  exact bodyPost_ret (v := .agg #[.int .i64 1, .string ⟨#[]⟩, .int .i64 0, .int .i64 0, .int .i64 2, .bool false]) (by simp [results, Tryd.results73, go_sem]) rfl ⟨rfl, _, (Adv.refl _ w G).alloc _ 0⟩
theorem lower_2 (G : Nat → Nat) (w : World) : Calls Tryd.prog 73 #[.int .i64 2] w fun e w' => e = .returned (primV 2) ∧ ∃ G', Adv (fun _ => False) w G w' G' := by
  go_enter Tryd.func73, Tryd.ntmps73
  go_wp2
  exact bodyPost_ret (v := .agg #[.int .i64 2, .string ⟨#[]⟩, .int .i64 0, .int .i64 1, .int .i64 2, .bool false]) (by simp [results, Tryd.results73, go_sem]) rfl ⟨rfl, _, (Adv.refl _ w G).alloc _ 0⟩
theorem lower_3 (G : Nat → Nat) (w : World) : Calls Tryd.prog 73 #[.int .i64 3] w fun e w' => e = .returned (primV 3) ∧ ∃ G', Adv (fun _ => False) w G w' G' := by
  go_enter Tryd.func73, Tryd.ntmps73
  go_wp2
  exact bodyPost_ret (v := .agg #[.int .i64 3, .string ⟨#[]⟩, .int .i64 0, .int .i64 1, .int .i64 2, .bool true]) (by simp [results, Tryd.results73, go_sem]) rfl ⟨rfl, _, (Adv.refl _ w G).alloc _ 0⟩
theorem lower_4 (G : Nat → Nat) (w : World) : Calls Tryd.prog 73 #[.int .i64 4] w fun e w' => e = .returned (primV 4) ∧ ∃ G', Adv (fun _ => False) w G w' G' := by
  go_enter Tryd.func73, Tryd.ntmps73
  go_wp2
  exact bodyPost_ret (v := .agg #[.int .i64 4, .string ⟨#[]⟩, .int .i64 0, .int .i64 0, .int .i64 2, .bool true]) (by simp [results, Tryd.results73, go_sem]) rfl ⟨rfl, _, (Adv.refl _ w G).alloc _ 0⟩
theorem lower_5 (G : Nat → Nat) (w : World) : Calls Tryd.prog 73 #[.int .i64 5] w fun e w' => e = .returned (primV 5) ∧ ∃ G', Adv (fun _ => False) w G w' G' := by
  go_enter Tryd.func73, Tryd.ntmps73
  go_wp2
  exact bodyPost_ret (v := .agg #[.int .i64 5, .string ⟨#[]⟩, .int .i64 1, .int .i64 0, .int .i64 2, .bool true]) (by simp [results, Tryd.results73, go_sem]) rfl ⟨rfl, _, (Adv.refl _ w G).alloc _ 0⟩
theorem lower_6 (G : Nat → Nat) (w : World) : Calls Tryd.prog 73 #[.int .i64 6] w fun e w' => e = .returned (primV 6) ∧ ∃ G', Adv (fun _ => False) w G w' G' := by
  go_enter Tryd.func73, Tryd.ntmps73
  go_wp2
  exact bodyPost_ret (v := .agg #[.int .i64 6, .string ⟨#[]⟩, .int .i64 2, .int .i64 0, .int .i64 3, .bool false]) (by simp [results, Tryd.results73, go_sem]) rfl ⟨rfl, _, (Adv.refl _ w G).alloc _ 0⟩
theorem lower_7 (G : Nat → Nat) (w : World) : Calls Tryd.prog 73 #[.int .i64 7] w fun e w' => e = .returned (primV 7) ∧ ∃ G', Adv (fun _ => False) w G w' G' := by
  go_enter Tryd.func73, Tryd.ntmps73
  go_wp2
  exact bodyPost_ret (v := .agg #[.int .i64 7, .string ⟨#[]⟩, .int .i64 0, .int .i64 0, .int .i64 3, .bool true]) (by simp [results, Tryd.results73, go_sem]) rfl ⟨rfl, _, (Adv.refl _ w G).alloc _ 0⟩
theorem lower_8 (G : Nat → Nat) (w : World) : Calls Tryd.prog 73 #[.int .i64 8] w fun e w' => e = .returned (primV 8) ∧ ∃ G', Adv (fun _ => False) w G w' G' := by
  go_enter Tryd.func73, Tryd.ntmps73
  go_wp2
  exact bodyPost_ret (v := .agg #[.int .i64 8, .string ⟨#[]⟩, .int .i64 0, .int .i64 0, .int .i64 2, .bool false]) (by simp [results, Tryd.results73, go_sem]) rfl ⟨rfl, _, (Adv.refl _ w G).alloc _ 0⟩
theorem lower_9 (G : Nat → Nat) (w : World) : Calls Tryd.prog 73 #[.int .i64 9] w fun e w' => e = .returned (primV 9) ∧ ∃ G', Adv (fun _ => False) w G w' G' := by
  go_enter Tryd.func73, Tryd.ntmps73
  go_wp2
  exact bodyPost_ret (v := .agg #[.int .i64 9, .string ⟨#[110, 111, 112]⟩, .int .i64 0, .int .i64 0, .int .i64 1, .bool false]) (by simp [results, Tryd.results73, go_sem]) rfl ⟨rfl, _, (Adv.refl _ w G).alloc _ 0⟩
theorem lower_10 (G : Nat → Nat) (w : World) : Calls Tryd.prog 73 #[.int .i64 10] w fun e w' => e = .returned (primV 10) ∧ ∃ G', Adv (fun _ => False) w G w' G' := by
  go_enter Tryd.func73, Tryd.ntmps73
  go_wp2
  exact bodyPost_ret (v := .agg #[.int .i64 10, .string ⟨#[121, 105, 101, 108, 100]⟩, .int .i64 0, .int .i64 0, .int .i64 1, .bool false]) (by simp [results, Tryd.results73, go_sem]) rfl ⟨rfl, _, (Adv.refl _ w G).alloc _ 0⟩
theorem lower_11 (G : Nat → Nat) (w : World) : Calls Tryd.prog 73 #[.int .i64 11] w fun e w' => e = .returned (primV 11) ∧ ∃ G', Adv (fun _ => False) w G w' G' := by
  go_enter Tryd.func73, Tryd.ntmps73
  go_wp2
  exact bodyPost_ret (v := .agg #[.int .i64 11, .string ⟨#[104, 97, 108, 116]⟩, .int .i64 0, .int .i64 0, .int .i64 1, .bool false]) (by simp [results, Tryd.results73, go_sem]) rfl ⟨rfl, _, (Adv.refl _ w G).alloc _ 0⟩
theorem lower_12 (G : Nat → Nat) (w : World) : Calls Tryd.prog 73 #[.int .i64 12] w fun e w' => e = .returned (primV 12) ∧ ∃ G', Adv (fun _ => False) w G w' G' := by
  go_enter Tryd.func73, Tryd.ntmps73
  go_wp2
  exact bodyPost_ret (v := .agg #[.int .i64 12, .string ⟨#[100, 117, 112]⟩, .int .i64 1, .int .i64 2, .int .i64 1, .bool false]) (by simp [results, Tryd.results73, go_sem]) rfl ⟨rfl, _, (Adv.refl _ w G).alloc _ 0⟩
theorem lower_13 (G : Nat → Nat) (w : World) : Calls Tryd.prog 73 #[.int .i64 13] w fun e w' => e = .returned (primV 13) ∧ ∃ G', Adv (fun _ => False) w G w' G' := by
  go_enter Tryd.func73, Tryd.ntmps73
  go_wp2
  exact bodyPost_ret (v := .agg #[.int .i64 13, .string ⟨#[100, 114, 111, 112]⟩, .int .i64 1, .int .i64 0, .int .i64 1, .bool false]) (by simp [results, Tryd.results73, go_sem]) rfl ⟨rfl, _, (Adv.refl _ w G).alloc _ 0⟩
theorem lower_14 (G : Nat → Nat) (w : World) : Calls Tryd.prog 73 #[.int .i64 14] w fun e w' => e = .returned (primV 14) ∧ ∃ G', Adv (fun _ => False) w G w' G' := by
  go_enter Tryd.func73, Tryd.ntmps73
  go_wp2
  exact bodyPost_ret (v := .agg #[.int .i64 14, .string ⟨#[115, 119, 97, 112]⟩, .int .i64 2, .int .i64 2, .int .i64 1, .bool false]) (by simp [results, Tryd.results73, go_sem]) rfl ⟨rfl, _, (Adv.refl _ w G).alloc _ 0⟩
theorem lower_15 (G : Nat → Nat) (w : World) : Calls Tryd.prog 73 #[.int .i64 15] w fun e w' => e = .returned (primV 15) ∧ ∃ G', Adv (fun _ => False) w G w' G' := by
  go_enter Tryd.func73, Tryd.ntmps73
  go_wp2
  exact bodyPost_ret (v := .agg #[.int .i64 15, .string ⟨#[111, 118, 101, 114]⟩, .int .i64 2, .int .i64 3, .int .i64 1, .bool false]) (by simp [results, Tryd.results73, go_sem]) rfl ⟨rfl, _, (Adv.refl _ w G).alloc _ 0⟩
theorem lower_16 (G : Nat → Nat) (w : World) : Calls Tryd.prog 73 #[.int .i64 16] w fun e w' => e = .returned (primV 16) ∧ ∃ G', Adv (fun _ => False) w G w' G' := by
  go_enter Tryd.func73, Tryd.ntmps73
  go_wp2
  exact bodyPost_ret (v := .agg #[.int .i64 16, .string ⟨#[114, 111, 116]⟩, .int .i64 3, .int .i64 3, .int .i64 1, .bool false]) (by simp [results, Tryd.results73, go_sem]) rfl ⟨rfl, _, (Adv.refl _ w G).alloc _ 0⟩
theorem lower_17 (G : Nat → Nat) (w : World) : Calls Tryd.prog 73 #[.int .i64 17] w fun e w' => e = .returned (primV 17) ∧ ∃ G', Adv (fun _ => False) w G w' G' := by
  go_enter Tryd.func73, Tryd.ntmps73
  go_wp2
  exact bodyPost_ret (v := .agg #[.int .i64 17, .string ⟨#[110, 105, 112]⟩, .int .i64 2, .int .i64 1, .int .i64 1, .bool false]) (by simp [results, Tryd.results73, go_sem]) rfl ⟨rfl, _, (Adv.refl _ w G).alloc _ 0⟩
theorem lower_18 (G : Nat → Nat) (w : World) : Calls Tryd.prog 73 #[.int .i64 18] w fun e w' => e = .returned (primV 18) ∧ ∃ G', Adv (fun _ => False) w G w' G' := by
  go_enter Tryd.func73, Tryd.ntmps73
  go_wp2
  exact bodyPost_ret (v := .agg #[.int .i64 18, .string ⟨#[116, 117, 99, 107]⟩, .int .i64 2, .int .i64 3, .int .i64 1, .bool false]) (by simp [results, Tryd.results73, go_sem]) rfl ⟨rfl, _, (Adv.refl _ w G).alloc _ 0⟩
theorem lower_19 (G : Nat → Nat) (w : World) : Calls Tryd.prog 73 #[.int .i64 19] w fun e w' => e = .returned (primV 19) ∧ ∃ G', Adv (fun _ => False) w G w' G' := by
  go_enter Tryd.func73, Tryd.ntmps73
  go_wp2
  exact bodyPost_ret (v := .agg #[.int .i64 19, .string ⟨#[50, 100, 117, 112]⟩, .int .i64 2, .int .i64 4, .int .i64 2, .bool false]) (by simp [results, Tryd.results73, go_sem]) rfl ⟨rfl, _, (Adv.refl _ w G).alloc _ 0⟩
theorem lower_20 (G : Nat → Nat) (w : World) : Calls Tryd.prog 73 #[.int .i64 20] w fun e w' => e = .returned (primV 20) ∧ ∃ G', Adv (fun _ => False) w G w' G' := by
  go_enter Tryd.func73, Tryd.ntmps73
  go_wp2
  exact bodyPost_ret (v := .agg #[.int .i64 20, .string ⟨#[50, 100, 114, 111, 112]⟩, .int .i64 2, .int .i64 0, .int .i64 1, .bool false]) (by simp [results, Tryd.results73, go_sem]) rfl ⟨rfl, _, (Adv.refl _ w G).alloc _ 0⟩
end Go.Proofs.YtdnalhjdmlkbmaaDoor
namespace Go.Proofs.YtdnalhjdmlkbmaaDoor
open Go.RowKit

theorem middle_21 (G : Nat → Nat) (w : World) : Calls Tryd.prog 74 #[.int .i64 21] w fun e w' => e = .returned (primV 21) ∧ ∃ G', Adv (fun _ => False) w G w' G' := by
  go_enter Tryd.func74, Tryd.ntmps74
  go_wp2
  exact bodyPost_ret (v := .agg #[.int .i64 21, .string ⟨#[43]⟩, .int .i64 2, .int .i64 1, .int .i64 1, .bool false]) (by simp [results, Tryd.results74, go_sem]) rfl ⟨rfl, _, (Adv.refl _ w G).alloc _ 0⟩
theorem middle_22 (G : Nat → Nat) (w : World) : Calls Tryd.prog 74 #[.int .i64 22] w fun e w' => e = .returned (primV 22) ∧ ∃ G', Adv (fun _ => False) w G w' G' := by
  go_enter Tryd.func74, Tryd.ntmps74
  go_wp2
  exact bodyPost_ret (v := .agg #[.int .i64 22, .string ⟨#[45]⟩, .int .i64 2, .int .i64 1, .int .i64 1, .bool false]) (by simp [results, Tryd.results74, go_sem]) rfl ⟨rfl, _, (Adv.refl _ w G).alloc _ 0⟩
theorem middle_23 (G : Nat → Nat) (w : World) : Calls Tryd.prog 74 #[.int .i64 23] w fun e w' => e = .returned (primV 23) ∧ ∃ G', Adv (fun _ => False) w G w' G' := by
  go_enter Tryd.func74, Tryd.ntmps74
  go_wp2
  exact bodyPost_ret (v := .agg #[.int .i64 23, .string ⟨#[42]⟩, .int .i64 2, .int .i64 1, .int .i64 3, .bool false]) (by simp [results, Tryd.results74, go_sem]) rfl ⟨rfl, _, (Adv.refl _ w G).alloc _ 0⟩
theorem middle_24 (G : Nat → Nat) (w : World) : Calls Tryd.prog 74 #[.int .i64 24] w fun e w' => e = .returned (primV 24) ∧ ∃ G', Adv (fun _ => False) w G w' G' := by
  go_enter Tryd.func74, Tryd.ntmps74
  go_wp2
  exact bodyPost_ret (v := .agg #[.int .i64 24, .string ⟨#[47]⟩, .int .i64 2, .int .i64 1, .int .i64 4, .bool false]) (by simp [results, Tryd.results74, go_sem]) rfl ⟨rfl, _, (Adv.refl _ w G).alloc _ 0⟩
theorem middle_25 (G : Nat → Nat) (w : World) : Calls Tryd.prog 74 #[.int .i64 25] w fun e w' => e = .returned (primV 25) ∧ ∃ G', Adv (fun _ => False) w G w' G' := by
  go_enter Tryd.func74, Tryd.ntmps74
  go_wp2
  exact bodyPost_ret (v := .agg #[.int .i64 25, .string ⟨#[109, 111, 100]⟩, .int .i64 2, .int .i64 1, .int .i64 4, .bool false]) (by simp [results, Tryd.results74, go_sem]) rfl ⟨rfl, _, (Adv.refl _ w G).alloc _ 0⟩
theorem middle_26 (G : Nat → Nat) (w : World) : Calls Tryd.prog 74 #[.int .i64 26] w fun e w' => e = .returned (primV 26) ∧ ∃ G', Adv (fun _ => False) w G w' G' := by
  go_enter Tryd.func74, Tryd.ntmps74
  go_wp2
  exact bodyPost_ret (v := .agg #[.int .i64 26, .string ⟨#[117, 47]⟩, .int .i64 2, .int .i64 1, .int .i64 4, .bool false]) (by simp [results, Tryd.results74, go_sem]) rfl ⟨rfl, _, (Adv.refl _ w G).alloc _ 0⟩
theorem middle_27 (G : Nat → Nat) (w : World) : Calls Tryd.prog 74 #[.int .i64 27] w fun e w' => e = .returned (primV 27) ∧ ∃ G', Adv (fun _ => False) w G w' G' := by
  go_enter Tryd.func74, Tryd.ntmps74
  go_wp2
  exact bodyPost_ret (v := .agg #[.int .i64 27, .string ⟨#[117, 109, 111, 100]⟩, .int .i64 2, .int .i64 1, .int .i64 4, .bool false]) (by simp [results, Tryd.results74, go_sem]) rfl ⟨rfl, _, (Adv.refl _ w G).alloc _ 0⟩
theorem middle_28 (G : Nat → Nat) (w : World) : Calls Tryd.prog 74 #[.int .i64 28] w fun e w' => e = .returned (primV 28) ∧ ∃ G', Adv (fun _ => False) w G w' G' := by
  go_enter Tryd.func74, Tryd.ntmps74
  go_wp2
  exact bodyPost_ret (v := .agg #[.int .i64 28, .string ⟨#[110, 101, 103, 97, 116, 101]⟩, .int .i64 1, .int .i64 1, .int .i64 1, .bool false]) (by simp [results, Tryd.results74, go_sem]) rfl ⟨rfl, _, (Adv.refl _ w G).alloc _ 0⟩
theorem middle_29 (G : Nat → Nat) (w : World) : Calls Tryd.prog 74 #[.int .i64 29] w fun e w' => e = .returned (primV 29) ∧ ∃ G', Adv (fun _ => False) w G w' G' := by
  go_enter Tryd.func74, Tryd.ntmps74
  go_wp2
  exact bodyPost_ret (v := .agg #[.int .i64 29, .string ⟨#[97, 98, 115]⟩, .int .i64 1, .int .i64 1, .int .i64 1, .bool false]) (by simp [results, Tryd.results74, go_sem]) rfl ⟨rfl, _, (Adv.refl _ w G).alloc _ 0⟩
theorem middle_30 (G : Nat → Nat) (w : World) : Calls Tryd.prog 74 #[.int .i64 30] w fun e w' => e = .returned (primV 30) ∧ ∃ G', Adv (fun _ => False) w G w' G' := by
  go_enter Tryd.func74, Tryd.ntmps74
  go_wp2
  exact bodyPost_ret (v := .agg #[.int .i64 30, .string ⟨#[109, 105, 110]⟩, .int .i64 2, .int .i64 1, .int .i64 1, .bool false]) (by simp [results, Tryd.results74, go_sem]) rfl ⟨rfl, _, (Adv.refl _ w G).alloc _ 0⟩
theorem middle_31 (G : Nat → Nat) (w : World) : Calls Tryd.prog 74 #[.int .i64 31] w fun e w' => e = .returned (primV 31) ∧ ∃ G', Adv (fun _ => False) w G w' G' := by
  go_enter Tryd.func74, Tryd.ntmps74
  go_wp2
  exact bodyPost_ret (v := .agg #[.int .i64 31, .string ⟨#[109, 97, 120]⟩, .int .i64 2, .int .i64 1, .int .i64 1, .bool false]) (by simp [results, Tryd.results74, go_sem]) rfl ⟨rfl, _, (Adv.refl _ w G).alloc _ 0⟩
theorem middle_32 (G : Nat → Nat) (w : World) : Calls Tryd.prog 74 #[.int .i64 32] w fun e w' => e = .returned (primV 32) ∧ ∃ G', Adv (fun _ => False) w G w' G' := by
  go_enter Tryd.func74, Tryd.ntmps74
  go_wp2
  exact bodyPost_ret (v := .agg #[.int .i64 32, .string ⟨#[49, 43]⟩, .int .i64 1, .int .i64 1, .int .i64 1, .bool false]) (by simp [results, Tryd.results74, go_sem]) rfl ⟨rfl, _, (Adv.refl _ w G).alloc _ 0⟩
theorem middle_33 (G : Nat → Nat) (w : World) : Calls Tryd.prog 74 #[.int .i64 33] w fun e w' => e = .returned (primV 33) ∧ ∃ G', Adv (fun _ => False) w G w' G' := by
  go_enter Tryd.func74, Tryd.ntmps74
  go_wp2
  exact bodyPost_ret (v := .agg #[.int .i64 33, .string ⟨#[49, 45]⟩, .int .i64 1, .int .i64 1, .int .i64 1, .bool false]) (by simp [results, Tryd.results74, go_sem]) rfl ⟨rfl, _, (Adv.refl _ w G).alloc _ 0⟩
theorem middle_34 (G : Nat → Nat) (w : World) : Calls Tryd.prog 74 #[.int .i64 34] w fun e w' => e = .returned (primV 34) ∧ ∃ G', Adv (fun _ => False) w G w' G' := by
  go_enter Tryd.func74, Tryd.ntmps74
  go_wp2
  exact bodyPost_ret (v := .agg #[.int .i64 34, .string ⟨#[50, 42]⟩, .int .i64 1, .int .i64 1, .int .i64 1, .bool false]) (by simp [results, Tryd.results74, go_sem]) rfl ⟨rfl, _, (Adv.refl _ w G).alloc _ 0⟩
theorem middle_35 (G : Nat → Nat) (w : World) : Calls Tryd.prog 74 #[.int .i64 35] w fun e w' => e = .returned (primV 35) ∧ ∃ G', Adv (fun _ => False) w G w' G' := by
  go_enter Tryd.func74, Tryd.ntmps74
  go_wp2
  exact bodyPost_ret (v := .agg #[.int .i64 35, .string ⟨#[50, 47]⟩, .int .i64 1, .int .i64 1, .int .i64 1, .bool false]) (by simp [results, Tryd.results74, go_sem]) rfl ⟨rfl, _, (Adv.refl _ w G).alloc _ 0⟩
theorem middle_36 (G : Nat → Nat) (w : World) : Calls Tryd.prog 74 #[.int .i64 36] w fun e w' => e = .returned (primV 36) ∧ ∃ G', Adv (fun _ => False) w G w' G' := by
  go_enter Tryd.func74, Tryd.ntmps74
  go_wp2
  exact bodyPost_ret (v := .agg #[.int .i64 36, .string ⟨#[97, 110, 100]⟩, .int .i64 2, .int .i64 1, .int .i64 1, .bool false]) (by simp [results, Tryd.results74, go_sem]) rfl ⟨rfl, _, (Adv.refl _ w G).alloc _ 0⟩
theorem middle_37 (G : Nat → Nat) (w : World) : Calls Tryd.prog 74 #[.int .i64 37] w fun e w' => e = .returned (primV 37) ∧ ∃ G', Adv (fun _ => False) w G w' G' := by
  go_enter Tryd.func74, Tryd.ntmps74
  go_wp2
  exact bodyPost_ret (v := .agg #[.int .i64 37, .string ⟨#[111, 114]⟩, .int .i64 2, .int .i64 1, .int .i64 1, .bool false]) (by simp [results, Tryd.results74, go_sem]) rfl ⟨rfl, _, (Adv.refl _ w G).alloc _ 0⟩
theorem middle_38 (G : Nat → Nat) (w : World) : Calls Tryd.prog 74 #[.int .i64 38] w fun e w' => e = .returned (primV 38) ∧ ∃ G', Adv (fun _ => False) w G w' G' := by
  go_enter Tryd.func74, Tryd.ntmps74
  go_wp2
  exact bodyPost_ret (v := .agg #[.int .i64 38, .string ⟨#[120, 111, 114]⟩, .int .i64 2, .int .i64 1, .int .i64 1, .bool false]) (by simp [results, Tryd.results74, go_sem]) rfl ⟨rfl, _, (Adv.refl _ w G).alloc _ 0⟩
theorem middle_39 (G : Nat → Nat) (w : World) : Calls Tryd.prog 74 #[.int .i64 39] w fun e w' => e = .returned (primV 39) ∧ ∃ G', Adv (fun _ => False) w G w' G' := by
  go_enter Tryd.func74, Tryd.ntmps74
  go_wp2
  exact bodyPost_ret (v := .agg #[.int .i64 39, .string ⟨#[105, 110, 118, 101, 114, 116]⟩, .int .i64 1, .int .i64 1, .int .i64 1, .bool false]) (by simp [results, Tryd.results74, go_sem]) rfl ⟨rfl, _, (Adv.refl _ w G).alloc _ 0⟩
theorem middle_40 (G : Nat → Nat) (w : World) : Calls Tryd.prog 74 #[.int .i64 40] w fun e w' => e = .returned (primV 40) ∧ ∃ G', Adv (fun _ => False) w G w' G' := by
  go_enter Tryd.func74, Tryd.ntmps74
  go_wp2
  exact bodyPost_ret (v := .agg #[.int .i64 40, .string ⟨#[108, 115, 104, 105, 102, 116]⟩, .int .i64 2, .int .i64 1, .int .i64 1, .bool false]) (by simp [results, Tryd.results74, go_sem]) rfl ⟨rfl, _, (Adv.refl _ w G).alloc _ 0⟩
theorem middle_41 (G : Nat → Nat) (w : World) : Calls Tryd.prog 74 #[.int .i64 41] w fun e w' => e = .returned (primV 41) ∧ ∃ G', Adv (fun _ => False) w G w' G' := by
  go_enter Tryd.func74, Tryd.ntmps74
  go_wp2
  exact bodyPost_ret (v := .agg #[.int .i64 41, .string ⟨#[114, 115, 104, 105, 102, 116]⟩, .int .i64 2, .int .i64 1, .int .i64 1, .bool false]) (by simp [results, Tryd.results74, go_sem]) rfl ⟨rfl, _, (Adv.refl _ w G).alloc _ 0⟩
end Go.Proofs.YtdnalhjdmlkbmaaDoor
