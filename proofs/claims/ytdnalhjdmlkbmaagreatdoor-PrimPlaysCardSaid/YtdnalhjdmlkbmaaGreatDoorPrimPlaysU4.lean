/- num.Unary and num.Binary at numbers that are none of theirs; What does hands back; Of, Plain, adds; entryOf, looks, adds; Do, whatever the primitive; Do, where it says no; What Do comes to: its fault, or the stacks and the memory behind it; What a plain primitive keeps (the plain side of PrimKeeps); What the references' comparisons answer; wisplaw06.sameCells; slices.Clone of tones; Tones; What the primitives of the return stack do on a desk; prim.All, as a range over a function meets it; prim.Named; The primitive of a name; wisplaw06.same, named; The statements' own closed check: it answers true. -/
import Derived.Test.YtdnalhjdmlkbmaaGreatDoorProg
import Derived.Outline
import Derived.Laws.EntriesVeiled
import Derived.Laws.StructEq
import Derived.Deep.RegionHeld3
import Derived.Deep.DeepCutAuto
import Derived.RangeFuncNested
import Derived.RangeFuncBound
import Derived.RangeFuncCalls
import Derived.RangeFuncLeaves
import Derived.Shelf.Abstract
import Derived.Shelf.RegionOpen
import Derived.WalkKit
import Derived.OwnWalkIn
import Derived.TacticsInMore
import Derived.LoopNIn
import Derived.LoopIn
import Derived.Test.YtdnalhjdmlkbmaaGreatDoorPrimPlaysU1
import Derived.Test.YtdnalhjdmlkbmaaGreatDoorPrimPlaysU2
import Derived.Test.YtdnalhjdmlkbmaaGreatDoorPrimPlaysU3
set_option linter.unusedVariables false
set_option linter.unusedSimpArgs false
set_option linter.unnecessarySimpa false
namespace Go.Proofs.YtdnalhjdmlkbmaaGreatDoor
open Go.RowKit

theorem unary_no6 (x : Int) (w : World) : Calls Tryz.prog 155 #[.int .i64 6, .int .u16 x] w fun e w' => e = .returned (.tuple #[.int .u16 0, .bool false]) ∧ w = w' := by
  go_enter Tryz.func155, Tryz.ntmps155
  go_wp2
  go_ret2
  exact ⟨rfl, rfl⟩
theorem unary_no9 (x : Int) (w : World) : Calls Tryz.prog 155 #[.int .i64 9, .int .u16 x] w fun e w' => e = .returned (.tuple #[.int .u16 0, .bool false]) ∧ w = w' := by
  go_enter Tryz.func155, Tryz.ntmps155
  go_wp2
  go_ret2
  exact ⟨rfl, rfl⟩
theorem unary_no12 (x : Int) (w : World) : Calls Tryz.prog 155 #[.int .i64 12, .int .u16 x] w fun e w' => e = .returned (.tuple #[.int .u16 0, .bool false]) ∧ w = w' := by
  go_enter Tryz.func155, Tryz.ntmps155
  go_wp2
  go_ret2
  exact ⟨rfl, rfl⟩
theorem unary_no13 (x : Int) (w : World) : Calls Tryz.prog 155 #[.int .i64 13, .int .u16 x] w fun e w' => e = .returned (.tuple #[.int .u16 0, .bool false]) ∧ w = w' := by
  go_enter Tryz.func155, Tryz.ntmps155
  go_wp2
  go_ret2
  exact ⟨rfl, rfl⟩
theorem unary_no14 (x : Int) (w : World) : Calls Tryz.prog 155 #[.int .i64 14, .int .u16 x] w fun e w' => e = .returned (.tuple #[.int .u16 0, .bool false]) ∧ w = w' := by
  go_enter Tryz.func155, Tryz.ntmps155
  go_wp2
  go_ret2
  exact ⟨rfl, rfl⟩
theorem unary_no15 (x : Int) (w : World) : Calls Tryz.prog 155 #[.int .i64 15, .int .u16 x] w fun e w' => e = .returned (.tuple #[.int .u16 0, .bool false]) ∧ w = w' := by
  go_enter Tryz.func155, Tryz.ntmps155
  go_wp2
  go_ret2
  exact ⟨rfl, rfl⟩
theorem unary_no16 (x : Int) (w : World) : Calls Tryz.prog 155 #[.int .i64 16, .int .u16 x] w fun e w' => e = .returned (.tuple #[.int .u16 0, .bool false]) ∧ w = w' := by
  go_enter Tryz.func155, Tryz.ntmps155
  go_wp2
  go_ret2
  exact ⟨rfl, rfl⟩
theorem unary_no17 (x : Int) (w : World) : Calls Tryz.prog 155 #[.int .i64 17, .int .u16 x] w fun e w' => e = .returned (.tuple #[.int .u16 0, .bool false]) ∧ w = w' := by
  go_enter Tryz.func155, Tryz.ntmps155
  go_wp2
  go_ret2
  exact ⟨rfl, rfl⟩
theorem unary_no18 (x : Int) (w : World) : Calls Tryz.prog 155 #[.int .i64 18, .int .u16 x] w fun e w' => e = .returned (.tuple #[.int .u16 0, .bool false]) ∧ w = w' := by
  go_enter Tryz.func155, Tryz.ntmps155
  go_wp2
  go_ret2
  exact ⟨rfl, rfl⟩
theorem unary_no19 (x : Int) (w : World) : Calls Tryz.prog 155 #[.int .i64 19, .int .u16 x] w fun e w' => e = .returned (.tuple #[.int .u16 0, .bool false]) ∧ w = w' := by
  go_enter Tryz.func155, Tryz.ntmps155
  go_wp2
  go_ret2
  exact ⟨rfl, rfl⟩
theorem unary_no20 (x : Int) (w : World) : Calls Tryz.prog 155 #[.int .i64 20, .int .u16 x] w fun e w' => e = .returned (.tuple #[.int .u16 0, .bool false]) ∧ w = w' := by
  go_enter Tryz.func155, Tryz.ntmps155
  go_wp2
  go_ret2
  exact ⟨rfl, rfl⟩
theorem unary_no21 (x : Int) (w : World) : Calls Tryz.prog 155 #[.int .i64 21, .int .u16 x] w fun e w' => e = .returned (.tuple #[.int .u16 0, .bool false]) ∧ w = w' := by
  go_enter Tryz.func155, Tryz.ntmps155
  go_wp2
  go_ret2
  exact ⟨rfl, rfl⟩
theorem unary_no22 (x : Int) (w : World) : Calls Tryz.prog 155 #[.int .i64 22, .int .u16 x] w fun e w' => e = .returned (.tuple #[.int .u16 0, .bool false]) ∧ w = w' := by
  go_enter Tryz.func155, Tryz.ntmps155
  go_wp2
  go_ret2
  exact ⟨rfl, rfl⟩
theorem unary_no23 (x : Int) (w : World) : Calls Tryz.prog 155 #[.int .i64 23, .int .u16 x] w fun e w' => e = .returned (.tuple #[.int .u16 0, .bool false]) ∧ w = w' := by
  go_enter Tryz.func155, Tryz.ntmps155
  go_wp2
  go_ret2
  exact ⟨rfl, rfl⟩
theorem unary_no24 (x : Int) (w : World) : Calls Tryz.prog 155 #[.int .i64 24, .int .u16 x] w fun e w' => e = .returned (.tuple #[.int .u16 0, .bool false]) ∧ w = w' := by
  go_enter Tryz.func155, Tryz.ntmps155
  go_wp2
  go_ret2
  exact ⟨rfl, rfl⟩
theorem unary_no25 (x : Int) (w : World) : Calls Tryz.prog 155 #[.int .i64 25, .int .u16 x] w fun e w' => e = .returned (.tuple #[.int .u16 0, .bool false]) ∧ w = w' := by
  go_enter Tryz.func155, Tryz.ntmps155
  go_wp2
  go_ret2
  exact ⟨rfl, rfl⟩
theorem unary_no26 (x : Int) (w : World) : Calls Tryz.prog 155 #[.int .i64 26, .int .u16 x] w fun e w' => e = .returned (.tuple #[.int .u16 0, .bool false]) ∧ w = w' := by
  go_enter Tryz.func155, Tryz.ntmps155
  go_wp2
  go_ret2
  exact ⟨rfl, rfl⟩
theorem unary_no27 (x : Int) (w : World) : Calls Tryz.prog 155 #[.int .i64 27, .int .u16 x] w fun e w' => e = .returned (.tuple #[.int .u16 0, .bool false]) ∧ w = w' := by
  go_enter Tryz.func155, Tryz.ntmps155
  go_wp2
  go_ret2
  exact ⟨rfl, rfl⟩
theorem unary_no30 (x : Int) (w : World) : Calls Tryz.prog 155 #[.int .i64 30, .int .u16 x] w fun e w' => e = .returned (.tuple #[.int .u16 0, .bool false]) ∧ w = w' := by
  go_enter Tryz.func155, Tryz.ntmps155
  go_wp2
  go_ret2
  exact ⟨rfl, rfl⟩
theorem unary_no31 (x : Int) (w : World) : Calls Tryz.prog 155 #[.int .i64 31, .int .u16 x] w fun e w' => e = .returned (.tuple #[.int .u16 0, .bool false]) ∧ w = w' := by
  go_enter Tryz.func155, Tryz.ntmps155
  go_wp2
  go_ret2
  exact ⟨rfl, rfl⟩
theorem unary_no36 (x : Int) (w : World) : Calls Tryz.prog 155 #[.int .i64 36, .int .u16 x] w fun e w' => e = .returned (.tuple #[.int .u16 0, .bool false]) ∧ w = w' := by
  go_enter Tryz.func155, Tryz.ntmps155
  go_wp2
  go_ret2
  exact ⟨rfl, rfl⟩
theorem unary_no37 (x : Int) (w : World) : Calls Tryz.prog 155 #[.int .i64 37, .int .u16 x] w fun e w' => e = .returned (.tuple #[.int .u16 0, .bool false]) ∧ w = w' := by
  go_enter Tryz.func155, Tryz.ntmps155
  go_wp2
  go_ret2
  exact ⟨rfl, rfl⟩
theorem unary_no38 (x : Int) (w : World) : Calls Tryz.prog 155 #[.int .i64 38, .int .u16 x] w fun e w' => e = .returned (.tuple #[.int .u16 0, .bool false]) ∧ w = w' := by
  go_enter Tryz.func155, Tryz.ntmps155
  go_wp2
  go_ret2
  exact ⟨rfl, rfl⟩
theorem unary_no40 (x : Int) (w : World) : Calls Tryz.prog 155 #[.int .i64 40, .int .u16 x] w fun e w' => e = .returned (.tuple #[.int .u16 0, .bool false]) ∧ w = w' := by
  go_enter Tryz.func155, Tryz.ntmps155
  go_wp2
  go_ret2
  exact ⟨rfl, rfl⟩
theorem unary_no41 (x : Int) (w : World) : Calls Tryz.prog 155 #[.int .i64 41, .int .u16 x] w fun e w' => e = .returned (.tuple #[.int .u16 0, .bool false]) ∧ w = w' := by
  go_enter Tryz.func155, Tryz.ntmps155
  go_wp2
  go_ret2
  exact ⟨rfl, rfl⟩
theorem unary_no42 (x : Int) (w : World) : Calls Tryz.prog 155 #[.int .i64 42, .int .u16 x] w fun e w' => e = .returned (.tuple #[.int .u16 0, .bool false]) ∧ w = w' := by
  go_enter Tryz.func155, Tryz.ntmps155
  go_wp2
  go_ret2
  exact ⟨rfl, rfl⟩
theorem unary_no43 (x : Int) (w : World) : Calls Tryz.prog 155 #[.int .i64 43, .int .u16 x] w fun e w' => e = .returned (.tuple #[.int .u16 0, .bool false]) ∧ w = w' := by
  go_enter Tryz.func155, Tryz.ntmps155
  go_wp2
  go_ret2
  exact ⟨rfl, rfl⟩
theorem unary_no44 (x : Int) (w : World) : Calls Tryz.prog 155 #[.int .i64 44, .int .u16 x] w fun e w' => e = .returned (.tuple #[.int .u16 0, .bool false]) ∧ w = w' := by
  go_enter Tryz.func155, Tryz.ntmps155
  go_wp2
  go_ret2
  exact ⟨rfl, rfl⟩
theorem unary_no45 (x : Int) (w : World) : Calls Tryz.prog 155 #[.int .i64 45, .int .u16 x] w fun e w' => e = .returned (.tuple #[.int .u16 0, .bool false]) ∧ w = w' := by
  go_enter Tryz.func155, Tryz.ntmps155
  go_wp2
  go_ret2
  exact ⟨rfl, rfl⟩
theorem unary_no46 (x : Int) (w : World) : Calls Tryz.prog 155 #[.int .i64 46, .int .u16 x] w fun e w' => e = .returned (.tuple #[.int .u16 0, .bool false]) ∧ w = w' := by
  go_enter Tryz.func155, Tryz.ntmps155
  go_wp2
  go_ret2
  exact ⟨rfl, rfl⟩
theorem unary_no47 (x : Int) (w : World) : Calls Tryz.prog 155 #[.int .i64 47, .int .u16 x] w fun e w' => e = .returned (.tuple #[.int .u16 0, .bool false]) ∧ w = w' := by
  go_enter Tryz.func155, Tryz.ntmps155
  go_wp2
  go_ret2
  exact ⟨rfl, rfl⟩
theorem unary_no50 (x : Int) (w : World) : Calls Tryz.prog 155 #[.int .i64 50, .int .u16 x] w fun e w' => e = .returned (.tuple #[.int .u16 0, .bool false]) ∧ w = w' := by
  go_enter Tryz.func155, Tryz.ntmps155
  go_wp2
  go_ret2
  exact ⟨rfl, rfl⟩
theorem unary_no51 (x : Int) (w : World) : Calls Tryz.prog 155 #[.int .i64 51, .int .u16 x] w fun e w' => e = .returned (.tuple #[.int .u16 0, .bool false]) ∧ w = w' := by
  go_enter Tryz.func155, Tryz.ntmps155
  go_wp2
  go_ret2
  exact ⟨rfl, rfl⟩
theorem unary_no52 (x : Int) (w : World) : Calls Tryz.prog 155 #[.int .i64 52, .int .u16 x] w fun e w' => e = .returned (.tuple #[.int .u16 0, .bool false]) ∧ w = w' := by
  go_enter Tryz.func155, Tryz.ntmps155
  go_wp2
  go_ret2
  exact ⟨rfl, rfl⟩
theorem unary_no53 (x : Int) (w : World) : Calls Tryz.prog 155 #[.int .i64 53, .int .u16 x] w fun e w' => e = .returned (.tuple #[.int .u16 0, .bool false]) ∧ w = w' := by
  go_enter Tryz.func155, Tryz.ntmps155
  go_wp2
  go_ret2
  exact ⟨rfl, rfl⟩
theorem unary_no54 (x : Int) (w : World) : Calls Tryz.prog 155 #[.int .i64 54, .int .u16 x] w fun e w' => e = .returned (.tuple #[.int .u16 0, .bool false]) ∧ w = w' := by
  go_enter Tryz.func155, Tryz.ntmps155
  go_wp2
  go_ret2
  exact ⟨rfl, rfl⟩
theorem unary_no55 (x : Int) (w : World) : Calls Tryz.prog 155 #[.int .i64 55, .int .u16 x] w fun e w' => e = .returned (.tuple #[.int .u16 0, .bool false]) ∧ w = w' := by
  go_enter Tryz.func155, Tryz.ntmps155
  go_wp2
  go_ret2
  exact ⟨rfl, rfl⟩
theorem unary_no56 (x : Int) (w : World) : Calls Tryz.prog 155 #[.int .i64 56, .int .u16 x] w fun e w' => e = .returned (.tuple #[.int .u16 0, .bool false]) ∧ w = w' := by
  go_enter Tryz.func155, Tryz.ntmps155
  go_wp2
  go_ret2
  exact ⟨rfl, rfl⟩
theorem unary_no57 (x : Int) (w : World) : Calls Tryz.prog 155 #[.int .i64 57, .int .u16 x] w fun e w' => e = .returned (.tuple #[.int .u16 0, .bool false]) ∧ w = w' := by
  go_enter Tryz.func155, Tryz.ntmps155
  go_wp2
  go_ret2
  exact ⟨rfl, rfl⟩
theorem unary_no58 (x : Int) (w : World) : Calls Tryz.prog 155 #[.int .i64 58, .int .u16 x] w fun e w' => e = .returned (.tuple #[.int .u16 0, .bool false]) ∧ w = w' := by
  go_enter Tryz.func155, Tryz.ntmps155
  go_wp2
  go_ret2
  exact ⟨rfl, rfl⟩
theorem unary_no59 (x : Int) (w : World) : Calls Tryz.prog 155 #[.int .i64 59, .int .u16 x] w fun e w' => e = .returned (.tuple #[.int .u16 0, .bool false]) ∧ w = w' := by
  go_enter Tryz.func155, Tryz.ntmps155
  go_wp2
  go_ret2
  exact ⟨rfl, rfl⟩
theorem unary_no60 (x : Int) (w : World) : Calls Tryz.prog 155 #[.int .i64 60, .int .u16 x] w fun e w' => e = .returned (.tuple #[.int .u16 0, .bool false]) ∧ w = w' := by
  go_enter Tryz.func155, Tryz.ntmps155
  go_wp2
  go_ret2
  exact ⟨rfl, rfl⟩
theorem unary_no61 (x : Int) (w : World) : Calls Tryz.prog 155 #[.int .i64 61, .int .u16 x] w fun e w' => e = .returned (.tuple #[.int .u16 0, .bool false]) ∧ w = w' := by
  go_enter Tryz.func155, Tryz.ntmps155
  go_wp2
  go_ret2
  exact ⟨rfl, rfl⟩
theorem unary_no62 (x : Int) (w : World) : Calls Tryz.prog 155 #[.int .i64 62, .int .u16 x] w fun e w' => e = .returned (.tuple #[.int .u16 0, .bool false]) ∧ w = w' := by
  go_enter Tryz.func155, Tryz.ntmps155
  go_wp2
  go_ret2
  exact ⟨rfl, rfl⟩
theorem unary_no63 (x : Int) (w : World) : Calls Tryz.prog 155 #[.int .i64 63, .int .u16 x] w fun e w' => e = .returned (.tuple #[.int .u16 0, .bool false]) ∧ w = w' := by
  go_enter Tryz.func155, Tryz.ntmps155
  go_wp2
  go_ret2
  exact ⟨rfl, rfl⟩
theorem compared_no6 (x y : Int) (w : World) : Calls Tryz.prog 176 #[.int .i64 6, .int .u16 x, .int .u16 y] w fun e w' => e = .returned (.tuple #[.int .u16 0, .bool false]) ∧ w = w' := by
  go_enter Tryz.func176, Tryz.ntmps176
  go_wp2
  go_ret2
  exact ⟨rfl, rfl⟩
theorem binary_no6 (x y : Int) (w : World) : Calls Tryz.prog 157 #[.int .i64 6, .int .u16 x, .int .u16 y] w fun e w' => e = .returned (.tuple #[.int .u16 0, .bool false]) ∧ w = w' := by
  go_enter Tryz.func157, Tryz.ntmps157
  go_wp2_with (go_at_call 176; refine (compared_no6 _ _ _).mono ?_; rintro e w' ⟨rfl, rfl⟩)
  go_ret2
  exact ⟨rfl, rfl⟩
theorem compared_no9 (x y : Int) (w : World) : Calls Tryz.prog 176 #[.int .i64 9, .int .u16 x, .int .u16 y] w fun e w' => e = .returned (.tuple #[.int .u16 0, .bool false]) ∧ w = w' := by
  go_enter Tryz.func176, Tryz.ntmps176
  go_wp2
  go_ret2
  exact ⟨rfl, rfl⟩
theorem binary_no9 (x y : Int) (w : World) : Calls Tryz.prog 157 #[.int .i64 9, .int .u16 x, .int .u16 y] w fun e w' => e = .returned (.tuple #[.int .u16 0, .bool false]) ∧ w = w' := by
  go_enter Tryz.func157, Tryz.ntmps157
  go_wp2_with (go_at_call 176; refine (compared_no9 _ _ _).mono ?_; rintro e w' ⟨rfl, rfl⟩)
  go_ret2
  exact ⟨rfl, rfl⟩
theorem compared_no12 (x y : Int) (w : World) : Calls Tryz.prog 176 #[.int .i64 12, .int .u16 x, .int .u16 y] w fun e w' => e = .returned (.tuple #[.int .u16 0, .bool false]) ∧ w = w' := by
  go_enter Tryz.func176, Tryz.ntmps176
  go_wp2
  go_ret2
  exact ⟨rfl, rfl⟩
theorem binary_no12 (x y : Int) (w : World) : Calls Tryz.prog 157 #[.int .i64 12, .int .u16 x, .int .u16 y] w fun e w' => e = .returned (.tuple #[.int .u16 0, .bool false]) ∧ w = w' := by
  go_enter Tryz.func157, Tryz.ntmps157
  go_wp2_with (go_at_call 176; refine (compared_no12 _ _ _).mono ?_; rintro e w' ⟨rfl, rfl⟩)
  go_ret2
  exact ⟨rfl, rfl⟩
theorem compared_no13 (x y : Int) (w : World) : Calls Tryz.prog 176 #[.int .i64 13, .int .u16 x, .int .u16 y] w fun e w' => e = .returned (.tuple #[.int .u16 0, .bool false]) ∧ w = w' := by
  go_enter Tryz.func176, Tryz.ntmps176
  go_wp2
  go_ret2
  exact ⟨rfl, rfl⟩
theorem binary_no13 (x y : Int) (w : World) : Calls Tryz.prog 157 #[.int .i64 13, .int .u16 x, .int .u16 y] w fun e w' => e = .returned (.tuple #[.int .u16 0, .bool false]) ∧ w = w' := by
  go_enter Tryz.func157, Tryz.ntmps157
  go_wp2_with (go_at_call 176; refine (compared_no13 _ _ _).mono ?_; rintro e w' ⟨rfl, rfl⟩)
  go_ret2
  exact ⟨rfl, rfl⟩
theorem compared_no14 (x y : Int) (w : World) : Calls Tryz.prog 176 #[.int .i64 14, .int .u16 x, .int .u16 y] w fun e w' => e = .returned (.tuple #[.int .u16 0, .bool false]) ∧ w = w' := by
  go_enter Tryz.func176, Tryz.ntmps176
  go_wp2
  go_ret2
  exact ⟨rfl, rfl⟩
theorem binary_no14 (x y : Int) (w : World) : Calls Tryz.prog 157 #[.int .i64 14, .int .u16 x, .int .u16 y] w fun e w' => e = .returned (.tuple #[.int .u16 0, .bool false]) ∧ w = w' := by
  go_enter Tryz.func157, Tryz.ntmps157
  go_wp2_with (go_at_call 176; refine (compared_no14 _ _ _).mono ?_; rintro e w' ⟨rfl, rfl⟩)
  go_ret2
  exact ⟨rfl, rfl⟩
theorem compared_no15 (x y : Int) (w : World) : Calls Tryz.prog 176 #[.int .i64 15, .int .u16 x, .int .u16 y] w fun e w' => e = .returned (.tuple #[.int .u16 0, .bool false]) ∧ w = w' := by
  go_enter Tryz.func176, Tryz.ntmps176
  go_wp2
  go_ret2
  exact ⟨rfl, rfl⟩
theorem binary_no15 (x y : Int) (w : World) : Calls Tryz.prog 157 #[.int .i64 15, .int .u16 x, .int .u16 y] w fun e w' => e = .returned (.tuple #[.int .u16 0, .bool false]) ∧ w = w' := by
  go_enter Tryz.func157, Tryz.ntmps157
  go_wp2_with (go_at_call 176; refine (compared_no15 _ _ _).mono ?_; rintro e w' ⟨rfl, rfl⟩)
  go_ret2
  exact ⟨rfl, rfl⟩
theorem compared_no16 (x y : Int) (w : World) : Calls Tryz.prog 176 #[.int .i64 16, .int .u16 x, .int .u16 y] w fun e w' => e = .returned (.tuple #[.int .u16 0, .bool false]) ∧ w = w' := by
  go_enter Tryz.func176, Tryz.ntmps176
  go_wp2
  go_ret2
  exact ⟨rfl, rfl⟩
theorem binary_no16 (x y : Int) (w : World) : Calls Tryz.prog 157 #[.int .i64 16, .int .u16 x, .int .u16 y] w fun e w' => e = .returned (.tuple #[.int .u16 0, .bool false]) ∧ w = w' := by
  go_enter Tryz.func157, Tryz.ntmps157
  go_wp2_with (go_at_call 176; refine (compared_no16 _ _ _).mono ?_; rintro e w' ⟨rfl, rfl⟩)
  go_ret2
  exact ⟨rfl, rfl⟩
theorem compared_no17 (x y : Int) (w : World) : Calls Tryz.prog 176 #[.int .i64 17, .int .u16 x, .int .u16 y] w fun e w' => e = .returned (.tuple #[.int .u16 0, .bool false]) ∧ w = w' := by
  go_enter Tryz.func176, Tryz.ntmps176
  go_wp2
  go_ret2
  exact ⟨rfl, rfl⟩
theorem binary_no17 (x y : Int) (w : World) : Calls Tryz.prog 157 #[.int .i64 17, .int .u16 x, .int .u16 y] w fun e w' => e = .returned (.tuple #[.int .u16 0, .bool false]) ∧ w = w' := by
  go_enter Tryz.func157, Tryz.ntmps157
  go_wp2_with (go_at_call 176; refine (compared_no17 _ _ _).mono ?_; rintro e w' ⟨rfl, rfl⟩)
  go_ret2
  exact ⟨rfl, rfl⟩
theorem compared_no18 (x y : Int) (w : World) : Calls Tryz.prog 176 #[.int .i64 18, .int .u16 x, .int .u16 y] w fun e w' => e = .returned (.tuple #[.int .u16 0, .bool false]) ∧ w = w' := by
  go_enter Tryz.func176, Tryz.ntmps176
  go_wp2
  go_ret2
  exact ⟨rfl, rfl⟩
theorem binary_no18 (x y : Int) (w : World) : Calls Tryz.prog 157 #[.int .i64 18, .int .u16 x, .int .u16 y] w fun e w' => e = .returned (.tuple #[.int .u16 0, .bool false]) ∧ w = w' := by
  go_enter Tryz.func157, Tryz.ntmps157
  go_wp2_with (go_at_call 176; refine (compared_no18 _ _ _).mono ?_; rintro e w' ⟨rfl, rfl⟩)
  go_ret2
  exact ⟨rfl, rfl⟩
theorem compared_no19 (x y : Int) (w : World) : Calls Tryz.prog 176 #[.int .i64 19, .int .u16 x, .int .u16 y] w fun e w' => e = .returned (.tuple #[.int .u16 0, .bool false]) ∧ w = w' := by
  go_enter Tryz.func176, Tryz.ntmps176
  go_wp2
  go_ret2
  exact ⟨rfl, rfl⟩
theorem binary_no19 (x y : Int) (w : World) : Calls Tryz.prog 157 #[.int .i64 19, .int .u16 x, .int .u16 y] w fun e w' => e = .returned (.tuple #[.int .u16 0, .bool false]) ∧ w = w' := by
  go_enter Tryz.func157, Tryz.ntmps157
  go_wp2_with (go_at_call 176; refine (compared_no19 _ _ _).mono ?_; rintro e w' ⟨rfl, rfl⟩)
  go_ret2
  exact ⟨rfl, rfl⟩
theorem compared_no20 (x y : Int) (w : World) : Calls Tryz.prog 176 #[.int .i64 20, .int .u16 x, .int .u16 y] w fun e w' => e = .returned (.tuple #[.int .u16 0, .bool false]) ∧ w = w' := by
  go_enter Tryz.func176, Tryz.ntmps176
  go_wp2
  go_ret2
  exact ⟨rfl, rfl⟩
theorem binary_no20 (x y : Int) (w : World) : Calls Tryz.prog 157 #[.int .i64 20, .int .u16 x, .int .u16 y] w fun e w' => e = .returned (.tuple #[.int .u16 0, .bool false]) ∧ w = w' := by
  go_enter Tryz.func157, Tryz.ntmps157
  go_wp2_with (go_at_call 176; refine (compared_no20 _ _ _).mono ?_; rintro e w' ⟨rfl, rfl⟩)
  go_ret2
  exact ⟨rfl, rfl⟩
theorem compared_no50 (x y : Int) (w : World) : Calls Tryz.prog 176 #[.int .i64 50, .int .u16 x, .int .u16 y] w fun e w' => e = .returned (.tuple #[.int .u16 0, .bool false]) ∧ w = w' := by
  go_enter Tryz.func176, Tryz.ntmps176
  go_wp2
  go_ret2
  exact ⟨rfl, rfl⟩
theorem binary_no50 (x y : Int) (w : World) : Calls Tryz.prog 157 #[.int .i64 50, .int .u16 x, .int .u16 y] w fun e w' => e = .returned (.tuple #[.int .u16 0, .bool false]) ∧ w = w' := by
  go_enter Tryz.func157, Tryz.ntmps157
  go_wp2_with (go_at_call 176; refine (compared_no50 _ _ _).mono ?_; rintro e w' ⟨rfl, rfl⟩)
  go_ret2
  exact ⟨rfl, rfl⟩
theorem compared_no51 (x y : Int) (w : World) : Calls Tryz.prog 176 #[.int .i64 51, .int .u16 x, .int .u16 y] w fun e w' => e = .returned (.tuple #[.int .u16 0, .bool false]) ∧ w = w' := by
  go_enter Tryz.func176, Tryz.ntmps176
  go_wp2
  go_ret2
  exact ⟨rfl, rfl⟩
theorem binary_no51 (x y : Int) (w : World) : Calls Tryz.prog 157 #[.int .i64 51, .int .u16 x, .int .u16 y] w fun e w' => e = .returned (.tuple #[.int .u16 0, .bool false]) ∧ w = w' := by
  go_enter Tryz.func157, Tryz.ntmps157
  go_wp2_with (go_at_call 176; refine (compared_no51 _ _ _).mono ?_; rintro e w' ⟨rfl, rfl⟩)
  go_ret2
  exact ⟨rfl, rfl⟩
theorem compared_no52 (x y : Int) (w : World) : Calls Tryz.prog 176 #[.int .i64 52, .int .u16 x, .int .u16 y] w fun e w' => e = .returned (.tuple #[.int .u16 0, .bool false]) ∧ w = w' := by
  go_enter Tryz.func176, Tryz.ntmps176
  go_wp2
  go_ret2
  exact ⟨rfl, rfl⟩
theorem binary_no52 (x y : Int) (w : World) : Calls Tryz.prog 157 #[.int .i64 52, .int .u16 x, .int .u16 y] w fun e w' => e = .returned (.tuple #[.int .u16 0, .bool false]) ∧ w = w' := by
  go_enter Tryz.func157, Tryz.ntmps157
  go_wp2_with (go_at_call 176; refine (compared_no52 _ _ _).mono ?_; rintro e w' ⟨rfl, rfl⟩)
  go_ret2
  exact ⟨rfl, rfl⟩
theorem compared_no53 (x y : Int) (w : World) : Calls Tryz.prog 176 #[.int .i64 53, .int .u16 x, .int .u16 y] w fun e w' => e = .returned (.tuple #[.int .u16 0, .bool false]) ∧ w = w' := by
  go_enter Tryz.func176, Tryz.ntmps176
  go_wp2
  go_ret2
  exact ⟨rfl, rfl⟩
theorem binary_no53 (x y : Int) (w : World) : Calls Tryz.prog 157 #[.int .i64 53, .int .u16 x, .int .u16 y] w fun e w' => e = .returned (.tuple #[.int .u16 0, .bool false]) ∧ w = w' := by
  go_enter Tryz.func157, Tryz.ntmps157
  go_wp2_with (go_at_call 176; refine (compared_no53 _ _ _).mono ?_; rintro e w' ⟨rfl, rfl⟩)
  go_ret2
  exact ⟨rfl, rfl⟩
theorem compared_no54 (x y : Int) (w : World) : Calls Tryz.prog 176 #[.int .i64 54, .int .u16 x, .int .u16 y] w fun e w' => e = .returned (.tuple #[.int .u16 0, .bool false]) ∧ w = w' := by
  go_enter Tryz.func176, Tryz.ntmps176
  go_wp2
  go_ret2
  exact ⟨rfl, rfl⟩
theorem binary_no54 (x y : Int) (w : World) : Calls Tryz.prog 157 #[.int .i64 54, .int .u16 x, .int .u16 y] w fun e w' => e = .returned (.tuple #[.int .u16 0, .bool false]) ∧ w = w' := by
  go_enter Tryz.func157, Tryz.ntmps157
  go_wp2_with (go_at_call 176; refine (compared_no54 _ _ _).mono ?_; rintro e w' ⟨rfl, rfl⟩)
  go_ret2
  exact ⟨rfl, rfl⟩
theorem compared_no55 (x y : Int) (w : World) : Calls Tryz.prog 176 #[.int .i64 55, .int .u16 x, .int .u16 y] w fun e w' => e = .returned (.tuple #[.int .u16 0, .bool false]) ∧ w = w' := by
  go_enter Tryz.func176, Tryz.ntmps176
  go_wp2
  go_ret2
  exact ⟨rfl, rfl⟩
theorem binary_no55 (x y : Int) (w : World) : Calls Tryz.prog 157 #[.int .i64 55, .int .u16 x, .int .u16 y] w fun e w' => e = .returned (.tuple #[.int .u16 0, .bool false]) ∧ w = w' := by
  go_enter Tryz.func157, Tryz.ntmps157
  go_wp2_with (go_at_call 176; refine (compared_no55 _ _ _).mono ?_; rintro e w' ⟨rfl, rfl⟩)
  go_ret2
  exact ⟨rfl, rfl⟩
theorem compared_no56 (x y : Int) (w : World) : Calls Tryz.prog 176 #[.int .i64 56, .int .u16 x, .int .u16 y] w fun e w' => e = .returned (.tuple #[.int .u16 0, .bool false]) ∧ w = w' := by
  go_enter Tryz.func176, Tryz.ntmps176
  go_wp2
  go_ret2
  exact ⟨rfl, rfl⟩
theorem binary_no56 (x y : Int) (w : World) : Calls Tryz.prog 157 #[.int .i64 56, .int .u16 x, .int .u16 y] w fun e w' => e = .returned (.tuple #[.int .u16 0, .bool false]) ∧ w = w' := by
  go_enter Tryz.func157, Tryz.ntmps157
  go_wp2_with (go_at_call 176; refine (compared_no56 _ _ _).mono ?_; rintro e w' ⟨rfl, rfl⟩)
  go_ret2
  exact ⟨rfl, rfl⟩
theorem compared_no57 (x y : Int) (w : World) : Calls Tryz.prog 176 #[.int .i64 57, .int .u16 x, .int .u16 y] w fun e w' => e = .returned (.tuple #[.int .u16 0, .bool false]) ∧ w = w' := by
  go_enter Tryz.func176, Tryz.ntmps176
  go_wp2
  go_ret2
  exact ⟨rfl, rfl⟩
theorem binary_no57 (x y : Int) (w : World) : Calls Tryz.prog 157 #[.int .i64 57, .int .u16 x, .int .u16 y] w fun e w' => e = .returned (.tuple #[.int .u16 0, .bool false]) ∧ w = w' := by
  go_enter Tryz.func157, Tryz.ntmps157
  go_wp2_with (go_at_call 176; refine (compared_no57 _ _ _).mono ?_; rintro e w' ⟨rfl, rfl⟩)
  go_ret2
  exact ⟨rfl, rfl⟩
theorem compared_no58 (x y : Int) (w : World) : Calls Tryz.prog 176 #[.int .i64 58, .int .u16 x, .int .u16 y] w fun e w' => e = .returned (.tuple #[.int .u16 0, .bool false]) ∧ w = w' := by
  go_enter Tryz.func176, Tryz.ntmps176
  go_wp2
  go_ret2
  exact ⟨rfl, rfl⟩
theorem binary_no58 (x y : Int) (w : World) : Calls Tryz.prog 157 #[.int .i64 58, .int .u16 x, .int .u16 y] w fun e w' => e = .returned (.tuple #[.int .u16 0, .bool false]) ∧ w = w' := by
  go_enter Tryz.func157, Tryz.ntmps157
  go_wp2_with (go_at_call 176; refine (compared_no58 _ _ _).mono ?_; rintro e w' ⟨rfl, rfl⟩)
  go_ret2
  exact ⟨rfl, rfl⟩
theorem compared_no59 (x y : Int) (w : World) : Calls Tryz.prog 176 #[.int .i64 59, .int .u16 x, .int .u16 y] w fun e w' => e = .returned (.tuple #[.int .u16 0, .bool false]) ∧ w = w' := by
  go_enter Tryz.func176, Tryz.ntmps176
  go_wp2
  go_ret2
  exact ⟨rfl, rfl⟩
theorem binary_no59 (x y : Int) (w : World) : Calls Tryz.prog 157 #[.int .i64 59, .int .u16 x, .int .u16 y] w fun e w' => e = .returned (.tuple #[.int .u16 0, .bool false]) ∧ w = w' := by
  go_enter Tryz.func157, Tryz.ntmps157
  go_wp2_with (go_at_call 176; refine (compared_no59 _ _ _).mono ?_; rintro e w' ⟨rfl, rfl⟩)
  go_ret2
  exact ⟨rfl, rfl⟩
theorem compared_no60 (x y : Int) (w : World) : Calls Tryz.prog 176 #[.int .i64 60, .int .u16 x, .int .u16 y] w fun e w' => e = .returned (.tuple #[.int .u16 0, .bool false]) ∧ w = w' := by
  go_enter Tryz.func176, Tryz.ntmps176
  go_wp2
  go_ret2
  exact ⟨rfl, rfl⟩
theorem binary_no60 (x y : Int) (w : World) : Calls Tryz.prog 157 #[.int .i64 60, .int .u16 x, .int .u16 y] w fun e w' => e = .returned (.tuple #[.int .u16 0, .bool false]) ∧ w = w' := by
  go_enter Tryz.func157, Tryz.ntmps157
  go_wp2_with (go_at_call 176; refine (compared_no60 _ _ _).mono ?_; rintro e w' ⟨rfl, rfl⟩)
  go_ret2
  exact ⟨rfl, rfl⟩
theorem compared_no61 (x y : Int) (w : World) : Calls Tryz.prog 176 #[.int .i64 61, .int .u16 x, .int .u16 y] w fun e w' => e = .returned (.tuple #[.int .u16 0, .bool false]) ∧ w = w' := by
  go_enter Tryz.func176, Tryz.ntmps176
  go_wp2
  go_ret2
  exact ⟨rfl, rfl⟩
theorem binary_no61 (x y : Int) (w : World) : Calls Tryz.prog 157 #[.int .i64 61, .int .u16 x, .int .u16 y] w fun e w' => e = .returned (.tuple #[.int .u16 0, .bool false]) ∧ w = w' := by
  go_enter Tryz.func157, Tryz.ntmps157
  go_wp2_with (go_at_call 176; refine (compared_no61 _ _ _).mono ?_; rintro e w' ⟨rfl, rfl⟩)
  go_ret2
  exact ⟨rfl, rfl⟩
theorem compared_no62 (x y : Int) (w : World) : Calls Tryz.prog 176 #[.int .i64 62, .int .u16 x, .int .u16 y] w fun e w' => e = .returned (.tuple #[.int .u16 0, .bool false]) ∧ w = w' := by
  go_enter Tryz.func176, Tryz.ntmps176
  go_wp2
  go_ret2
  exact ⟨rfl, rfl⟩
theorem binary_no62 (x y : Int) (w : World) : Calls Tryz.prog 157 #[.int .i64 62, .int .u16 x, .int .u16 y] w fun e w' => e = .returned (.tuple #[.int .u16 0, .bool false]) ∧ w = w' := by
  go_enter Tryz.func157, Tryz.ntmps157
  go_wp2_with (go_at_call 176; refine (compared_no62 _ _ _).mono ?_; rintro e w' ⟨rfl, rfl⟩)
  go_ret2
  exact ⟨rfl, rfl⟩
theorem compared_no63 (x y : Int) (w : World) : Calls Tryz.prog 176 #[.int .i64 63, .int .u16 x, .int .u16 y] w fun e w' => e = .returned (.tuple #[.int .u16 0, .bool false]) ∧ w = w' := by
  go_enter Tryz.func176, Tryz.ntmps176
  go_wp2
  go_ret2
  exact ⟨rfl, rfl⟩
theorem binary_no63 (x y : Int) (w : World) : Calls Tryz.prog 157 #[.int .i64 63, .int .u16 x, .int .u16 y] w fun e w' => e = .returned (.tuple #[.int .u16 0, .bool false]) ∧ w = w' := by
  go_enter Tryz.func157, Tryz.ntmps157
  go_wp2_with (go_at_call 176; refine (compared_no63 _ _ _).mono ?_; rintro e w' ⟨rfl, rfl⟩)
  go_ret2
  exact ⟨rfl, rfl⟩
end Go.Proofs.YtdnalhjdmlkbmaaGreatDoor
namespace Go.Proofs.YtdnalhjdmlkbmaaGreatDoor
open Go.RowKit

/-- What a shuffle's closure holds. -/
def ShufCl (n : Nat) (ps : List Nat) (w : World) (G : Nat → Nat) (c : Array Value) : Prop :=
  ∃ B1 B2 la lc, c = #[.pointer (some ⟨B1, 0, none⟩), .pointer (some ⟨B2, 0, none⟩)] ∧ w.cell? ⟨B1, 0, none⟩ = some (.int .i64 n) ∧ G B1 = 0 ∧ w.cell? ⟨B2, 0, none⟩ = some (.slice la ps.length lc) ∧ G B2 = 0 ∧
    Reads w la (cellsI ps) ∧ ∀ ad, la = some ad → G ad.block = 0 ∧ ad.block < w.heap.size
theorem ShufCl.adv {n : Nat} {ps : List Nat} {S : Nat → Prop} {w w' : World} {G G' : Nat → Nat} {c : Array Value} (h : ShufCl n ps w G c) (ha : Adv S w G w' G') (hs : ¬ S 0) : ShufCl n ps w' G' c := by
  obtain ⟨B1, B2, la, lc, h1, h2, h3, h4, h5, h6, h7⟩ := h
  exact ⟨B1, B2, la, lc, h1, ha.cell_some h2 (by rw [h3]; exact hs), (ha.own _ (World.block_lt_of_cell? w _ h2)).trans h3, ha.cell_some h4 (by rw [h5]; exact hs), (ha.own _ (World.block_lt_of_cell? w _ h4)).trans h5,
    h6.adv ha (fun ad e => by rw [(h7 ad e).1]; exact hs), fun ad e => ⟨(ha.own _ (h7 ad e).2).trans (h7 ad e).1, Nat.lt_of_lt_of_le (h7 ad e).2 ha.size⟩⟩
theorem shufCl_new (w : World) (G : Nat → Nat) (n : Nat) (ps : List Nat) :
    ∃ G', Adv (fun _ => False) w G (((w.alloc (.cells (cellsI ps).toArray 3)).alloc (.cells #[.int .i64 n] 3)).alloc (.cells #[.slice (some ⟨w.heap.size, 0, none⟩) ps.length ps.length] 25)) G' ∧
      ShufCl n ps (((w.alloc (.cells (cellsI ps).toArray 3)).alloc (.cells #[.int .i64 n] 3)).alloc (.cells #[.slice (some ⟨w.heap.size, 0, none⟩) ps.length ps.length] 25)) G' #[.pointer (some ⟨w.heap.size + 1, 0, none⟩), .pointer (some ⟨w.heap.size + 2, 0, none⟩)] := by
  have h1 := (Adv.refl (fun _ => False) w G).alloc (.cells (cellsI ps).toArray 3) 0
  have h2 := h1.alloc (.cells #[.int .i64 n] 3) 0
  have h3 := h2.alloc (.cells #[.slice (some ⟨w.heap.size, 0, none⟩) ps.length ps.length] 25) 0
  refine ⟨_, h3, w.heap.size + 1, w.heap.size + 2, some ⟨w.heap.size, 0, none⟩, ps.length, rfl, ?_, ?_, ?_, ?_, ((Reads.new w (cellsI ps) 3).alloc _).alloc _, ?_⟩
  · exact block_cell (C := #[.int .i64 n]) (T := 3) ((heap_past _ _ _ (by simp)).trans (heap_at _ _ _ (by simp))) 0 _ rfl
  · simp [own1]
  · exact block_cell (C := #[.slice (some ⟨w.heap.size, 0, none⟩) ps.length ps.length]) (T := 25) (heap_at _ _ _ (by simp)) 0 _ rfl
  · simp [own1]
  · rintro ad ⟨⟩; simp [own1]; omega
theorem shufCl_nil (w : World) (G : Nat → Nat) (n : Nat) :
    ∃ G', Adv (fun _ => False) w G ((w.alloc (.cells #[.int .i64 n] 3)).alloc (.cells #[.slice none 0 0] 25)) G' ∧
      ShufCl n [] ((w.alloc (.cells #[.int .i64 n] 3)).alloc (.cells #[.slice none 0 0] 25)) G' #[.pointer (some ⟨w.heap.size, 0, none⟩), .pointer (some ⟨w.heap.size + 1, 0, none⟩)] := by
  have h2 := (Adv.refl (fun _ => False) w G).alloc (.cells #[.int .i64 n] 3) 0
  have h3 := h2.alloc (.cells #[.slice none 0 0] 25) 0
  refine ⟨_, h3, w.heap.size, w.heap.size + 1, none, 0, rfl, ?_, ?_, ?_, ?_, .inl rfl, ?_⟩
  · exact block_cell (C := #[.int .i64 n]) (T := 3) ((heap_past _ _ _ (by simp)).trans (heap_at _ _ _ (by simp))) 0 _ rfl
  · simp [own1]
  · exact block_cell (C := #[.slice none 0 0]) (T := 25) (heap_at _ _ _ (by simp)) 0 _ rfl
  · simp [own1]
  · rintro ad ⟨⟩

set_option maxRecDepth 100000 in
theorem does_12 (G : Nat → Nat) (w : World) : Calls Tryz.prog 123 #[.int .i64 12] w fun e w' => ∃ c G', e = .returned (.func (.func 178) #[] c) ∧ Adv (fun _ => False) w G w' G' ∧ ShufCl 1 [0, 0] w' G' c := by
  have hmf : ∀ (fn : Fn) (first cap : Array Value) (w : World), (Instr.makeFunc fn first cap).run Tryz.prog w = .ok (.func fn first cap) w := fun _ _ _ _ => rfl
  go_enter Tryz.func123, Tryz.ntmps123
  go_wp2_with (first | (go_at_call 155; refine (unary_no12 _ _).mono ?_; rintro e w' ⟨rfl, rfl⟩) | (go_at_call 157; refine (binary_no12 _ _ _).mono ?_; rintro e w' ⟨rfl, rfl⟩) | (go_at_call 160; go_in))
  go_ret
  obtain ⟨G', h1, h2⟩ := shufCl_new w G 1 [0, 0]
  exact ⟨_, G', rfl, h1, h2⟩
set_option maxRecDepth 100000 in
theorem does_13 (G : Nat → Nat) (w : World) : Calls Tryz.prog 123 #[.int .i64 13] w fun e w' => ∃ c G', e = .returned (.func (.func 178) #[] c) ∧ Adv (fun _ => False) w G w' G' ∧ ShufCl 1 [] w' G' c := by
  have hmf : ∀ (fn : Fn) (first cap : Array Value) (w : World), (Instr.makeFunc fn first cap).run Tryz.prog w = .ok (.func fn first cap) w := fun _ _ _ _ => rfl
  go_enter Tryz.func123, Tryz.ntmps123
  go_wp2_with (first | (go_at_call 155; refine (unary_no13 _ _).mono ?_; rintro e w' ⟨rfl, rfl⟩) | (go_at_call 157; refine (binary_no13 _ _ _).mono ?_; rintro e w' ⟨rfl, rfl⟩) | (go_at_call 160; go_in))
  go_ret
  obtain ⟨G', h1, h2⟩ := shufCl_nil w G 1
  exact ⟨_, G', rfl, h1, h2⟩
set_option maxRecDepth 100000 in
theorem does_14 (G : Nat → Nat) (w : World) : Calls Tryz.prog 123 #[.int .i64 14] w fun e w' => ∃ c G', e = .returned (.func (.func 178) #[] c) ∧ Adv (fun _ => False) w G w' G' ∧ ShufCl 2 [1, 0] w' G' c := by
  have hmf : ∀ (fn : Fn) (first cap : Array Value) (w : World), (Instr.makeFunc fn first cap).run Tryz.prog w = .ok (.func fn first cap) w := fun _ _ _ _ => rfl
  go_enter Tryz.func123, Tryz.ntmps123
  go_wp2_with (first | (go_at_call 155; refine (unary_no14 _ _).mono ?_; rintro e w' ⟨rfl, rfl⟩) | (go_at_call 157; refine (binary_no14 _ _ _).mono ?_; rintro e w' ⟨rfl, rfl⟩) | (go_at_call 160; go_in))
  go_ret
  obtain ⟨G', h1, h2⟩ := shufCl_new w G 2 [1, 0]
  exact ⟨_, G', rfl, h1, h2⟩
set_option maxRecDepth 100000 in
theorem does_15 (G : Nat → Nat) (w : World) : Calls Tryz.prog 123 #[.int .i64 15] w fun e w' => ∃ c G', e = .returned (.func (.func 178) #[] c) ∧ Adv (fun _ => False) w G w' G' ∧ ShufCl 2 [0, 1, 0] w' G' c := by
  have hmf : ∀ (fn : Fn) (first cap : Array Value) (w : World), (Instr.makeFunc fn first cap).run Tryz.prog w = .ok (.func fn first cap) w := fun _ _ _ _ => rfl
  go_enter Tryz.func123, Tryz.ntmps123
  go_wp2_with (first | (go_at_call 155; refine (unary_no15 _ _).mono ?_; rintro e w' ⟨rfl, rfl⟩) | (go_at_call 157; refine (binary_no15 _ _ _).mono ?_; rintro e w' ⟨rfl, rfl⟩) | (go_at_call 160; go_in))
  go_ret
  obtain ⟨G', h1, h2⟩ := shufCl_new w G 2 [0, 1, 0]
  exact ⟨_, G', rfl, h1, h2⟩
set_option maxRecDepth 100000 in
theorem does_16 (G : Nat → Nat) (w : World) : Calls Tryz.prog 123 #[.int .i64 16] w fun e w' => ∃ c G', e = .returned (.func (.func 178) #[] c) ∧ Adv (fun _ => False) w G w' G' ∧ ShufCl 3 [1, 2, 0] w' G' c := by
  have hmf : ∀ (fn : Fn) (first cap : Array Value) (w : World), (Instr.makeFunc fn first cap).run Tryz.prog w = .ok (.func fn first cap) w := fun _ _ _ _ => rfl
  go_enter Tryz.func123, Tryz.ntmps123
  go_wp2_with (first | (go_at_call 155; refine (unary_no16 _ _).mono ?_; rintro e w' ⟨rfl, rfl⟩) | (go_at_call 157; refine (binary_no16 _ _ _).mono ?_; rintro e w' ⟨rfl, rfl⟩) | (go_at_call 160; go_in))
  go_ret
  obtain ⟨G', h1, h2⟩ := shufCl_new w G 3 [1, 2, 0]
  exact ⟨_, G', rfl, h1, h2⟩
set_option maxRecDepth 100000 in
theorem does_17 (G : Nat → Nat) (w : World) : Calls Tryz.prog 123 #[.int .i64 17] w fun e w' => ∃ c G', e = .returned (.func (.func 178) #[] c) ∧ Adv (fun _ => False) w G w' G' ∧ ShufCl 2 [1] w' G' c := by
  have hmf : ∀ (fn : Fn) (first cap : Array Value) (w : World), (Instr.makeFunc fn first cap).run Tryz.prog w = .ok (.func fn first cap) w := fun _ _ _ _ => rfl
  go_enter Tryz.func123, Tryz.ntmps123
  go_wp2_with (first | (go_at_call 155; refine (unary_no17 _ _).mono ?_; rintro e w' ⟨rfl, rfl⟩) | (go_at_call 157; refine (binary_no17 _ _ _).mono ?_; rintro e w' ⟨rfl, rfl⟩) | (go_at_call 160; go_in))
  go_ret
  obtain ⟨G', h1, h2⟩ := shufCl_new w G 2 [1]
  exact ⟨_, G', rfl, h1, h2⟩
set_option maxRecDepth 100000 in
theorem does_18 (G : Nat → Nat) (w : World) : Calls Tryz.prog 123 #[.int .i64 18] w fun e w' => ∃ c G', e = .returned (.func (.func 178) #[] c) ∧ Adv (fun _ => False) w G w' G' ∧ ShufCl 2 [1, 0, 1] w' G' c := by
  have hmf : ∀ (fn : Fn) (first cap : Array Value) (w : World), (Instr.makeFunc fn first cap).run Tryz.prog w = .ok (.func fn first cap) w := fun _ _ _ _ => rfl
  go_enter Tryz.func123, Tryz.ntmps123
  go_wp2_with (first | (go_at_call 155; refine (unary_no18 _ _).mono ?_; rintro e w' ⟨rfl, rfl⟩) | (go_at_call 157; refine (binary_no18 _ _ _).mono ?_; rintro e w' ⟨rfl, rfl⟩) | (go_at_call 160; go_in))
  go_ret
  obtain ⟨G', h1, h2⟩ := shufCl_new w G 2 [1, 0, 1]
  exact ⟨_, G', rfl, h1, h2⟩
set_option maxRecDepth 100000 in
theorem does_19 (G : Nat → Nat) (w : World) : Calls Tryz.prog 123 #[.int .i64 19] w fun e w' => ∃ c G', e = .returned (.func (.func 178) #[] c) ∧ Adv (fun _ => False) w G w' G' ∧ ShufCl 2 [0, 1, 0, 1] w' G' c := by
  have hmf : ∀ (fn : Fn) (first cap : Array Value) (w : World), (Instr.makeFunc fn first cap).run Tryz.prog w = .ok (.func fn first cap) w := fun _ _ _ _ => rfl
  go_enter Tryz.func123, Tryz.ntmps123
  go_wp2_with (first | (go_at_call 155; refine (unary_no19 _ _).mono ?_; rintro e w' ⟨rfl, rfl⟩) | (go_at_call 157; refine (binary_no19 _ _ _).mono ?_; rintro e w' ⟨rfl, rfl⟩) | (go_at_call 160; go_in))
  go_ret
  obtain ⟨G', h1, h2⟩ := shufCl_new w G 2 [0, 1, 0, 1]
  exact ⟨_, G', rfl, h1, h2⟩
set_option maxRecDepth 100000 in
theorem does_20 (G : Nat → Nat) (w : World) : Calls Tryz.prog 123 #[.int .i64 20] w fun e w' => ∃ c G', e = .returned (.func (.func 178) #[] c) ∧ Adv (fun _ => False) w G w' G' ∧ ShufCl 2 [] w' G' c := by
  have hmf : ∀ (fn : Fn) (first cap : Array Value) (w : World), (Instr.makeFunc fn first cap).run Tryz.prog w = .ok (.func fn first cap) w := fun _ _ _ _ => rfl
  go_enter Tryz.func123, Tryz.ntmps123
  go_wp2_with (first | (go_at_call 155; refine (unary_no20 _ _).mono ?_; rintro e w' ⟨rfl, rfl⟩) | (go_at_call 157; refine (binary_no20 _ _ _).mono ?_; rintro e w' ⟨rfl, rfl⟩) | (go_at_call 160; go_in))
  go_ret
  obtain ⟨G', h1, h2⟩ := shufCl_nil w G 2
  exact ⟨_, G', rfl, h1, h2⟩
theorem does_6 (w : World) : Calls Tryz.prog 123 #[.int .i64 6] w fun e w' => e = .returned (.func (.func 180) #[] #[]) ∧ w = w' := by
  go_enter Tryz.func123, Tryz.ntmps123
  go_wp2_with (first | (go_at_call 155; refine (unary_no6 _ _).mono ?_; rintro e w' ⟨rfl, rfl⟩) | (go_at_call 157; refine (binary_no6 _ _ _).mono ?_; rintro e w' ⟨rfl, rfl⟩) | (go_at_call 161; go_in))
  go_ret
  exact ⟨rfl, rfl⟩
theorem does_50 (w : World) : Calls Tryz.prog 123 #[.int .i64 50] w fun e w' => e = .returned (.func (.func 181) #[] #[]) ∧ w = w' := by
  go_enter Tryz.func123, Tryz.ntmps123
  go_wp2_with (first | (go_at_call 155; refine (unary_no50 _ _).mono ?_; rintro e w' ⟨rfl, rfl⟩) | (go_at_call 157; refine (binary_no50 _ _ _).mono ?_; rintro e w' ⟨rfl, rfl⟩) | (go_at_call 161; go_in))
  go_ret
  exact ⟨rfl, rfl⟩
theorem does_51 (w : World) : Calls Tryz.prog 123 #[.int .i64 51] w fun e w' => e = .returned (.func (.func 182) #[] #[]) ∧ w = w' := by
  go_enter Tryz.func123, Tryz.ntmps123
  go_wp2_with (first | (go_at_call 155; refine (unary_no51 _ _).mono ?_; rintro e w' ⟨rfl, rfl⟩) | (go_at_call 157; refine (binary_no51 _ _ _).mono ?_; rintro e w' ⟨rfl, rfl⟩) | (go_at_call 161; go_in))
  go_ret
  exact ⟨rfl, rfl⟩
theorem does_52 (w : World) : Calls Tryz.prog 123 #[.int .i64 52] w fun e w' => e = .returned (.func (.func 183) #[] #[]) ∧ w = w' := by
  go_enter Tryz.func123, Tryz.ntmps123
  go_wp2_with (first | (go_at_call 155; refine (unary_no52 _ _).mono ?_; rintro e w' ⟨rfl, rfl⟩) | (go_at_call 157; refine (binary_no52 _ _ _).mono ?_; rintro e w' ⟨rfl, rfl⟩) | (go_at_call 161; go_in))
  go_ret
  exact ⟨rfl, rfl⟩
theorem does_53 (w : World) : Calls Tryz.prog 123 #[.int .i64 53] w fun e w' => e = .returned (.func (.func 184) #[] #[]) ∧ w = w' := by
  go_enter Tryz.func123, Tryz.ntmps123
  go_wp2_with (first | (go_at_call 155; refine (unary_no53 _ _).mono ?_; rintro e w' ⟨rfl, rfl⟩) | (go_at_call 157; refine (binary_no53 _ _ _).mono ?_; rintro e w' ⟨rfl, rfl⟩) | (go_at_call 161; go_in))
  go_ret
  exact ⟨rfl, rfl⟩
theorem does_54 (w : World) : Calls Tryz.prog 123 #[.int .i64 54] w fun e w' => e = .returned (.func (.func 185) #[] #[]) ∧ w = w' := by
  go_enter Tryz.func123, Tryz.ntmps123
  go_wp2_with (first | (go_at_call 155; refine (unary_no54 _ _).mono ?_; rintro e w' ⟨rfl, rfl⟩) | (go_at_call 157; refine (binary_no54 _ _ _).mono ?_; rintro e w' ⟨rfl, rfl⟩) | (go_at_call 161; go_in))
  go_ret
  exact ⟨rfl, rfl⟩
theorem does_55 (w : World) : Calls Tryz.prog 123 #[.int .i64 55] w fun e w' => e = .returned (.func (.func 186) #[] #[]) ∧ w = w' := by
  go_enter Tryz.func123, Tryz.ntmps123
  go_wp2_with (first | (go_at_call 155; refine (unary_no55 _ _).mono ?_; rintro e w' ⟨rfl, rfl⟩) | (go_at_call 157; refine (binary_no55 _ _ _).mono ?_; rintro e w' ⟨rfl, rfl⟩) | (go_at_call 161; go_in))
  go_ret
  exact ⟨rfl, rfl⟩
theorem does_56 (w : World) : Calls Tryz.prog 123 #[.int .i64 56] w fun e w' => e = .returned (.func (.func 187) #[] #[]) ∧ w = w' := by
  go_enter Tryz.func123, Tryz.ntmps123
  go_wp2_with (first | (go_at_call 155; refine (unary_no56 _ _).mono ?_; rintro e w' ⟨rfl, rfl⟩) | (go_at_call 157; refine (binary_no56 _ _ _).mono ?_; rintro e w' ⟨rfl, rfl⟩) | (go_at_call 161; go_in))
  go_ret
  exact ⟨rfl, rfl⟩
theorem does_57 (w : World) : Calls Tryz.prog 123 #[.int .i64 57] w fun e w' => e = .returned (.func (.func 188) #[] #[]) ∧ w = w' := by
  go_enter Tryz.func123, Tryz.ntmps123
  go_wp2_with (first | (go_at_call 155; refine (unary_no57 _ _).mono ?_; rintro e w' ⟨rfl, rfl⟩) | (go_at_call 157; refine (binary_no57 _ _ _).mono ?_; rintro e w' ⟨rfl, rfl⟩) | (go_at_call 161; go_in))
  go_ret
  exact ⟨rfl, rfl⟩
theorem does_58 (w : World) : Calls Tryz.prog 123 #[.int .i64 58] w fun e w' => e = .returned (.func (.func 189) #[] #[]) ∧ w = w' := by
  go_enter Tryz.func123, Tryz.ntmps123
  go_wp2_with (first | (go_at_call 155; refine (unary_no58 _ _).mono ?_; rintro e w' ⟨rfl, rfl⟩) | (go_at_call 157; refine (binary_no58 _ _ _).mono ?_; rintro e w' ⟨rfl, rfl⟩) | (go_at_call 161; go_in))
  go_ret
  exact ⟨rfl, rfl⟩
theorem does_59 (w : World) : Calls Tryz.prog 123 #[.int .i64 59] w fun e w' => e = .returned (.func (.func 190) #[] #[]) ∧ w = w' := by
  go_enter Tryz.func123, Tryz.ntmps123
  go_wp2_with (first | (go_at_call 155; refine (unary_no59 _ _).mono ?_; rintro e w' ⟨rfl, rfl⟩) | (go_at_call 157; refine (binary_no59 _ _ _).mono ?_; rintro e w' ⟨rfl, rfl⟩) | (go_at_call 161; go_in))
  go_ret
  exact ⟨rfl, rfl⟩
theorem does_60 (w : World) : Calls Tryz.prog 123 #[.int .i64 60] w fun e w' => e = .returned (.func (.func 191) #[] #[]) ∧ w = w' := by
  go_enter Tryz.func123, Tryz.ntmps123
  go_wp2_with (first | (go_at_call 155; refine (unary_no60 _ _).mono ?_; rintro e w' ⟨rfl, rfl⟩) | (go_at_call 157; refine (binary_no60 _ _ _).mono ?_; rintro e w' ⟨rfl, rfl⟩) | (go_at_call 161; go_in))
  go_ret
  exact ⟨rfl, rfl⟩
theorem does_61 (w : World) : Calls Tryz.prog 123 #[.int .i64 61] w fun e w' => e = .returned (.func (.func 192) #[] #[]) ∧ w = w' := by
  go_enter Tryz.func123, Tryz.ntmps123
  go_wp2_with (first | (go_at_call 155; refine (unary_no61 _ _).mono ?_; rintro e w' ⟨rfl, rfl⟩) | (go_at_call 157; refine (binary_no61 _ _ _).mono ?_; rintro e w' ⟨rfl, rfl⟩) | (go_at_call 161; go_in))
  go_ret
  exact ⟨rfl, rfl⟩
theorem does_62 (w : World) : Calls Tryz.prog 123 #[.int .i64 62] w fun e w' => e = .returned (.func (.func 193) #[] #[]) ∧ w = w' := by
  go_enter Tryz.func123, Tryz.ntmps123
  go_wp2_with (first | (go_at_call 155; refine (unary_no62 _ _).mono ?_; rintro e w' ⟨rfl, rfl⟩) | (go_at_call 157; refine (binary_no62 _ _ _).mono ?_; rintro e w' ⟨rfl, rfl⟩) | (go_at_call 161; go_in))
  go_ret
  exact ⟨rfl, rfl⟩
theorem does_63 (w : World) : Calls Tryz.prog 123 #[.int .i64 63] w fun e w' => e = .returned (.func (.func 194) #[] #[]) ∧ w = w' := by
  go_enter Tryz.func123, Tryz.ntmps123
  go_wp2_with (first | (go_at_call 155; refine (unary_no63 _ _).mono ?_; rintro e w' ⟨rfl, rfl⟩) | (go_at_call 157; refine (binary_no63 _ _ _).mono ?_; rintro e w' ⟨rfl, rfl⟩) | (go_at_call 161; go_in))
  go_ret
  exact ⟨rfl, rfl⟩
theorem does_9 (w : World) : Calls Tryz.prog 123 #[.int .i64 9] w fun e w' => e = .returned (.func (.func 159) #[] #[]) ∧ w = w' := by
  go_enter Tryz.func123, Tryz.ntmps123
  go_wp2_with (first | (go_at_call 155; refine (unary_no9 _ _).mono ?_; rintro e w' ⟨rfl, rfl⟩) | (go_at_call 157; refine (binary_no9 _ _ _).mono ?_; rintro e w' ⟨rfl, rfl⟩))
  go_ret
  exact ⟨rfl, rfl⟩
end Go.Proofs.YtdnalhjdmlkbmaaGreatDoor
namespace Go.Proofs.YtdnalhjdmlkbmaaGreatDoor
open Go.RowKit

set_option maxRecDepth 100000 in
theorem of_in (G : Nat → Nat) (k : Nat) (h1 : 1 ≤ k) (hk : k < 64) (w : World) (ht : Tabs w G) :
    Calls Tryz.prog 27 #[.int .i64 k] w fun e w' => e = .returned (.tuple #[primV k, .int .i64 0]) ∧ ∃ G', Adv (fun _ => False) w G w' G' := by
  have a1 : decide ((k : Int) < 1) = false := by simp; omega
  have a2 : decide (64 ≤ (k : Int)) = false := by simp; omega
  have HT := Lib.hid (ht.adv ((Adv.refl (fun _ => False) w G).alloc (.cells #[.int .i64 0, .string ⟨#[]⟩, .int .i64 0, .int .i64 0, .int .i64 0, .bool false] 85) 0) id)
  clear ht
  go_enter Tryz.func27, Tryz.ntmps27
  go_wp2_with fail
  refine (primOf_any _ k hk _ HT.out).mono ?_
  rintro e w' ⟨rfl, G', ha⟩
  have hc := (ha.keep w.heap.size (by simp) id).trans (heap_alloc_new w _)
  have c0 := block_cell hc 0 _ rfl
  have c1 := block_cell hc 1 _ rfl
  have c2 := block_cell hc 2 _ rfl
  have c3 := block_cell hc 3 _ rfl
  have c4 := block_cell hc 4 _ rfl
  have c5 := block_cell hc 5 _ rfl
  have f0 := block_free hc
  have HA := Lib.hid (((Adv.refl (fun _ => False) w G).alloc _ 0).trans ha)
  clear ha hc
  unfold primV
  go_wp2
  exact bodyPost_ret (v := .tuple #[primV k, .int .i64 0]) (by simp [results, Tryz.results27, go_sem, primV, c0, c1, c2, c3, c4, c5]) rfl
    ⟨rfl, _, (((((HA.out.setNew (Nat.le_refl _) _).setNew (Nat.le_refl _) _).setNew (Nat.le_refl _) _).setNew (Nat.le_refl _) _).setNew (Nat.le_refl _) _).setNew (Nat.le_refl _) _⟩
theorem of_out (G : Nat → Nat) (x : Int) (hx : x < 1 ∨ 64 ≤ x) (w : World) :
    Calls Tryz.prog 27 #[.int .i64 x] w fun e w' => e = .returned (.tuple #[primV0, .int .i64 60]) ∧ ∃ G', Adv (fun _ => False) w G w' G' := by
  by_cases h : x < 1
  · have a1 : decide (x < 1) = true := by simpa using h
    go_enter Tryz.func27, Tryz.ntmps27
    go_wp2
    exact bodyPost_ret (v := .tuple #[primV0, .int .i64 60]) (by simp [results, Tryz.results27, go_sem, primV0]) rfl ⟨rfl, _, (Adv.refl _ w G).alloc _ 0⟩
  · have a1 : decide (x < 1) = false := by simpa using h
    have a2 : decide (64 ≤ x) = true := by simp; omega
    go_enter Tryz.func27, Tryz.ntmps27
    go_wp2
    exact bodyPost_ret (v := .tuple #[primV0, .int .i64 60]) (by simp [results, Tryz.results27, go_sem, primV0]) rfl ⟨rfl, _, (Adv.refl _ w G).alloc _ 0⟩
/-- Plain's answer. -/
def plainB (x : Int) : Bool := x == 9 || (x == 6 || decide (12 ≤ x ∧ x < 64))
theorem ret_bool {a b : Bool} (h : a = b) : Ending.returned (.bool a) = .returned (.bool b) := by rw [h]
theorem plain_any (x : Int) (w : World) : Calls Tryz.prog 24 #[.int .i64 x] w fun e w' => e = .returned (.bool (plainB x)) ∧ w = w' := by
  by_cases h9 : x = 9
  · subst h9
    go_enter Tryz.func24, Tryz.ntmps24
    go_wp2
    go_ret
    exact ⟨rfl, rfl⟩
  · by_cases h6 : x = 6
    · subst h6
      go_enter Tryz.func24, Tryz.ntmps24
      go_wp2
      go_ret
      exact ⟨rfl, rfl⟩
    · have e9 : (x == 9) = false := by simpa using h9
      have e6 : (x == 6) = false := by simpa using h6
      by_cases hl : 12 ≤ x
      · have el : decide (12 ≤ x) = true := by simpa using hl
        by_cases hh : x < 64
        · have eh : decide (x < 64) = true := by simpa using hh
          have hf : plainB x = true := by simp [plainB, hl, hh]
          have HF := Lib.hid hf
          clear hf
          go_enter Tryz.func24, Tryz.ntmps24
          go_wp2
          go_ret
          exact ⟨ret_bool HF.out.symm, rfl⟩
        · have eh : decide (x < 64) = false := by simpa using hh
          have hf : plainB x = false := by simp [plainB, h9, h6, hh]
          have HF := Lib.hid hf
          clear hf
          go_enter Tryz.func24, Tryz.ntmps24
          go_wp2
          go_ret
          exact ⟨ret_bool HF.out.symm, rfl⟩
      · have el : decide (12 ≤ x) = false := by simpa using hl
        have hf : plainB x = false := by simp [plainB, h9, h6, hl]
        have HF := Lib.hid hf
        clear hf
        go_enter Tryz.func24, Tryz.ntmps24
        go_wp2
        go_ret
        exact ⟨ret_bool HF.out.symm, rfl⟩
end Go.Proofs.YtdnalhjdmlkbmaaGreatDoor
namespace Go.Proofs.YtdnalhjdmlkbmaaGreatDoor
open Go.RowKit

/-- An entry. -/
def entryV (k : Nat) (v : Value) : Value := .agg #[.int .i64 k, .string (nameB k), .int .i64 (takesN k), .int .i64 (leavesN k), .int .i64 (costsN k), .bool (operandB k), v]
/-- What holds of a closure's captured values stays, whatever others do. -/
def Keeps (Cl : World → (Nat → Nat) → Array Value → Prop) : Prop := ∀ (S : Nat → Prop) (w w' : World) (G G' : Nat → Nat) (c : Array Value), Cl w G c → Adv S w G w' G' → ¬ S 0 → Cl w' G' c
/-- What does hands back for a number. -/
def DoesIs (k f : Nat) (Cl : World → (Nat → Nat) → Array Value → Prop) : Prop :=
  ∀ (G : Nat → Nat) (w : World), Calls Tryz.prog 123 #[.int .i64 k] w fun e w' => ∃ c G', e = .returned (.func (.func f) #[] c) ∧ Adv (fun _ => False) w G w' G' ∧ Cl w' G' c
set_option maxRecDepth 100000 in
set_option maxHeartbeats 400000 in
theorem entry_any (G : Nat → Nat) (k : Nat) (hk : k < 64) (f : Nat) (Cl : World → (Nat → Nat) → Array Value → Prop)
    (hd : DoesIs k f Cl) (hcl : Keeps Cl) (w : World) (ht : Tabs w G) :
    Calls Tryz.prog 76 #[.int .i64 k] w fun e w' => ∃ c G', e = .returned (entryV k (.func (.func f) #[] c)) ∧ Adv (fun _ => False) w G w' G' ∧ Cl w' G' c := by
  have hA0 := (Adv.refl (fun _ => False) w G).alloc (.cells #[.int .i64 0, .string ⟨#[]⟩, .int .i64 0, .int .i64 0, .int .i64 0, .bool false, .nilFunc] 174) 1000
  have HT := Lib.hid (ht.adv hA0 id)
  have HA0 := Lib.hid hA0
  have HC := Lib.hid hcl
  clear ht hcl hA0
  go_enter Tryz.func76, Tryz.ntmps76
  go_wp2_with fail
  refine (primOf_any _ k hk _ HT.out).mono ?_
  rintro e w1 ⟨rfl, G1, ha1⟩
  have HA1 := Lib.hid ha1
  clear ha1
  go_wp2_with fail
  refine (hd G1 _).mono ?_
  rintro e w2 ⟨c, G2, rfl, ha2, hc2⟩
  have ha := HA1.out.trans ha2
  have hc := (ha.keep w.heap.size (by simp) id).trans (heap_alloc_new w _)
  have c0 := block_cell hc 0 _ rfl
  have c1 := block_cell hc 1 _ rfl
  have c2 := block_cell hc 2 _ rfl
  have c3 := block_cell hc 3 _ rfl
  have c4 := block_cell hc 4 _ rfl
  have c5 := block_cell hc 5 _ rfl
  have c6 := block_cell hc 6 _ rfl
  have f0 := block_free hc
  have hs := HA0.out.trans ha
  have HS := Lib.hid hs
  have HC2 := Lib.hid hc2
  have hG : G2 w.heap.size = 1000 := (ha.own _ (by simp)).trans (own1_new _ _ _)
  have HG := Lib.hid hG
  clear ha hc hs ha2 hc2 hG
  unfold primV
  go_wp2
  refine bodyPost_ret (v := entryV k (.func (.func f) #[] c)) (by simp [results, Tryz.results76, go_sem, entryV, c0, c1, c2, c3, c4, c5, c6]) rfl ⟨c, G2, rfl, ?_, ?_⟩
  · exact ((((((HS.out.setNew (Nat.le_refl _) _).setNew (Nat.le_refl _) _).setNew (Nat.le_refl _) _).setNew (Nat.le_refl _) _).setNew (Nat.le_refl _) _).setNew (Nat.le_refl _) _).setNew (Nat.le_refl _) _
  · refine HC.out (fun i => i = 1000) w2 _ G2 G2 c HC2.out ?_ (by omega)
    exact (((((((Adv.refl (fun i => i = 1000) w2 G2).setCell HG.out _).setCell HG.out _).setCell HG.out _).setCell HG.out _).setCell HG.out _).setCell HG.out _).setCell HG.out _

/-- How many cells a primitive puts on the return stack. -/
def addsF (k : Int) : Int := if k = 55 then 1 else if k = 6 then 2 else 0
theorem adds_any (k : Int) (w : World) : Calls Tryz.prog 80 #[.int .i64 k] w fun e w' => e = .returned (.int .i64 (addsF k)) ∧ w = w' := by
  by_cases h1 : k = 55
  · subst h1
    go_enter Tryz.func80, Tryz.ntmps80
    go_wp2
    go_ret
    exact ⟨rfl, rfl⟩
  · by_cases h2 : k = 6
    · subst h2
      go_enter Tryz.func80, Tryz.ntmps80
      go_wp2
      go_ret
      exact ⟨rfl, rfl⟩
    · have e1 : (k == 55) = false := by simpa using h1
      have e2 : (k == 6) = false := by simpa using h2
      have HF := Lib.hid (show addsF k = 0 by simp [addsF, h1, h2])
      clear h1 h2
      go_enter Tryz.func80, Tryz.ntmps80
      go_wp2
      go_ret
      exact ⟨ret_int HF.out.symm, rfl⟩
/-- The fault of what a primitive looks at on the return stack. -/
def looksF (k : Int) (l : List (Int × Int)) : Int := if k = 56 ∨ k = 57 then atE l 0 4 else if k = 58 then atE l 0 3 else if k = 59 then atE l 2 3 else 0
theorem looks_any (G : Nat → Nat) (i R : Nat) (l : List (Int × Int)) (k : Int) (w : World) (hp : PR w G i R l) (hm : l.length ≤ 100000) :
    Calls Tryz.prog 78 #[.int .i64 k, .pointer (some ⟨R, 0, none⟩)] w fun e w' => e = .returned (.int .i64 (looksF k l)) ∧ ∃ d, w' = w.drewN d := by
  have at1 : ∀ (n : Int) (kind : Int) (w' : World), w = w' → Calls Tryz.prog 125 #[.pointer (some ⟨R, 0, none⟩), .int .i64 n, .int .i64 kind] w' fun e w' => e = .returned (.tuple #[.int .u16 (atV l n kind), .int .i64 (atE l n kind)]) ∧ ∃ d, w' = w.drewN d := by
    rintro n kind w' rfl
    exact atPR G i R l n kind w hp hm
  have AT := Lib.hid at1
  clear at1
  by_cases h1 : k = 56
  · subst h1
    go_enter Tryz.func78, Tryz.ntmps78
    go_wp2_with (go_at_call 125; refine (AT.out 0 4 _ rfl).mono ?_; rintro e w' ⟨rfl, d, rfl⟩)
    go_ret
    exact ⟨rfl, d, rfl⟩
  · by_cases h2 : k = 57
    · subst h2
      go_enter Tryz.func78, Tryz.ntmps78
      go_wp2_with (go_at_call 125; refine (AT.out 0 4 _ rfl).mono ?_; rintro e w' ⟨rfl, d, rfl⟩)
      go_ret
      exact ⟨rfl, d, rfl⟩
    · by_cases h3 : k = 58
      · subst h3
        go_enter Tryz.func78, Tryz.ntmps78
        go_wp2_with (go_at_call 125; refine (AT.out 0 3 _ rfl).mono ?_; rintro e w' ⟨rfl, d, rfl⟩)
        go_ret
        exact ⟨rfl, d, rfl⟩
      · by_cases h4 : k = 59
        · subst h4
          go_enter Tryz.func78, Tryz.ntmps78
          go_wp2_with (go_at_call 125; refine (AT.out 2 3 _ rfl).mono ?_; rintro e w' ⟨rfl, d, rfl⟩)
          go_ret
          exact ⟨rfl, d, rfl⟩
        · have e1 : (k == 56) = false := by simpa using h1
          have e2 : (k == 57) = false := by simpa using h2
          have e3 : (k == 58) = false := by simpa using h3
          have e4 : (k == 59) = false := by simpa using h4
          have HF := Lib.hid (show looksF k l = 0 by simp [looksF, h1, h2, h3, h4])
          clear h1 h2 h3 h4
          go_enter Tryz.func78, Tryz.ntmps78
          go_wp2
          go_ret
          exact ⟨ret_int HF.out.symm, 0, rfl⟩
end Go.Proofs.YtdnalhjdmlkbmaaGreatDoor
namespace Go.Proofs.YtdnalhjdmlkbmaaGreatDoor
open Go.RowKit
set_option linter.unusedVariables false

set_option maxRecDepth 100000 in
set_option maxHeartbeats 1000000 in
/-- Do, where nothing is missing: what the primitive's function does on a desk is what Do does. -/
theorem do_ok (G : Nat → Nat) (k : Nat) (hk : k < 64) (hpl : plainB k = true) (f : Nat) (he : ∀ (args : Array Value) (w : World), (callFunc f args).run Tryz.prog w = .ok (.enter f args) w) (Cl : World → (Nat → Nat) → Array Value → Prop) (hd : DoesIs k f Cl) (hcl : Keeps Cl)
    (i j D R : Nat) (M : Addr) (l : List Int) (rl : List (Int × Int)) (_hi : i ≠ 0) (_hj : j ≠ 0) (S : Nat → Prop) (Post : World → (Nat → Nat) → Prop) (hl : l.length ≤ 256) (hrl : rl.length ≤ 128)
    (hneed : needF l.length (takesN k) (leavesN k) = 0) (hlooks : looksF k rl = 0) (hadds : (rl.length : Int) + addsF k ≤ 128) (w : World) (ht : Tabs w G) (hp : PU w G i D l) (hr : PR w G j R rl)
    (hf : ∀ (w1 : World) (G1 : Nat → Nat) (K : Nat) (c : Array Value), Adv (fun _ => False) w G w1 G1 → Cl w1 G1 c → Desk w1 G1 K D R (some M) →
      Calls Tryz.prog f (#[.pointer (some ⟨K, 0, none⟩)] ++ c) w1 fun e w' => e = .returned (.tuple #[]) ∧ ∃ G', Adv S w1 G1 w' G' ∧ Post w' G') :
    Calls Tryz.prog 23 #[.int .i64 k, .pointer (some ⟨D, 0, none⟩), .pointer (some ⟨R, 0, none⟩), .pointer (some M)] w fun e w' => e = .returned (.int .i64 0) ∧ ∃ G', Adv S w G w' G' ∧ Post w' G' := by
  have b1 := takes_le k hk
  have b2 := leaves_le k hk
  have HPL := Lib.hid hpl
  have HT := Lib.hid ht
  have HP := Lib.hid hp
  have HR := Lib.hid hr
  have HF := Lib.hid hf
  have HN := Lib.hid hneed
  have HL := Lib.hid hlooks
  have HAD := Lib.hid hadds
  have HCL := Lib.hid hcl
  clear ht hp hr hf hneed hlooks hadds hcl hpl
  go_enter Tryz.func23, Tryz.ntmps23
  go_wp2_with fail
  refine (plain_any k _).mono ?_
  rintro e w' ⟨rfl, rfl⟩
  rw [HPL.out]
  go_wp2_with fail
  refine (entry_any G k hk f Cl hd HCL.out _ HT.out).mono ?_
  rintro e w1 ⟨c, G1, rfl, ha1, hc1⟩
  unfold entryV
  have hA2 := ha1.alloc (.cells #[.int .i64 k, .string (nameB k), .int .i64 (takesN k), .int .i64 (leavesN k), .int .i64 (costsN k), .bool (operandB k), .func (.func f) #[] c] 174) 1000
  have HC2 := Lib.hid (HCL.out _ _ _ _ _ _ hc1 ((Adv.refl (fun _ => False) w1 G1).alloc (.cells #[.int .i64 k, .string (nameB k), .int .i64 (takesN k), .int .i64 (leavesN k), .int .i64 (costsN k), .bool (operandB k), .func (.func f) #[] c] 174) 1000) id)
  have HP2 := Lib.hid (HP.out.adv hA2 id)
  have HR2 := Lib.hid (HR.out.adv hA2 id)
  have HA2 := Lib.hid hA2
  clear ha1 hc1 hA2
  go_wp2_with fail
  refine (needPU _ i D l (takesN k) (leavesN k) _ HP2.out (by omega) (by omega) (by omega)).mono ?_
  rintro e w' ⟨rfl, rfl⟩
  rw [HN.out]
  go_wp2_with fail
  refine (looks_any _ j R rl k _ HR2.out (by omega)).mono ?_
  rintro e w' ⟨rfl, d, rfl⟩
  rw [HL.out]
  go_wp2_with fail
  refine (lenPR _ j R rl _ (HR2.out.drewN d)).mono ?_
  rintro e w' ⟨rfl, rfl⟩
  go_wp2_with fail
  refine (adds_any k _).mono ?_
  rintro e w' ⟨rfl, rfl⟩
  have hadd := HAD.out
  have hadd0 : 0 ≤ addsF k ∧ addsF k ≤ 2 := by unfold addsF; constructor <;> (repeat' split) <;> omega
  have hgt : decide (128 < (rl.length : Int) + addsF k) = false := by simp; omega
  go_wp2_with fail
  have hA3 := (HA2.out.drewN d).alloc (.cells #[.pointer (some ⟨D, 0, none⟩), .pointer (some ⟨R, 0, none⟩), .pointer (some M)] 181) 0
  have hC3 := HCL.out (fun _ => False) _ _ _ _ _ HC2.out (((Adv.refl (fun _ => False) _ _).drewN d).alloc (.cells #[.pointer (some ⟨D, 0, none⟩), .pointer (some ⟨R, 0, none⟩), .pointer (some M)] 181) 0) id
  refine (HF.out _ _ (w1.heap.size + 1) c hA3 hC3 ⟨heap_at _ _ _ (by simp), by simp [own1]⟩).mono ?_
  rintro e w2 ⟨rfl, G2, ha2, hpost⟩
  have HE := Lib.hid (And.intro (hA3.mono (T := S) (fun _ h => h.elim) |>.trans ha2) hpost)
  clear hA3 hC3 ha2 hpost
  go_wp2
  go_ret
  exact ⟨rfl, G2, HE.out.1, HE.out.2⟩
end Go.Proofs.YtdnalhjdmlkbmaaGreatDoor
namespace Go.Proofs.YtdnalhjdmlkbmaaGreatDoor
open Go.RowKit

set_option maxRecDepth 100000 in
/-- Too few cells, or no room for what is left. -/
theorem do_need (G : Nat → Nat) (k : Nat) (hk : k < 64) (hpl : plainB k = true) (f : Nat) (Cl : World → (Nat → Nat) → Array Value → Prop) (hd : DoesIs k f Cl) (hcl : Keeps Cl)
    (i D : Nat) (R M : Addr) (l : List Int) (hl : l.length ≤ 256) (hneed : (needF l.length (takesN k) (leavesN k) != 0) = true) (w : World) (ht : Tabs w G) (hp : PU w G i D l) :
    Calls Tryz.prog 23 #[.int .i64 k, .pointer (some ⟨D, 0, none⟩), .pointer (some R), .pointer (some M)] w fun e w' => e = .returned (.int .i64 (needF l.length (takesN k) (leavesN k))) ∧ ∃ G', Adv (fun _ => False) w G w' G' := by
  have b1 := takes_le k hk
  have b2 := leaves_le k hk
  have HPL := Lib.hid hpl
  have HT := Lib.hid ht
  have HP := Lib.hid hp
  have HCL := Lib.hid hcl
  clear ht hp hcl hpl
  obtain ⟨F, hF⟩ : ∃ F, F = needF l.length (takesN k) (leavesN k) := ⟨_, rfl⟩
  rw [← hF] at hneed ⊢
  have HF := Lib.hid hF
  clear hF
  go_enter Tryz.func23, Tryz.ntmps23
  go_wp2_with fail
  refine (plain_any k _).mono ?_
  rintro e w' ⟨rfl, rfl⟩
  rw [HPL.out]
  go_wp2_with fail
  refine (entry_any G k hk f Cl hd HCL.out _ HT.out).mono ?_
  rintro e w1 ⟨c, G1, rfl, ha1, hc1⟩
  unfold entryV
  have HA2 := Lib.hid (ha1.alloc (.cells #[.int .i64 k, .string (nameB k), .int .i64 (takesN k), .int .i64 (leavesN k), .int .i64 (costsN k), .bool (operandB k), .func (.func f) #[] c] 174) 1000)
  have HP2 := Lib.hid (HP.out.adv HA2.out id)
  clear ha1 hc1
  go_wp2_with fail
  refine (needPU _ i D l (takesN k) (leavesN k) _ HP2.out (by omega) (by omega) (by omega)).mono ?_
  rintro e w' ⟨rfl, rfl⟩
  rw [← HF.out]
  go_wp2_with fail
  go_ret
  exact ⟨rfl, _, HA2.out⟩
set_option maxRecDepth 100000 in
/-- The return stack does not hold what the primitive looks at. -/
theorem do_looks (G : Nat → Nat) (k : Nat) (hk : k < 64) (hpl : plainB k = true) (f : Nat) (Cl : World → (Nat → Nat) → Array Value → Prop) (hd : DoesIs k f Cl) (hcl : Keeps Cl)
    (i j D R : Nat) (M : Addr) (l : List Int) (rl : List (Int × Int)) (hl : l.length ≤ 256) (hrl : rl.length ≤ 128) (hneed : needF l.length (takesN k) (leavesN k) = 0) (hlooks : (looksF k rl != 0) = true) (w : World) (ht : Tabs w G) (hp : PU w G i D l) (hr : PR w G j R rl) :
    Calls Tryz.prog 23 #[.int .i64 k, .pointer (some ⟨D, 0, none⟩), .pointer (some ⟨R, 0, none⟩), .pointer (some M)] w fun e w' => e = .returned (.int .i64 (looksF k rl)) ∧ ∃ G', Adv (fun _ => False) w G w' G' := by
  have b1 := takes_le k hk
  have b2 := leaves_le k hk
  have HPL := Lib.hid hpl
  have HT := Lib.hid ht
  have HP := Lib.hid hp
  have HR := Lib.hid hr
  have HN := Lib.hid hneed
  have HCL := Lib.hid hcl
  clear ht hp hr hcl hpl hneed
  obtain ⟨F, hF⟩ : ∃ F, F = looksF k rl := ⟨_, rfl⟩
  rw [← hF] at hlooks ⊢
  have HF := Lib.hid hF
  clear hF
  go_enter Tryz.func23, Tryz.ntmps23
  go_wp2_with fail
  refine (plain_any k _).mono ?_
  rintro e w' ⟨rfl, rfl⟩
  rw [HPL.out]
  go_wp2_with fail
  refine (entry_any G k hk f Cl hd HCL.out _ HT.out).mono ?_
  rintro e w1 ⟨c, G1, rfl, ha1, hc1⟩
  unfold entryV
  have HA2 := Lib.hid (ha1.alloc (.cells #[.int .i64 k, .string (nameB k), .int .i64 (takesN k), .int .i64 (leavesN k), .int .i64 (costsN k), .bool (operandB k), .func (.func f) #[] c] 174) 1000)
  have HP2 := Lib.hid (HP.out.adv HA2.out id)
  have HR2 := Lib.hid (HR.out.adv HA2.out id)
  clear ha1 hc1
  go_wp2_with fail
  refine (needPU _ i D l (takesN k) (leavesN k) _ HP2.out (by omega) (by omega) (by omega)).mono ?_
  rintro e w' ⟨rfl, rfl⟩
  rw [HN.out]
  go_wp2_with fail
  refine (looks_any _ j R rl k _ HR2.out (by omega)).mono ?_
  rintro e w' ⟨rfl, d, rfl⟩
  rw [← HF.out]
  go_wp2_with fail
  go_ret
  exact ⟨rfl, _, HA2.out.drewN d⟩
set_option maxRecDepth 100000 in
/-- No room on the return stack. -/
theorem do_full (G : Nat → Nat) (k : Nat) (hk : k < 64) (hpl : plainB k = true) (f : Nat) (Cl : World → (Nat → Nat) → Array Value → Prop) (hd : DoesIs k f Cl) (hcl : Keeps Cl)
    (i j D R : Nat) (M : Addr) (l : List Int) (rl : List (Int × Int)) (hl : l.length ≤ 256) (hrl : rl.length ≤ 128) (hneed : needF l.length (takesN k) (leavesN k) = 0) (hlooks : looksF k rl = 0) (hadds : 128 < (rl.length : Int) + addsF k) (w : World) (ht : Tabs w G) (hp : PU w G i D l) (hr : PR w G j R rl) :
    Calls Tryz.prog 23 #[.int .i64 k, .pointer (some ⟨D, 0, none⟩), .pointer (some ⟨R, 0, none⟩), .pointer (some M)] w fun e w' => e = .returned (.int .i64 4) ∧ ∃ G', Adv (fun _ => False) w G w' G' := by
  have b1 := takes_le k hk
  have b2 := leaves_le k hk
  have HPL := Lib.hid hpl
  have HT := Lib.hid ht
  have HP := Lib.hid hp
  have HR := Lib.hid hr
  have HN := Lib.hid hneed
  have HL := Lib.hid hlooks
  have HAD := Lib.hid hadds
  have HCL := Lib.hid hcl
  clear ht hp hr hcl hpl hneed hlooks hadds
  go_enter Tryz.func23, Tryz.ntmps23
  go_wp2_with fail
  refine (plain_any k _).mono ?_
  rintro e w' ⟨rfl, rfl⟩
  rw [HPL.out]
  go_wp2_with fail
  refine (entry_any G k hk f Cl hd HCL.out _ HT.out).mono ?_
  rintro e w1 ⟨c, G1, rfl, ha1, hc1⟩
  unfold entryV
  have HA2 := Lib.hid (ha1.alloc (.cells #[.int .i64 k, .string (nameB k), .int .i64 (takesN k), .int .i64 (leavesN k), .int .i64 (costsN k), .bool (operandB k), .func (.func f) #[] c] 174) 1000)
  have HP2 := Lib.hid (HP.out.adv HA2.out id)
  have HR2 := Lib.hid (HR.out.adv HA2.out id)
  clear ha1 hc1
  go_wp2_with fail
  refine (needPU _ i D l (takesN k) (leavesN k) _ HP2.out (by omega) (by omega) (by omega)).mono ?_
  rintro e w' ⟨rfl, rfl⟩
  rw [HN.out]
  go_wp2_with fail
  refine (looks_any _ j R rl k _ HR2.out (by omega)).mono ?_
  rintro e w' ⟨rfl, d, rfl⟩
  rw [HL.out]
  go_wp2_with fail
  refine (lenPR _ j R rl _ (HR2.out.drewN d)).mono ?_
  rintro e w' ⟨rfl, rfl⟩
  go_wp2_with fail
  refine (adds_any k _).mono ?_
  rintro e w' ⟨rfl, rfl⟩
  have hadd := HAD.out
  have hadd0 : 0 ≤ addsF k ∧ addsF k ≤ 2 := by unfold addsF; constructor <;> (repeat' split) <;> omega
  have hgt : decide (128 < (rl.length : Int) + addsF k) = true := by simp; omega
  go_wp2_with fail
  go_ret
  exact ⟨rfl, _, HA2.out.drewN d⟩
set_option maxRecDepth 100000 in
/-- No plain primitive, whatever the stacks. -/
theorem do_odd (x : Int) (hpl : plainB x = false) (d r m : Value) (w : World) :
    Calls Tryz.prog 23 #[.int .i64 x, d, r, m] w fun e w' => e = .returned (.int .i64 6) ∧ w = w' := by
  have HPL := Lib.hid hpl
  clear hpl
  go_enter Tryz.func23, Tryz.ntmps23
  go_wp2_with fail
  refine (plain_any x _).mono ?_
  rintro e w' ⟨rfl, rfl⟩
  rw [HPL.out]
  go_wp2_with fail
  go_ret
  exact ⟨rfl, rfl⟩
end Go.Proofs.YtdnalhjdmlkbmaaGreatDoor
namespace Go.Proofs.YtdnalhjdmlkbmaaGreatDoor
open Go.RowKit

def shufP (k : Nat) : List Nat :=
  match k with
  | 12 => [0, 0] | 14 => [1, 0] | 15 => [0, 1, 0] | 16 => [1, 2, 0] | 17 => [1] | 18 => [1, 0, 1] | 19 => [0, 1, 0, 1] | _ => []
/-- What a plain primitive does with the cells x that it has taken, b those below. -/
def actF (k : Nat) (b x : List Int) (r : List (Int × Int)) (m : MemS) : List Int × List (Int × Int) × MemS :=
  match k with
  | 6 => (b, r ++ [(2, x.getD 0 0), (3, x.getD 1 0)], m)
  | 9 => (b, r, m)
  | 12 => (b ++ picks x (shufP 12), r, m)
  | 13 => (b ++ picks x (shufP 13), r, m)
  | 14 => (b ++ picks x (shufP 14), r, m)
  | 15 => (b ++ picks x (shufP 15), r, m)
  | 16 => (b ++ picks x (shufP 16), r, m)
  | 17 => (b ++ picks x (shufP 17), r, m)
  | 18 => (b ++ picks x (shufP 18), r, m)
  | 19 => (b ++ picks x (shufP 19), r, m)
  | 20 => (b ++ picks x (shufP 20), r, m)
  | 21 => (b ++ [binF 21 (x.getD 0 0) (x.getD 1 0)], r, m)
  | 22 => (b ++ [binF 22 (x.getD 0 0) (x.getD 1 0)], r, m)
  | 23 => (b ++ [binF 23 (x.getD 0 0) (x.getD 1 0)], r, m)
  | 24 => (b ++ [binF 24 (x.getD 0 0) (x.getD 1 0)], r, m)
  | 25 => (b ++ [binF 25 (x.getD 0 0) (x.getD 1 0)], r, m)
  | 26 => (b ++ [binF 26 (x.getD 0 0) (x.getD 1 0)], r, m)
  | 27 => (b ++ [binF 27 (x.getD 0 0) (x.getD 1 0)], r, m)
  | 28 => (b ++ [unF 28 (x.getD 0 0)], r, m)
  | 29 => (b ++ [unF 29 (x.getD 0 0)], r, m)
  | 30 => (b ++ [binF 30 (x.getD 0 0) (x.getD 1 0)], r, m)
  | 31 => (b ++ [binF 31 (x.getD 0 0) (x.getD 1 0)], r, m)
  | 32 => (b ++ [unF 32 (x.getD 0 0)], r, m)
  | 33 => (b ++ [unF 33 (x.getD 0 0)], r, m)
  | 34 => (b ++ [unF 34 (x.getD 0 0)], r, m)
  | 35 => (b ++ [unF 35 (x.getD 0 0)], r, m)
  | 36 => (b ++ [binF 36 (x.getD 0 0) (x.getD 1 0)], r, m)
  | 37 => (b ++ [binF 37 (x.getD 0 0) (x.getD 1 0)], r, m)
  | 38 => (b ++ [binF 38 (x.getD 0 0) (x.getD 1 0)], r, m)
  | 39 => (b ++ [unF 39 (x.getD 0 0)], r, m)
  | 40 => (b ++ [binF 40 (x.getD 0 0) (x.getD 1 0)], r, m)
  | 41 => (b ++ [binF 41 (x.getD 0 0) (x.getD 1 0)], r, m)
  | 42 => (b ++ [binF 42 (x.getD 0 0) (x.getD 1 0)], r, m)
  | 43 => (b ++ [binF 43 (x.getD 0 0) (x.getD 1 0)], r, m)
  | 44 => (b ++ [binF 44 (x.getD 0 0) (x.getD 1 0)], r, m)
  | 45 => (b ++ [binF 45 (x.getD 0 0) (x.getD 1 0)], r, m)
  | 46 => (b ++ [binF 46 (x.getD 0 0) (x.getD 1 0)], r, m)
  | 47 => (b ++ [binF 47 (x.getD 0 0) (x.getD 1 0)], r, m)
  | 48 => (b ++ [unF 48 (x.getD 0 0)], r, m)
  | 49 => (b ++ [unF 49 (x.getD 0 0)], r, m)
  | 50 => (b ++ [cellF m (x.getD 0 0)], r, m)
  | 51 => (b, r, setCellF m (x.getD 1 0) (x.getD 0 0))
  | 52 => (b ++ [loadF m (x.getD 0 0)], r, m)
  | 53 => (b, r, storeF m (x.getD 1 0) (x.getD 0 0 % 256))
  | 54 => (b, r, setCellF m (x.getD 1 0) ((cellF m (x.getD 1 0) + x.getD 0 0) % 65536))
  | 55 => (b, r ++ [(4, x.getD 0 0)], m)
  | 56 => (b ++ [atV r 0 4], r.dropLast, m)
  | 57 => (b ++ [atV r 0 4], r, m)
  | 58 => (b ++ [atV r 0 3], r, m)
  | 59 => (b ++ [atV r 2 3], r, m)
  | 60 => (b, r, plotF m (x.getD 0 0) (x.getD 1 0) (x.getD 2 0))
  | 61 => (b ++ [m.pad], r, m)
  | 62 => (b, r, playF m (x.getD 0 0) (x.getD 1 0 % 256))
  | 63 => (b, r, storeF m 65280 (x.getD 0 0 % 256))
  | _ => (b, r, m)
/-- The fault of a primitive; 0: there is none. -/
def faultF (k : Nat) (d : List Int) (r : List (Int × Int)) : Int :=
  if needF d.length (takesN k) (leavesN k) ≠ 0 then needF d.length (takesN k) (leavesN k)
  else if looksF k r ≠ 0 then looksF k r else if 128 < (r.length : Int) + addsF k then 4 else 0
/-- Do, of a plain primitive. -/
def doF (k : Nat) (d : List Int) (r : List (Int × Int)) (m : MemS) : List Int × List (Int × Int) × MemS :=
  if faultF k d r ≠ 0 then (d, r, m) else actF k (d.take (d.length - (takesN k).toNat)) (d.drop (d.length - (takesN k).toNat)) r m
/-- Stacks and a memory that may be. -/
structure Good3 (d : List Int) (r : List (Int × Int)) (m : MemS) : Prop where
  d16 : D16 d
  r16 : R16 r
  dl : d.length ≤ 256
  rl : r.length ≤ 128
  mo : MemOk m
  mr : MemR m
theorem needF_ok {d : List Int} {p q : Int} (h : needF d.length p q = 0) (hp : 0 ≤ p) (hq : 0 ≤ q) : p ≤ d.length ∧ (d.length : Int) - p + q ≤ 256 := by
  unfold needF at h
  split at h
  · exact absurd h (by decide)
  · split at h
    · exact absurd h (by decide)
    · omega
theorem takes_len {d : List Int} {k : Nat} (hk : k < 64) (h : needF d.length (takesN k) (leavesN k) = 0) : (d.drop (d.length - (takesN k).toNat)).length = (takesN k).toNat ∧ ((d.take (d.length - (takesN k).toNat)).length : Int) + leavesN k ≤ 256 := by
  have h1 := takes_le k hk
  have h2 := leaves_le k hk
  have h3 := needF_ok h h1.1 h2.1
  rw [List.length_drop, List.length_take]
  omega
theorem atV_rng {r : List (Int × Int)} (h : R16 r) (n kind : Int) : 0 ≤ atV r n kind ∧ atV r n kind < 65536 := by
  unfold atV
  repeat' split
  · rename_i h1 _
    have hl : r.length - 1 - n.toNat < r.length := by omega
    have hm : r.getD (r.length - 1 - n.toNat) (0, 0) ∈ r := by rw [List.getD_eq_getElem?_getD, List.getElem?_eq_getElem hl]; exact List.getElem_mem hl
    exact h _ hm
  · exact ⟨Int.le_refl _, by decide⟩
  · exact ⟨Int.le_refl _, by decide⟩
theorem picks_rng {t : List Int} (h : D16 t) (ps : List Nat) : D16 (picks t ps) := by
  intro x hx
  unfold picks at hx
  obtain ⟨p, _, rfl⟩ := List.mem_map.1 hx
  rw [List.getD_eq_getElem?_getD]
  cases e : t[p]? with
  | none => exact ⟨Int.le_refl _, by decide⟩
  | some y => exact h y (List.mem_of_getElem? e)
theorem D16.getD {t : List Int} (h : D16 t) (k : Nat) : 0 ≤ t.getD k 0 ∧ t.getD k 0 < 65536 := by
  rw [List.getD_eq_getElem?_getD]
  cases e : t[k]? with
  | none => exact ⟨Int.le_refl _, by decide⟩
  | some y => exact h y (List.mem_of_getElem? e)
theorem D16.take {d : List Int} (h : D16 d) (n : Nat) : D16 (d.take n) := fun x hx => h x (List.mem_of_mem_take hx)
theorem D16.drop {d : List Int} (h : D16 d) (n : Nat) : D16 (d.drop n) := fun x hx => h x (List.mem_of_mem_drop hx)
theorem R16.init {r : List (Int × Int)} (h : R16 r) : R16 r.dropLast := fun x hx => h x (List.dropLast_subset _ hx)
theorem len1 {α : Type} {x : List α} (h : x.length = 1) : ∃ a, x = [a] := by
  match x, h with
  | [a], _ => exact ⟨a, rfl⟩
theorem len2 {α : Type} {x : List α} (h : x.length = 2) : ∃ a b, x = [a, b] := by
  match x, h with
  | [a, b], _ => exact ⟨a, b, rfl⟩
theorem len3 {α : Type} {x : List α} (h : x.length = 3) : ∃ a b c, x = [a, b, c] := by
  match x, h with
  | [a, b, c], _ => exact ⟨a, b, c, rfl⟩
theorem len0 {α : Type} {x : List α} (h : x.length = 0) : x = [] := List.eq_nil_of_length_eq_zero h
end Go.Proofs.YtdnalhjdmlkbmaaGreatDoor
namespace Go.Proofs.YtdnalhjdmlkbmaaGreatDoor
open Go.RowKit

def writesB (k : Int) : Bool := decide (k = 51 ∨ k = 53 ∨ k = 54 ∨ k = 60 ∨ k = 62 ∨ k = 63)
def readsB (k : Int) : Bool := decide (k = 50 ∨ k = 52 ∨ k = 54 ∨ k = 61)
def returnedN (k : Int) : Int := if k = 6 then 2 else if k = 55 then 1 else if k = 56 then -1 else 0
structure KeepIs (k : Nat) (b : List Int) (r : List (Int × Int)) (m : MemS) (t : List Int × List (Int × Int) × MemS) : Prop where
  dl : (t.1.length : Int) = b.length + leavesN k
  dp : b <+: t.1
  rl : (t.2.1.length : Int) = r.length + returnedN k
  rp : t.2.1 <+: r ∨ r <+: t.2.1
  mm : writesB k = false → t.2.2 = m
theorem keep_push {k : Nat} {b : List Int} {r : List (Int × Int)} {m : MemS} (y : List Int) (hy : (y.length : Int) = leavesN k) (hr : returnedN k = 0) : KeepIs k b r m (b ++ y, r, m) :=
  ⟨by simp [← hy], List.prefix_append _ _, by simp [hr], .inl (List.prefix_refl _), fun _ => rfl⟩
theorem keep_ret {k : Nat} {b : List Int} {r : List (Int × Int)} {m : MemS} (y : List (Int × Int)) (hl : leavesN k = 0) (hr : returnedN k = y.length) : KeepIs k b r m (b, r ++ y, m) :=
  ⟨by simp [hl], List.prefix_refl _, by simp [hr], .inr (List.prefix_append _ _), fun _ => rfl⟩
theorem keep_mem {k : Nat} {b : List Int} {r : List (Int × Int)} {m m' : MemS} (hl : leavesN k = 0) (hr : returnedN k = 0) (hw : writesB k = true) : KeepIs k b r m (b, r, m') :=
  ⟨by simp [hl], List.prefix_refl _, by simp [hr], .inl (List.prefix_refl _), fun h => by rw [hw] at h; exact absurd h (by decide)⟩
theorem keep_back {b : List Int} {r : List (Int × Int)} {m : MemS} (y : Int) (hne : r ≠ []) : KeepIs 56 b r m (b ++ [y], r.dropLast, m) :=
  ⟨by simp; rfl, List.prefix_append _ _, by
    have : 0 < r.length := List.length_pos_iff.2 hne
    have h2 : returnedN ((56 : Nat) : Int) = -1 := rfl
    rw [h2]; simp only [List.length_dropLast]; omega, .inl (List.dropLast_prefix r), fun _ => rfl⟩
set_option maxRecDepth 100000 in
theorem act_keep (k : Nat) (hk : k < 64) (hpl : plainB k = true) (b x : List Int) (r : List (Int × Int)) (m : MemS) (hr : k = 56 → r ≠ []) : KeepIs k b r m (actF k b x r m) := by
  match k, hk, hpl with
  | 0, _, h => exact absurd h (by decide)
  | 1, _, h => exact absurd h (by decide)
  | 2, _, h => exact absurd h (by decide)
  | 3, _, h => exact absurd h (by decide)
  | 4, _, h => exact absurd h (by decide)
  | 5, _, h => exact absurd h (by decide)
  | 6, _, _ => exact keep_ret [_, _] rfl rfl
  | 7, _, h => exact absurd h (by decide)
  | 8, _, h => exact absurd h (by decide)
  | 9, _, _ => exact keep_ret [] rfl rfl |> fun h => by rw [List.append_nil] at h; exact h
  | 10, _, h => exact absurd h (by decide)
  | 11, _, h => exact absurd h (by decide)
  | 12, _, _ => exact keep_push (picks x (shufP 12)) (by rw [picks, List.length_map]; rfl) rfl
  | 13, _, _ => exact keep_push (picks x (shufP 13)) (by rw [picks, List.length_map]; rfl) rfl
  | 14, _, _ => exact keep_push (picks x (shufP 14)) (by rw [picks, List.length_map]; rfl) rfl
  | 15, _, _ => exact keep_push (picks x (shufP 15)) (by rw [picks, List.length_map]; rfl) rfl
  | 16, _, _ => exact keep_push (picks x (shufP 16)) (by rw [picks, List.length_map]; rfl) rfl
  | 17, _, _ => exact keep_push (picks x (shufP 17)) (by rw [picks, List.length_map]; rfl) rfl
  | 18, _, _ => exact keep_push (picks x (shufP 18)) (by rw [picks, List.length_map]; rfl) rfl
  | 19, _, _ => exact keep_push (picks x (shufP 19)) (by rw [picks, List.length_map]; rfl) rfl
  | 20, _, _ => exact keep_push (picks x (shufP 20)) (by rw [picks, List.length_map]; rfl) rfl
  | 21, _, _ => exact keep_push [_] rfl rfl
  | 22, _, _ => exact keep_push [_] rfl rfl
  | 23, _, _ => exact keep_push [_] rfl rfl
  | 24, _, _ => exact keep_push [_] rfl rfl
  | 25, _, _ => exact keep_push [_] rfl rfl
  | 26, _, _ => exact keep_push [_] rfl rfl
  | 27, _, _ => exact keep_push [_] rfl rfl
  | 28, _, _ => exact keep_push [_] rfl rfl
  | 29, _, _ => exact keep_push [_] rfl rfl
  | 30, _, _ => exact keep_push [_] rfl rfl
  | 31, _, _ => exact keep_push [_] rfl rfl
  | 32, _, _ => exact keep_push [_] rfl rfl
  | 33, _, _ => exact keep_push [_] rfl rfl
  | 34, _, _ => exact keep_push [_] rfl rfl
  | 35, _, _ => exact keep_push [_] rfl rfl
  | 36, _, _ => exact keep_push [_] rfl rfl
  | 37, _, _ => exact keep_push [_] rfl rfl
  | 38, _, _ => exact keep_push [_] rfl rfl
  | 39, _, _ => exact keep_push [_] rfl rfl
  | 40, _, _ => exact keep_push [_] rfl rfl
  | 41, _, _ => exact keep_push [_] rfl rfl
  | 42, _, _ => exact keep_push [_] rfl rfl
  | 43, _, _ => exact keep_push [_] rfl rfl
  | 44, _, _ => exact keep_push [_] rfl rfl
  | 45, _, _ => exact keep_push [_] rfl rfl
  | 46, _, _ => exact keep_push [_] rfl rfl
  | 47, _, _ => exact keep_push [_] rfl rfl
  | 48, _, _ => exact keep_push [_] rfl rfl
  | 49, _, _ => exact keep_push [_] rfl rfl
  | 50, _, _ => exact keep_push [_] rfl rfl
  | 51, _, _ => exact keep_mem rfl rfl rfl
  | 52, _, _ => exact keep_push [_] rfl rfl
  | 53, _, _ => exact keep_mem rfl rfl rfl
  | 54, _, _ => exact keep_mem rfl rfl rfl
  | 55, _, _ => exact keep_ret [_] rfl rfl
  | 56, _, _ => exact keep_back _ (hr rfl)
  | 57, _, _ => exact keep_push [_] rfl rfl
  | 58, _, _ => exact keep_push [_] rfl rfl
  | 59, _, _ => exact keep_push [_] rfl rfl
  | 60, _, _ => exact keep_mem rfl rfl rfl
  | 61, _, _ => exact keep_push [_] rfl rfl
  | 62, _, _ => exact keep_mem rfl rfl rfl
  | 63, _, _ => exact keep_mem rfl rfl rfl
  | k + 64, hk, _ => exact absurd hk (by omega)
set_option maxRecDepth 100000 in
theorem act_reads (k : Nat) (hk : k < 64) (hrd : readsB k = false) (b x : List Int) (r : List (Int × Int)) (m m' : MemS) : (actF k b x r m).1 = (actF k b x r m').1 ∧ (actF k b x r m).2.1 = (actF k b x r m').2.1 := by
  match k, hk, hrd with
  | 0, _, _ => exact ⟨rfl, rfl⟩
  | 1, _, _ => exact ⟨rfl, rfl⟩
  | 2, _, _ => exact ⟨rfl, rfl⟩
  | 3, _, _ => exact ⟨rfl, rfl⟩
  | 4, _, _ => exact ⟨rfl, rfl⟩
  | 5, _, _ => exact ⟨rfl, rfl⟩
  | 6, _, _ => exact ⟨rfl, rfl⟩
  | 7, _, _ => exact ⟨rfl, rfl⟩
  | 8, _, _ => exact ⟨rfl, rfl⟩
  | 9, _, _ => exact ⟨rfl, rfl⟩
  | 10, _, _ => exact ⟨rfl, rfl⟩
  | 11, _, _ => exact ⟨rfl, rfl⟩
  | 12, _, _ => exact ⟨rfl, rfl⟩
  | 13, _, _ => exact ⟨rfl, rfl⟩
  | 14, _, _ => exact ⟨rfl, rfl⟩
  | 15, _, _ => exact ⟨rfl, rfl⟩
  | 16, _, _ => exact ⟨rfl, rfl⟩
  | 17, _, _ => exact ⟨rfl, rfl⟩
  | 18, _, _ => exact ⟨rfl, rfl⟩
  | 19, _, _ => exact ⟨rfl, rfl⟩
  | 20, _, _ => exact ⟨rfl, rfl⟩
  | 21, _, _ => exact ⟨rfl, rfl⟩
  | 22, _, _ => exact ⟨rfl, rfl⟩
  | 23, _, _ => exact ⟨rfl, rfl⟩
  | 24, _, _ => exact ⟨rfl, rfl⟩
  | 25, _, _ => exact ⟨rfl, rfl⟩
  | 26, _, _ => exact ⟨rfl, rfl⟩
  | 27, _, _ => exact ⟨rfl, rfl⟩
  | 28, _, _ => exact ⟨rfl, rfl⟩
  | 29, _, _ => exact ⟨rfl, rfl⟩
  | 30, _, _ => exact ⟨rfl, rfl⟩
  | 31, _, _ => exact ⟨rfl, rfl⟩
  | 32, _, _ => exact ⟨rfl, rfl⟩
  | 33, _, _ => exact ⟨rfl, rfl⟩
  | 34, _, _ => exact ⟨rfl, rfl⟩
  | 35, _, _ => exact ⟨rfl, rfl⟩
  | 36, _, _ => exact ⟨rfl, rfl⟩
  | 37, _, _ => exact ⟨rfl, rfl⟩
  | 38, _, _ => exact ⟨rfl, rfl⟩
  | 39, _, _ => exact ⟨rfl, rfl⟩
  | 40, _, _ => exact ⟨rfl, rfl⟩
  | 41, _, _ => exact ⟨rfl, rfl⟩
  | 42, _, _ => exact ⟨rfl, rfl⟩
  | 43, _, _ => exact ⟨rfl, rfl⟩
  | 44, _, _ => exact ⟨rfl, rfl⟩
  | 45, _, _ => exact ⟨rfl, rfl⟩
  | 46, _, _ => exact ⟨rfl, rfl⟩
  | 47, _, _ => exact ⟨rfl, rfl⟩
  | 48, _, _ => exact ⟨rfl, rfl⟩
  | 49, _, _ => exact ⟨rfl, rfl⟩
  | 50, _, h => exact absurd h (by decide)
  | 51, _, _ => exact ⟨rfl, rfl⟩
  | 52, _, h => exact absurd h (by decide)
  | 53, _, _ => exact ⟨rfl, rfl⟩
  | 54, _, h => exact absurd h (by decide)
  | 55, _, _ => exact ⟨rfl, rfl⟩
  | 56, _, _ => exact ⟨rfl, rfl⟩
  | 57, _, _ => exact ⟨rfl, rfl⟩
  | 58, _, _ => exact ⟨rfl, rfl⟩
  | 59, _, _ => exact ⟨rfl, rfl⟩
  | 60, _, _ => exact ⟨rfl, rfl⟩
  | 61, _, h => exact absurd h (by decide)
  | 62, _, _ => exact ⟨rfl, rfl⟩
  | 63, _, _ => exact ⟨rfl, rfl⟩
  | k + 64, hk, _ => exact absurd hk (by omega)
theorem faultF_ok {k : Nat} {d : List Int} {r : List (Int × Int)} (h : faultF k d r = 0) : needF d.length (takesN k) (leavesN k) = 0 ∧ looksF k r = 0 := by
  unfold faultF at h
  by_cases h1 : needF d.length (takesN k) (leavesN k) = 0
  · rw [if_neg (by simpa using h1)] at h
    by_cases h2 : looksF k r = 0
    · exact ⟨h1, h2⟩
    · rw [if_pos h2] at h; exact absurd h h2
  · rw [if_pos h1] at h; exact absurd h h1
theorem doF_no {k : Nat} {d : List Int} {r : List (Int × Int)} {m : MemS} (h : faultF k d r ≠ 0) : doF k d r m = (d, r, m) := by unfold doF; rw [if_pos h]
theorem doF_yes {k : Nat} {d : List Int} {r : List (Int × Int)} {m : MemS} (h : faultF k d r = 0) : doF k d r m = actF k (d.take (d.length - (takesN k).toNat)) (d.drop (d.length - (takesN k).toNat)) r m := by unfold doF; rw [if_neg (by simpa using h)]
/-- What Do keeps. -/
theorem doF_keep (k : Nat) (hk : k < 64) (hpl : plainB k = true) {d : List Int} {r : List (Int × Int)} {m : MemS} (hf : faultF k d r = 0) :
    (((doF k d r m).1.length : Int) = d.length + leavesN k - takesN k) ∧ d.take (d.length - (takesN k).toNat) <+: (doF k d r m).1 ∧ (((doF k d r m).2.1.length : Int) = r.length + returnedN k) ∧
    ((doF k d r m).2.1 <+: r ∨ r <+: (doF k d r m).2.1) ∧ (writesB k = false → (doF k d r m).2.2 = m) := by
  obtain ⟨h1, h2⟩ := faultF_ok hf
  have h3 := takes_le k hk
  have h4 := leaves_le k hk
  have h5 := needF_ok h1 h3.1 h4.1
  have hne : k = 56 → r ≠ [] := by
    rintro rfl rfl
    exact absurd h2 (by decide)
  rw [doF_yes hf]
  have h := act_keep k hk hpl (d.take (d.length - (takesN k).toNat)) (d.drop (d.length - (takesN k).toNat)) r m hne
  refine ⟨?_, h.dp, h.rl, h.rp, h.mm⟩
  rw [h.dl, List.length_take]
  omega
theorem doF_mem (k : Nat) (hk : k < 64) (hpl : plainB k = true) {d : List Int} {r : List (Int × Int)} {m : MemS} (h : faultF k d r ≠ 0 ∨ writesB k = false) : (doF k d r m).2.2 = m := by
  by_cases hf : faultF k d r = 0
  · exact (doF_keep k hk hpl hf).2.2.2.2 (h.resolve_left (by simpa using hf))
  · rw [doF_no hf]
theorem doF_reads (k : Nat) (hk : k < 64) (hrd : readsB k = false) (d : List Int) (r : List (Int × Int)) (m m' : MemS) : (doF k d r m).1 = (doF k d r m').1 ∧ (doF k d r m).2.1 = (doF k d r m').2.1 := by
  by_cases hf : faultF k d r = 0
  · rw [doF_yes hf, doF_yes hf]; exact act_reads k hk hrd _ _ _ _ _
  · rw [doF_no hf, doF_no hf]; exact ⟨rfl, rfl⟩
/-- The banks' numbers stay. -/
theorem bankSet_keys : ∀ (l : List (Int × List Int)) (c : Int) (k : Nat) (x : Int), (bankSet l c k x).map Prod.fst = l.map Prod.fst
  | [], _, _, _ => rfl
  | p :: l, c, k, x => by
    unfold bankSet
    split
    · rfl
    · rw [List.map_cons, List.map_cons, bankSet_keys l c k x]
def keysF (m : MemS) : List Int := m.banks.map Prod.fst
theorem storeF_keys (m : MemS) (a x : Int) : keysF (storeF m a x) = keysF m := by
  unfold storeF
  repeat' split
  all_goals first | rfl | exact bankSet_keys _ _ _ _
theorem setCellF_keys (m : MemS) (a x : Int) : keysF (setCellF m a x) = keysF m := by unfold setCellF; rw [storeF_keys, storeF_keys]
theorem plotF_keys (m : MemS) (x y c : Int) : keysF (plotF m x y c) = keysF m := by unfold plotF; split; exact storeF_keys _ _ _; rfl
theorem playF_keys (m : MemS) (p v : Int) : keysF (playF m p v) = keysF m := by unfold playF; rw [storeF_keys, storeF_keys, storeF_keys]
set_option maxRecDepth 100000 in
theorem act_keys (k : Nat) (hk : k < 64) (b x : List Int) (r : List (Int × Int)) (m : MemS) : keysF (actF k b x r m).2.2 = keysF m := by
  match k, hk with
  | 0, _ => rfl
  | 1, _ => rfl
  | 2, _ => rfl
  | 3, _ => rfl
  | 4, _ => rfl
  | 5, _ => rfl
  | 6, _ => rfl
  | 7, _ => rfl
  | 8, _ => rfl
  | 9, _ => rfl
  | 10, _ => rfl
  | 11, _ => rfl
  | 12, _ => rfl
  | 13, _ => rfl
  | 14, _ => rfl
  | 15, _ => rfl
  | 16, _ => rfl
  | 17, _ => rfl
  | 18, _ => rfl
  | 19, _ => rfl
  | 20, _ => rfl
  | 21, _ => rfl
  | 22, _ => rfl
  | 23, _ => rfl
  | 24, _ => rfl
  | 25, _ => rfl
  | 26, _ => rfl
  | 27, _ => rfl
  | 28, _ => rfl
  | 29, _ => rfl
  | 30, _ => rfl
  | 31, _ => rfl
  | 32, _ => rfl
  | 33, _ => rfl
  | 34, _ => rfl
  | 35, _ => rfl
  | 36, _ => rfl
  | 37, _ => rfl
  | 38, _ => rfl
  | 39, _ => rfl
  | 40, _ => rfl
  | 41, _ => rfl
  | 42, _ => rfl
  | 43, _ => rfl
  | 44, _ => rfl
  | 45, _ => rfl
  | 46, _ => rfl
  | 47, _ => rfl
  | 48, _ => rfl
  | 49, _ => rfl
  | 50, _ => rfl
  | 51, _ => exact setCellF_keys _ _ _
  | 52, _ => rfl
  | 53, _ => exact storeF_keys _ _ _
  | 54, _ => exact setCellF_keys _ _ _
  | 55, _ => rfl
  | 56, _ => rfl
  | 57, _ => rfl
  | 58, _ => rfl
  | 59, _ => rfl
  | 60, _ => exact plotF_keys _ _ _ _
  | 61, _ => rfl
  | 62, _ => exact playF_keys _ _ _
  | 63, _ => exact storeF_keys m 65280 (x.getD 0 0 % 256)
  | k + 64, hk => exact absurd hk (by omega)
theorem doF_keys (k : Nat) (hk : k < 64) (d : List Int) (r : List (Int × Int)) (m : MemS) : keysF (doF k d r m).2.2 = keysF m := by
  by_cases hf : faultF k d r = 0
  · rw [doF_yes hf]; exact act_keys k hk _ _ _ _
  · rw [doF_no hf]
theorem two_banks {m : MemS} (h : keysF m = [0, 9]) : ∃ b0 b1, m.banks = [(0, b0), (9, b1)] := by
  unfold keysF at h
  match hb : m.banks, h with
  | [], h => simp at h
  | [p], h => simp at h
  | [p, q], h =>
    simp at h
    obtain ⟨h1, h2⟩ := h
    refine ⟨p.2, q.2, ?_⟩
    rw [← h1, ← h2]
  | p :: q :: s :: l, h => simp at h
end Go.Proofs.YtdnalhjdmlkbmaaGreatDoor
namespace Go.Proofs.YtdnalhjdmlkbmaaGreatDoor
open Go.RowKit

theorem Tryz.stood111 : Tryz.prog.stoodInHeld 111 = false := by kernel_rfl
theorem eql43 (a b c d : Int) (w : World) : (Op.equalIn 10000 111 (.agg #[.int .i64 a, .int .u16 b]) (.agg #[.int .i64 c, .int .u16 d])).run Tryz.prog w = .ok (a == c && b == d) w := by
  have ht : Tryz.prog.underlying 111 = some (.struct (Tryz.prog.fieldsOf 111)) := by simp only [Program.fieldsOf, Tryz.underlying111]
  rw [show (10000 : Nat) = 9998 + 1 + 1 from rfl, run_equalIn_struct w (9998 + 1) 111 _ _ ht Tryz.stood111]
  simp only [Program.fieldsOf, Tryz.underlying111]
  by_cases e : a = c
  · by_cases e2 : b = d
    · simp [Op.eqFields, go_sem, e, e2]
    · have e2' : (b == d) = false := by simpa using e2
      simp [Op.eqFields, go_sem, e, e2']
  · have e' : (a == c) = false := by simpa using e
    simp [Op.eqFields, go_sem, e']
theorem take_ext {α : Type} {l m : List α} {k : Nat} (h : l.take k = m.take k) {x y : α} (hx : l[k]? = some x) (hy : m[k]? = some y) (e : x = y) : l.take (k + 1) = m.take (k + 1) := by
  rw [List.take_add_one, List.take_add_one, h, hx, hy, e]

set_option maxHeartbeats 400000 in
theorem sameR_any (a b : Option Addr) (n c m d : Nat) (l k : List (Int × Int)) (w : World) (hl : l.length = n) (hk : k.length = m) (hn : n ≤ 9223372036854775807) (hm : m ≤ 9223372036854775807) (ha : Reads w a (cellsR l)) (hb : Reads w b (cellsR k)) :
    Calls Tryz.prog 81 #[.slice a n c, .slice b m d] w fun e w' => e = .returned (.bool (decide (l = k))) ∧ ∃ q, w' = w.drewN q := by
  have HL := Lib.hid hl
  have HK := Lib.hid hk
  have HA := Lib.hid ha
  have HB := Lib.hid hb
  clear hl hk ha hb
  by_cases hnm : n = m
  · subst hnm
    go_enter Tryz.func81, Tryz.ntmps81
    go_wp2
    go_loopw [5] (fun s5 wr => ∃ j : Nat, j ≤ n ∧ s5 = .int .i64 j ∧ l.take j = k.take j ∧ ∃ q, wr = w.drewN q) (fun s5 _ => n - (intOf s5).toNat)
    case atStart => exact ⟨0, by omega, rfl, rfl, 0, rfl⟩
    case round =>
      obtain ⟨j, hj, rfl, htk, q, rfl⟩ := hrel
      have HT := Lib.hid htk
      clear htk
      by_cases hlt : j < n
      · obtain ⟨x, hx⟩ : ∃ x, l[j]? = some x := ⟨l[j]'(by rw [HL.out]; omega), by simp⟩
        obtain ⟨y, hy⟩ : ∃ y, k[j]? = some y := ⟨k[j]'(by rw [HK.out]; omega), by simp⟩
        obtain ⟨ab, ao, rfl, hx1, hx2, _⟩ := HA.out.atR j x hx
        obtain ⟨bb, bo, rfl, hy1, hy2, _⟩ := HB.out.atR j y hy
        have HX := Lib.hid hx
        have HY := Lib.hid hy
        have hj0 : (0 : Int) ≤ (j : Int) := Int.natCast_nonneg _
        have hj1 : (j : Int) < (n : Int) := by omega
        clear hx hy
        have hE := eql43
        by_cases hxy : x = y
        · subst hxy
          go_wp2_with fail
          go_quiet (fail)
          go_wp2
          go_roundw
          case rel => exact ⟨j + 1, by omega, by go_num, take_ext HT.out HX.out HY.out rfl, _, rfl⟩
          case measure => simp [intOf]; omega
        · have hb : (x.1 == y.1 && x.2 == y.2) = false := by
            simp only [Bool.and_eq_false_iff, beq_eq_false_iff_ne]
            by_cases e : x.1 = y.1
            · exact .inr fun e2 => hxy (Prod.ext e e2)
            · exact .inl e
          have hne : l ≠ k := by
            intro e
            have h1 := HX.out
            have h2 := HY.out
            rw [e, h2] at h1
            exact hxy (by simpa using h1.symm)
          have HNE := Lib.hid hne
          clear hxy hne
          go_wp2_with fail
          go_quiet (fail)
          go_wp2
          go_ret
          exact ⟨by rw [decide_eq_false HNE.out]; rfl, q + nq, by simp⟩
      · have heq : l = k := by
          have h := HT.out
          rwa [List.take_of_length_le (by rw [HL.out]; omega), List.take_of_length_le (by rw [HK.out]; omega)] at h
        have HEQ := Lib.hid heq
        clear heq
        go_wp2
        go_ret
        exact ⟨by rw [decide_eq_true HEQ.out]; rfl, _, rfl⟩
  · have hne : l ≠ k := by
      intro e
      have h1 := HL.out
      rw [e, HK.out] at h1
      exact hnm h1.symm
    have HNE := Lib.hid hne
    have hb : ((n : Int) == (m : Int)) = false := by simp; omega
    have hb2 : ((n : Int) != (m : Int)) = true := by simp; omega
    clear hne
    go_enter Tryz.func81, Tryz.ntmps81
    go_wp2
    go_ret
    exact ⟨by rw [decide_eq_false HNE.out]; rfl, 0, rfl⟩

set_option maxHeartbeats 400000 in
theorem sameU_any (a b : Option Addr) (n c m d : Nat) (l k : List Int) (w : World) (hl : l.length = n) (hk : k.length = m) (hn : n ≤ 9223372036854775807) (hm : m ≤ 9223372036854775807) (ha : Reads w a (cellsU l)) (hb : Reads w b (cellsU k)) :
    Calls Tryz.prog 48 #[.slice a n c, .slice b m d] w fun e w' => e = .returned (.bool (decide (l = k))) ∧ ∃ q, w' = w.drewN q := by
  have HL := Lib.hid hl
  have HK := Lib.hid hk
  have HA := Lib.hid ha
  have HB := Lib.hid hb
  clear hl hk ha hb
  by_cases hnm : n = m
  · subst hnm
    go_enter Tryz.func48, Tryz.ntmps48
    go_wp2
    go_loopw [5] (fun s5 wr => ∃ j : Nat, j ≤ n ∧ s5 = .int .i64 j ∧ l.take j = k.take j ∧ ∃ q, wr = w.drewN q) (fun s5 _ => n - (intOf s5).toNat)
    case atStart => exact ⟨0, by omega, rfl, rfl, 0, rfl⟩
    case round =>
      obtain ⟨j, hj, rfl, htk, q, rfl⟩ := hrel
      have HT := Lib.hid htk
      clear htk
      by_cases hlt : j < n
      · obtain ⟨x, hx⟩ : ∃ x, l[j]? = some x := ⟨l[j]'(by rw [HL.out]; omega), by simp⟩
        obtain ⟨y, hy⟩ : ∃ y, k[j]? = some y := ⟨k[j]'(by rw [HK.out]; omega), by simp⟩
        obtain ⟨ab, ao, rfl, hx1, _⟩ := HA.out.atU j x hx
        obtain ⟨bb, bo, rfl, hy1, _⟩ := HB.out.atU j y hy
        have HX := Lib.hid hx
        have HY := Lib.hid hy
        have hj0 : (0 : Int) ≤ (j : Int) := Int.natCast_nonneg _
        have hj1 : (j : Int) < (n : Int) := by omega
        clear hx hy
        by_cases hxy : x = y
        · subst hxy
          go_wp2_with fail
          go_quiet (fail)
          go_wp2
          go_roundw
          case rel => exact ⟨j + 1, by omega, by go_num, take_ext HT.out HX.out HY.out rfl, _, rfl⟩
          case measure => simp [intOf]; omega
        · have hb : (x != y) = true := by simpa using hxy
          have hb2 : (x == y) = false := by simpa using hxy
          have hne : l ≠ k := by
            intro e
            have h1 := HX.out
            have h2 := HY.out
            rw [e, h2] at h1
            exact hxy (by simpa using h1.symm)
          have HNE := Lib.hid hne
          clear hne
          go_wp2_with fail
          go_quiet (fail)
          go_wp2
          go_ret
          exact ⟨by rw [decide_eq_false HNE.out]; rfl, q + nq, by simp⟩
      · have heq : l = k := by
          have h := HT.out
          rwa [List.take_of_length_le (by rw [HL.out]; omega), List.take_of_length_le (by rw [HK.out]; omega)] at h
        have HEQ := Lib.hid heq
        clear heq
        go_wp2
        go_ret
        exact ⟨by rw [decide_eq_true HEQ.out]; rfl, _, rfl⟩
  · have hne : l ≠ k := by
      intro e
      have h1 := HL.out
      rw [e, HK.out] at h1
      exact hnm h1.symm
    have HNE := Lib.hid hne
    have hb : ((n : Int) == (m : Int)) = false := by simp; omega
    have hb2 : ((n : Int) != (m : Int)) = true := by simp; omega
    clear hne
    go_enter Tryz.func48, Tryz.ntmps48
    go_wp2
    go_ret
    exact ⟨by rw [decide_eq_false HNE.out]; rfl, 0, rfl⟩

end Go.Proofs.YtdnalhjdmlkbmaaGreatDoor
namespace Go.Proofs.YtdnalhjdmlkbmaaGreatDoor
open Go.RowKit

/-- A row that was made from nothing may be given to whomever. -/
theorem fresh_row {e size : Nat} {w w' : World} {Gx : Nat → Nat} {v : Value} {n : Nat} {xs : List Value} (ha : Adv (fun o => o = 9) w (fun _ => 0) w' Gx) (hr : Row e size w' Gx 9 v n xs) (G : Nat → Nat) (p : Nat) :
    Adv (fun _ => False) w G w' (newTo w G p) ∧ Row e size w' (newTo w G p) p v n xs := by
  refine ⟨ha.relabel (fun _ _ => by decide) (fun _ hb => newTo_old hb), hr.row, fun b hb => ?_⟩
  have h9 := hr.own b hb
  refine newTo_new ?_
  apply Nat.le_of_not_lt
  intro hlt
  rw [ha.own b hlt] at h9
  exact absurd h9 (by decide)
theorem tonesC_length (l : List (Int × Int × Int)) : (tonesC l).length = l.length * 3 := by
  induction l with
  | nil => rfl
  | cons a l ih => simp only [tonesC, List.flatMap_cons, List.length_append, List.length_cons, List.length_nil] at ih ⊢; omega
theorem tonesC_one (l : List (Int × Int × Int)) : ∀ u ∈ tonesC l, u.oneCell' = true := by
  intro u hu
  simp only [tonesC, List.mem_flatMap] at hu
  obtain ⟨t, _, ht⟩ := hu
  simp at ht
  rcases ht with rfl | rfl | rfl <;> rfl
/-- Tones in new memory. -/
def NewTones (w : World) (G : Nat → Nat) (p n : Nat) (l : List (Int × Int × Int)) (e : Ending) (w' : World) : Prop := ∃ ta' c' G', e = .returned (.slice ta' n c') ∧ Adv (fun _ => False) w G w' G' ∧ Row 152 3 w' G' p (.slice ta' n c') n (tonesC l)
set_option maxRecDepth 100000 in
set_option maxHeartbeats 400000 in
theorem clone_tones (G : Nat → Nat) (q p : Nat) (ta : Option Addr) (n c : Nat) (l : List (Int × Int × Int)) (hn : n ≤ 1000000) (w : World) (hl : l.length = n) (hr : Row 152 3 w G q (.slice ta n c) n (tonesC l)) :
    Calls Tryz.prog 107 #[.slice ta n c] w (NewTones w G p n l) := by
  obtain ⟨i0, hi, hz0, hz1, hz2⟩ := info_parts Tryz.info152
  have hE := fun (w : World) (a : Option Addr) (l c : Nat) => Lib.run_eql_slice_nil (P := Tryz.prog) w 72 152 a l c 0 0 Tryz.underlying72
  rcases hr.row.2 with ⟨e, e2⟩ | ⟨g, cap, cur, e, _⟩
  · cases e
    obtain rfl := List.eq_nil_of_length_eq_zero hl
    clear e2
    go_enter Tryz.func107, Tryz.ntmps107
    go_wp2
    go_ret
    exact ⟨none, 0, G, rfl, Adv.refl _ _ _, Row.nil _ _ _ _ _⟩
  · cases e
    have HX := Lib.hid (hr.reads.alloc (.cells #[] 152))
    have HA0 := Lib.hid ((Adv.refl (fun b => b = 9) w (fun _ => 0)).alloc (.cells #[] 152) 9)
    have HR0 := Lib.hid (Row.new w (fun _ => 0) 152 3 9 0 [] (Nat.zero_le _) rfl)
    have HL := Lib.hid hl
    clear hr hl
    go_enter Tryz.func107, Tryz.ntmps107
    go_wp2_with (at_builtin; refine wpList_append_reads rfl (.tmp 5) (.tmp 6) 72 rfl 152 i0 (.agg #[.int .i64 0, .int .u16 0, .int .u8 0]) 3 16 Tryz.underlying72 hi hz0 hz1 hz2 rfl (by decide) _ 9 (some ⟨w.heap.size, 0, none⟩) 0 0 [] rfl HR0.out (some ⟨g, 0, none⟩) n c (tonesC l) rfl (by rw [tonesC_length, HL.out]) HX.out (tonesC_one l) (by unfold maxLen; omega) (by omega) ?_; intro va1 vc1 w1 G1 h1 h2; rw [Nat.zero_add, List.nil_append] at h1; rw [Nat.zero_add]; have HR1 := Lib.hid h1; have HA1 := Lib.hid (HA0.out.trans h2); clear h1 h2)
    go_ret
    exact ⟨va1, vc1, _, rfl, fresh_row HA1.out HR1.out G p⟩
/-- Tones. -/
theorem tones_any (G : Nat → Nat) (q p M : Nat) (m : MemS) (hm : MemOk m) (hn : m.tones.length ≤ 1000000) (w : World) (hp : PM w G q M m) :
    Calls Tryz.prog 84 #[.pointer (some ⟨M, 0, none⟩)] w (NewTones w G p m.tones.length m.tones) := by
  obtain ⟨B, bs, tv, hp⟩ := hp
  obtain ⟨_, _, _, _, _, _, c6⟩ := hp.ports hm
  obtain ⟨ta, c, rfl, _⟩ := hp.tones.slice
  have HR := Lib.hid hp.tones
  clear hp
  go_enter Tryz.func84, Tryz.ntmps84
  go_wp2_with fail
  refine (clone_tones G q p ta _ c m.tones hn _ rfl HR.out).mono ?_
  rintro e w' ⟨ta', c', G', rfl, ha, hr⟩
  have H := Lib.hid (And.intro ha hr)
  clear ha hr
  go_wp2_with fail
  go_ret
  exact ⟨ta', c', G', rfl, H.out.1, H.out.2⟩
set_option maxHeartbeats 400000 in
theorem sameL_any (a b : Option Addr) (n c m d : Nat) (l k : List Int) (w : World) (hl : l.length = n) (hk : k.length = m) (hn : n ≤ 9223372036854775807) (hm : m ≤ 9223372036854775807) (ha : Reads w a (cellsU l)) (hb : Reads w b (cellsU k)) :
    Calls Tryz.prog 35 #[.slice a n c, .slice b m d] w fun e w' => e = .returned (.bool (decide (l = k))) ∧ ∃ q, w' = w.drewN q := by
  have HL := Lib.hid hl
  have HK := Lib.hid hk
  have HA := Lib.hid ha
  have HB := Lib.hid hb
  clear hl hk ha hb
  by_cases hnm : n = m
  · subst hnm
    go_enter Tryz.func35, Tryz.ntmps35
    go_wp2
    go_loopw [5] (fun s5 wr => ∃ j : Nat, j ≤ n ∧ s5 = .int .i64 j ∧ l.take j = k.take j ∧ ∃ q, wr = w.drewN q) (fun s5 _ => n - (intOf s5).toNat)
    case atStart => exact ⟨0, by omega, rfl, rfl, 0, rfl⟩
    case round =>
      obtain ⟨j, hj, rfl, htk, q, rfl⟩ := hrel
      have HT := Lib.hid htk
      clear htk
      by_cases hlt : j < n
      · obtain ⟨x, hx⟩ : ∃ x, l[j]? = some x := ⟨l[j]'(by rw [HL.out]; omega), by simp⟩
        obtain ⟨y, hy⟩ : ∃ y, k[j]? = some y := ⟨k[j]'(by rw [HK.out]; omega), by simp⟩
        obtain ⟨ab, ao, rfl, hx1, _⟩ := HA.out.atU j x hx
        obtain ⟨bb, bo, rfl, hy1, _⟩ := HB.out.atU j y hy
        have HX := Lib.hid hx
        have HY := Lib.hid hy
        have hj0 : (0 : Int) ≤ (j : Int) := Int.natCast_nonneg _
        have hj1 : (j : Int) < (n : Int) := by omega
        clear hx hy
        by_cases hxy : x = y
        · subst hxy
          go_wp2_with fail
          go_quiet (fail)
          go_wp2
          go_roundw
          case rel => exact ⟨j + 1, by omega, by go_num, take_ext HT.out HX.out HY.out rfl, _, rfl⟩
          case measure => simp [intOf]; omega
        · have hb : (x != y) = true := by simpa using hxy
          have hb2 : (x == y) = false := by simpa using hxy
          have hne : l ≠ k := by
            intro e
            have h1 := HX.out
            have h2 := HY.out
            rw [e, h2] at h1
            exact hxy (by simpa using h1.symm)
          have HNE := Lib.hid hne
          clear hne
          go_wp2_with fail
          go_quiet (fail)
          go_wp2
          go_ret
          exact ⟨by rw [decide_eq_false HNE.out]; rfl, q + nq, by simp⟩
      · have heq : l = k := by
          have h := HT.out
          rwa [List.take_of_length_le (by rw [HL.out]; omega), List.take_of_length_le (by rw [HK.out]; omega)] at h
        have HEQ := Lib.hid heq
        clear heq
        go_wp2
        go_ret
        exact ⟨by rw [decide_eq_true HEQ.out]; rfl, _, rfl⟩
  · have hne : l ≠ k := by
      intro e
      have h1 := HL.out
      rw [e, HK.out] at h1
      exact hnm h1.symm
    have HNE := Lib.hid hne
    have hb : ((n : Int) == (m : Int)) = false := by simp; omega
    have hb2 : ((n : Int) != (m : Int)) = true := by simp; omega
    clear hne
    go_enter Tryz.func35, Tryz.ntmps35
    go_wp2
    go_ret
    exact ⟨by rw [decide_eq_false HNE.out]; rfl, 0, rfl⟩

end Go.Proofs.YtdnalhjdmlkbmaaGreatDoor
namespace Go.Proofs.YtdnalhjdmlkbmaaGreatDoor
open Go.RowKit

set_option maxRecDepth 100000 in
set_option maxHeartbeats 1000000 in
theorem doDo_any (G : Nat → Nat) (i j D K R : Nat) (M : Option Addr) (base : List Int) (a b : Int) (rl : List (Int × Int)) (hi : i ≠ 0) (hj : j ≠ 0) (hij : i ≠ j) (hroom : rl.length + 2 ≤ 128)
    (w : World) (hp : PU w G i D (base ++ [a, b])) (hr : PR w G j R rl) (hk : Desk w G K D R M) :
    Calls Tryz.prog 180 #[.pointer (some ⟨K, 0, none⟩)] w fun e w' => e = .returned (.tuple #[]) ∧ ∃ G', Adv (fun o => o = i ∨ o = j) w G w' G' ∧ PU w' G' i D base ∧ PR w' G' j R (rl ++ [(2, a), (3, b)]) := by
  have HP := Lib.hid hp
  have HR := Lib.hid hr
  have HK := Lib.hid hk
  clear hp hr hk
  go_enter Tryz.func180, Tryz.ntmps180
  go_wp2_with fail
  refine (taken_any G i D K R M base [a, b] 2 rfl (by decide) (by decide) hi _ HP.out HK.out).mono ?_
  rintro e w1 ⟨B, G1, rfl, ha1, hp1, hrow⟩
  have HK1 := HK.out.adv ha1 (Ne.symm hi)
  have HR1 := Lib.hid (HR.out.adv ha1 (Ne.symm hij))
  have cR := HK1.r
  have c0 := (hrow.at (by decide)).2.2.2 0 _ rfl
  have c1 := (hrow.at (by decide)).2.2.2 1 _ rfl
  have gB := (hrow.at (by decide)).2.1
  have gK := HK1.2
  have hkk : ∀ (S : Nat → Prop) (w' : World) (G' : Nat → Nat), ¬ S 0 → Adv S w1 G1 w' G' → w'.cell? ⟨K, 1, none⟩ = some (.pointer (some ⟨R, 0, none⟩)) ∧ w'.cell? ⟨B, 0, none⟩ = some (.int .u16 a) ∧ w'.cell? ⟨B, 1, none⟩ = some (.int .u16 b) := fun S w' G' hs h =>
    ⟨h.cell_some (p := ⟨K, 1, none⟩) cR (by show ¬ S (G1 K); rw [gK]; exact hs), h.cell_some (p := ⟨B, 0, none⟩) c0 (by show ¬ S (G1 B); rw [gB]; exact hs), h.cell_some (p := ⟨B, 1, none⟩) c1 (by show ¬ S (G1 B); rw [gB]; exact hs)⟩
  have HKK := Lib.hid hkk
  have HA1 := Lib.hid ha1
  have HP1 := Lib.hid hp1
  clear ha1 hp1 HK1 hrow gB gK hkk
  go_upto_region 1 with fail
  go_region_held3 (fun w' => w'.cell? ⟨K, 1, none⟩ = some (.pointer (some ⟨R, 0, none⟩)) ∧ w'.cell? ⟨B, 0, none⟩ = some (.int .u16 a) ∧ w'.cell? ⟨B, 1, none⟩ = some (.int .u16 b)) (first | exact ⟨cR, c0, c1⟩ | exact HKK.out (fun _ => False) _ _ id ((Adv.refl _ w1 G1).alloc _ 0).drew | exact KR.out)
    ((go_at_call 41; refine (pushPR (own1 w1 G1 0) j R rl [(2, a), (3, b)] _ 2 2 _ (HR1.out.alloc _ 0).drew rfl hroom (Reads.new _ (cellsR [(2, a), (3, b)]) 111)).mono ?_; rintro e w2 ⟨rfl, G2, ha2, hr2⟩; have HA2 := Lib.hid (((Adv.refl (fun o => o = j) w1 G1).alloc _ 0).drew.trans ha2); have KR := Lib.hid (HKK.out (fun o => o = j) _ _ (Ne.symm hj) HA2.out); have HR2 := Lib.hid hr2; clear ha2 hr2))
  go_wp2_with fail
  go_end0
  exact ⟨rfl, G2, (HA1.out.mono fun _ h => .inl h).trans (HA2.out.mono fun _ h => .inr h), HP1.out.adv HA2.out hij, HR2.out⟩
set_option maxRecDepth 100000 in
set_option maxHeartbeats 1000000 in
theorem sees_any (G : Nat → Nat) (i j D K R : Nat) (M : Option Addr) (l : List Int) (rl : List (Int × Int)) (n kind : Int) (hroom : l.length + 1 ≤ 256) (hrl : rl.length ≤ 128)
    (w : World) (hp : PU w G i D l) (hr : PR w G j R rl) (hk : Desk w G K D R M) :
    Calls Tryz.prog 200 #[.pointer (some ⟨K, 0, none⟩), .int .i64 n, .int .i64 kind] w fun e w' => e = .returned (.tuple #[]) ∧ ∃ G', Adv (fun o => o = i) w G w' G' ∧ PU w' G' i D (l ++ [atV rl n kind]) := by
  have HP := Lib.hid hp
  have cR := hk.r
  have cD := hk.d
  have HR := Lib.hid hr
  clear hp hr
  go_enter Tryz.func200, Tryz.ntmps200
  go_wp2_with fail
  refine (atPR G j R rl n kind _ HR.out (by omega)).mono ?_
  rintro e w1 ⟨rfl, d, rfl⟩
  have HA := Lib.hid (((Adv.refl (fun o => o = i) w G).drewN d).alloc (.cells #[.int .u16 (atV rl n kind)] 31) 0)
  have HPd := Lib.hid ((HP.out.drewN d).alloc (.cells #[.int .u16 (atV rl n kind)] 31) 0)
  go_wp2_with fail
  refine (pushPU (own1 (w.drewN d) G 0) i D l [atV rl n kind] _ 1 1 _ HPd.out rfl hroom (Reads.new (w.drewN d) (cellsU [atV rl n kind]) 31)).mono ?_
  rintro e w2 ⟨rfl, G2, ha2, hp2⟩
  have HF := Lib.hid (And.intro (HA.out.trans ha2) hp2)
  clear ha2 hp2
  go_wp2_with fail
  go_end0
  exact ⟨rfl, G2, HF.out.1, HF.out.2⟩
theorem doIndex_any (G : Nat → Nat) (i j D K R : Nat) (M : Option Addr) (l : List Int) (rl : List (Int × Int)) (hroom : l.length + 1 ≤ 256) (hrl : rl.length ≤ 128)
    (w : World) (hp : PU w G i D l) (hr : PR w G j R rl) (hk : Desk w G K D R M) :
    Calls Tryz.prog 189 #[.pointer (some ⟨K, 0, none⟩)] w fun e w' => e = .returned (.tuple #[]) ∧ ∃ G', Adv (fun o => o = i) w G w' G' ∧ PU w' G' i D (l ++ [atV rl 0 3]) := by
  have HP := Lib.hid hp
  have HR := Lib.hid hr
  have HK := Lib.hid hk
  clear hp hr hk
  go_enter Tryz.func189, Tryz.ntmps189
  go_wp2_with fail
  refine (sees_any G i j D K R M l rl 0 3 hroom hrl _ HP.out HR.out HK.out).mono ?_
  rintro e w2 ⟨rfl, G2, ha2, hp2⟩
  have HF := Lib.hid (And.intro ha2 hp2)
  clear ha2 hp2
  go_wp2_with fail
  go_end0
  exact ⟨rfl, G2, HF.out.1, HF.out.2⟩
end Go.Proofs.YtdnalhjdmlkbmaaGreatDoor
namespace Go.Proofs.YtdnalhjdmlkbmaaGreatDoor
open Go.RowKit Go.Shelf
attribute [local go_sem] Oper.semAt_some

theorem Adv.grown {w w' : World} {G G' : Nat → Nat} (h : Adv (fun _ => False) w G w' G') : w.grownBy w' none := ⟨h.os, h.tape, h.output, h.size, fun k hk _ => h.keep k hk id⟩
theorem Adv.ofBelow {w w' : World} (G : Nat → Nat) (h : Below w.heap.size w w') : Adv (fun _ => False) w G w' (fun b => if b < w.heap.size then G b else 0) :=
  ⟨h.os, h.tape, h.output, h.size, fun _ hb => if_pos hb, fun b hb _ => h.block b hb⟩
def upTo (k : Nat) : List Nat := (List.range k).map (· + 1)
theorem upTo_succ (k : Nat) : upTo (k + 1) = upTo k ++ [k + 1] := by simp [upTo, List.range_succ]
theorem upTo_prefix (j k : Nat) (h : j ≤ k) : upTo j <+: upTo k := by
  unfold upTo
  refine List.IsPrefix.map _ ?_
  rw [List.prefix_iff_eq_take, List.length_range, List.take_range, Nat.min_eq_left h]
theorem upTo_length (k : Nat) : (upTo k).length = k := by simp [upTo]
theorem Tabs.below {n₀ : Nat} {A B : World} (h : Below n₀ A B) (hn : 4 ≤ n₀) (ht : Tabs A (fun _ => 0)) : Tabs B (fun _ => 0) :=
  ⟨fun k hk => (h.cell (p := ⟨_, k, none⟩) (by dsimp only; omega)).trans (ht.names k hk), fun k hk => (h.cell (p := ⟨_, k, none⟩) (by dsimp only; omega)).trans (ht.takes k hk),
    fun k hk => (h.cell (p := ⟨_, k, none⟩) (by dsimp only; omega)).trans (ht.leaves k hk), fun k hk => (h.cell (p := ⟨_, k, none⟩) (by dsimp only; omega)).trans (ht.costs k hk), rfl, rfl, rfl, rfl⟩
set_option maxRecDepth 100000 in
set_option maxHeartbeats 1000000 in
theorem all1_in (n : Nat) (hn : 1 ≤ n) (l n₀ : Nat) (hn₀ : 4 ≤ n₀) (J Jx : List Nat → World → Prop) (W : World) (hJ : AbidesFrom W.heap.size J) (ht : Tabs W (fun _ => 0))
    (hY : ∀ pre x W, J pre W → pre.length < 63 → YieldAt Fence.wide (n - 1) Tryz.prog l #[primV x] W fun e W' =>
      (e = .returned (.bool true) ∧ J (pre ++ [x]) W' ∧ Below n₀ W W') ∨ (e = .returned (.bool false) ∧ Jx (pre ++ [x]) W'))
    (h0 : J [] W) :
    CallsIn Fence.wide n Tryz.prog 133 #[.func (.yield l) #[] #[]] W fun e W' => (∃ v, e = .returned v) ∧
      ((∃ ys, ys = upTo 63 ∧ J ys W') ∨ (∃ pre, pre <+: upTo 63 ∧ Jx pre W')) := by
  have HT := Lib.hid ht
  have HJ := Lib.hid hJ
  have HY := Lib.hid hY
  clear ht hJ hY
  refine callsIn_of_wp Tryz.func133 rfl trivial ?_ rfl
  simp only [Tryz.ntmps133, List.size_toArray, List.length_cons, List.length_nil, Nat.reduceAdd, Nat.reduceSub, Array.replicate_succ, Array.replicate_zero, List.push_toArray, List.append_toArray, List.nil_append, List.cons_append]
  gi_wp2
  gi_loopw [2] (fun v wr => ∃ k : Nat, 1 ≤ k ∧ k ≤ 64 ∧ v = .int .i64 k ∧ J (upTo (k - 1)) wr ∧ Tabs wr (fun _ => 0)) (fun v _ => 64 - (intOf v).toNat)
  case atStart => exact ⟨1, by omega, by omega, rfl, h0, HT.out⟩
  case round =>
    obtain ⟨k, h1, h2, rfl, h3, h4⟩ := hrel
    by_cases hlt : k < 64
    · have H3 := Lib.hid h3
      have H4 := Lib.hid h4
      clear h3 h4
      gi_wp2_with (fail)
      refine ⟨trivial, ?_⟩
      refine (callsIn_wide.2 (primOf_any (fun _ => 0) k hlt _ H4.out)).mono ?_
      rintro e w1 ⟨rfl, G1, ha1⟩
      have hJ1 := HJ.out _ _ _ _ H3.out ha1.grown (fun r e => by cases e)
      have ht1 := H4.out.adv ha1 id
      obtain ⟨fn, tmps, assign, body, hy, hR⟩ := HY.out (upTo (k - 1)) k w1 hJ1 (by rw [upTo_length]; omega)
      have HT1 := Lib.hid (show Tabs w1 (fun _ => 0) from ⟨ht1.names, ht1.takes, ht1.leaves, ht1.costs, rfl, rfl, rfl, rfl⟩)
      clear hJ1 ht1 ha1
      gi_wp2
      refine hR.mono ?_
      rintro e W3 (⟨rfl, hJ3, hk3⟩ | ⟨rfl, hJx3⟩)
      · have HF := Lib.hid (And.intro hJ3 (Tabs.below hk3 hn₀ HT1.out))
        clear hJ3 hk3
        gi_wp2
        go_roundw
        case rel =>
          refine ⟨k + 1, by omega, by omega, by go_num, ?_, HF.out.2⟩
          rw [Nat.add_sub_cancel, show k = k - 1 + 1 from by omega, upTo_succ]
          have := HF.out.1
          rwa [show k - 1 + 1 = k from by omega]
        case measure => simp [intOf]; omega
      · gi_wp2
        refine bodyPost_ret (results_none rfl _ _ _) rfl ?_
        refine ⟨⟨_, rfl⟩, .inr ⟨upTo (k - 1) ++ [k], ?_, hJx3⟩⟩
        have e : upTo (k - 1) ++ [k] = upTo k := by
          have := upTo_succ (k - 1)
          rw [show k - 1 + 1 = k from by omega] at this
          exact this.symm
        rw [e]
        exact upTo_prefix k 63 (by omega)
    · have hk : k = 64 := by omega
      have HF := Lib.hid (And.intro h3 hk)
      clear h3 h4 hk
      gi_wp2
      go_end0
      refine ⟨⟨_, rfl⟩, .inl ⟨upTo 63, rfl, ?_⟩⟩
      have := HF.out.1
      rwa [HF.out.2] at this
theorem all_any (w : World) : Calls Tryz.prog 94 #[] w fun e w' => e = .returned (.func (.func 133) #[] #[]) ∧ w = w' := by
  go_enter Tryz.func94, Tryz.ntmps94
  go_wp2
  go_ret
  exact ⟨rfl, rfl⟩
theorem all_stops (n : Nat) (hn : 1 ≤ n) (n₀ : Nat) (hn₀ : 4 ≤ n₀) (w : World) (ht : Tabs w (fun _ => 0)) :
    SeqStopsK Fence.wide n Tryz.prog 133 #[] (fun x : Nat => #[primV x]) (Below n₀) (fun ys => ys = upTo 63) (fun pre => pre <+: upTo 63) 63 w := fun l J Jx W hW hJ _ hY h0 =>
  all1_in n hn l n₀ hn₀ J Jx W hJ (Tabs.below (n₀ := w.heap.size) hW (by have := World.block_lt_of_cell? w _ (ht.names 0 (by omega)); have := World.block_lt_of_cell? w _ (ht.takes 0 (by omega)); have := World.block_lt_of_cell? w _ (ht.leaves 0 (by omega)); have := World.block_lt_of_cell? w _ (ht.costs 0 (by omega)); simp at *; omega) ht) hY h0
end Go.Proofs.YtdnalhjdmlkbmaaGreatDoor
namespace Go.Proofs.YtdnalhjdmlkbmaaGreatDoor
open Go.RowKit Go.Shelf
attribute [local go_sem] Oper.semAt_some

/-- Block B holds these cells, all of them. -/
def BoxN (W : World) (B : Nat) (T : TypeId) (C : Array Value) : Prop := W.heap[B]? = some (.cells C T (0, 0))
theorem boxN_own {β : Type} (B : Nat) (T : TypeId) (f : β → Array Value) : Own (fun s W => BoxN W B T (f s)) := fun s X Y row hs hg hrow => by
  have hs' : X.heap[B]? = some (.cells (f s) T (0, 0)) := hs
  exact (hg.block B (Array.getElem?_eq_some_iff.1 hs').1 (fun e => by
    obtain ⟨o, ho, hc⟩ := hrow B e.symm
    rw [hs'] at ho; cases ho; cases hc)).trans hs'
theorem BoxN.new (W : World) (T : TypeId) (C : Array Value) : BoxN (W.alloc (.cells C T)) W.heap.size T C := heap_alloc_new W _
theorem BoxN.alloc {W : World} {B : Nat} {T : TypeId} {C : Array Value} (h : BoxN W B T C) (o : Obj) : BoxN (W.alloc o) B T C :=
  (heap_past W o B (Array.getElem?_eq_some_iff.1 (show W.heap[B]? = _ from h)).1).trans h
theorem BoxN.lt {W : World} {B : Nat} {T : TypeId} {C : Array Value} (h : BoxN W B T C) : B < W.heap.size := (Array.getElem?_eq_some_iff.1 (show W.heap[B]? = _ from h)).1
theorem BoxN.set {W : World} {B : Nat} {T : TypeId} {C : Array Value} (h : BoxN W B T C) (j : Nat) (v : Value) : BoxN (W.setCell ⟨B, j, none⟩ v) B T (C.setIfInBounds j v) := by
  unfold BoxN at h ⊢
  simp only [World.setCell, Array.getElem?_modify, h]; simp
theorem BoxN.other {W : World} {B B' : Nat} {T : TypeId} {C : Array Value} (h : BoxN W B T C) (hne : B ≠ B') (j : Nat) (v : Value) : BoxN (W.setCell ⟨B', j, none⟩ v) B T C :=
  (Below.heap_setCell _ _ _ _ hne).trans h
theorem BoxN.putObj {W : World} {B D : Nat} {T : TypeId} {C : Array Value} (h : BoxN W B T C) (o : Obj) (hne : B ≠ D) : BoxN (W.putObj D o) B T C := (World.putObj_heap_other hne).trans h

/-- The place of a name in the table; 64: it has none. -/
def nameIx (s : ByteArray) : Nat := 9 + (List.range 55).findIdx (fun d => nameB (9 + d) == s)
def primC (k : Nat) : Array Value := #[.int .i64 k, .string (nameB k), .int .i64 (takesN k), .int .i64 (leavesN k), .int .i64 (costsN k), .bool (operandB k)]
def primC0 : Array Value := #[.int .i64 0, .string ⟨#[]⟩, .int .i64 0, .int .i64 0, .int .i64 0, .bool false]
/-- Is this row the one that is asked for? -/
def hitB (s : ByteArray) (k : Nat) : Bool := !s.toList.isEmpty && ((nameB k).toList == s.toList)
set_option maxRecDepth 100000 in
set_option maxHeartbeats 1000000 in
theorem named_in (s : ByteArray) (w : World) (ht : Tabs w (fun _ => 0)) :
    CallsIn Fence.wide 6 Tryz.prog 46 #[.string s] w fun e w' =>
      ((∃ pre k, pre ++ [k] <+: upTo 63 ∧ (∀ j ∈ pre, hitB s j = false) ∧ hitB s k = true ∧ e = .returned (.tuple #[primV k, .bool true])) ∨ ((∀ j ∈ upTo 63, hitB s j = false) ∧ e = .returned (.tuple #[primV0, .bool false]))) ∧ Below w.heap.size w w' := by
  refine callsIn_of_wp_marks Tryz.func46 rfl trivial ?_ rfl
  simp only [Tryz.ntmps46, List.size_toArray, List.length_cons, List.length_nil, Nat.reduceAdd, Nat.reduceSub, Array.replicate_succ, Array.replicate_zero, List.push_toArray, List.append_toArray, List.nil_append, List.cons_append]
  gi_wp2_with (fail)
  refine ⟨trivial, ?_⟩
  refine (callsIn_wide.2 (all_any _)).mono ?_
  rintro e w' ⟨rfl, rfl⟩
  gi_wp2_with (fail)
  have b1 := ((BoxN.new w 9 #[.string s]).alloc (.cells primC0 85)).alloc (.cells #[.bool false] 4)
  have b2 := (BoxN.new (w.alloc (.cells #[.string s] 9)) 85 primC0).alloc (.cells #[.bool false] 4)
  have b3 := BoxN.new ((w.alloc (.cells #[.string s] 9)).alloc (.cells primC0 85)) 4 #[.bool false]
  simp only [World.size_alloc] at b2 b3
  have hB0 : Below w.heap.size w (((w.alloc (.cells #[.string s] 9)).alloc (.cells primC0 85)).alloc (.cells #[.bool false] 4)) := (((Below.refl _ w).alloc (Nat.le_refl _) _).alloc (by simp) _).alloc (by simp; omega) _
  have h4 : 4 ≤ w.heap.size := by
    have := World.block_lt_of_cell? w _ (ht.names 0 (by omega)); have := World.block_lt_of_cell? w _ (ht.takes 0 (by omega)); have := World.block_lt_of_cell? w _ (ht.leaves 0 (by omega)); have := World.block_lt_of_cell? w _ (ht.costs 0 (by omega)); simp at *; omega
  have hsz : (((w.alloc (.cells #[.string s] 9)).alloc (.cells primC0 85)).alloc (.cells #[.bool false] 4)).heap.size = w.heap.size + 3 := by simp
  have hT0 := Tabs.below hB0 h4 ht
  change Code.wpIn _ _ _ _ _ _ (((w.alloc (.cells #[.string s] 9)).alloc (.cells primC0 85)).alloc (.cells #[.bool false] 4))
  obtain ⟨W0, hW0⟩ : ∃ W0, ((w.alloc (.cells #[.string s] 9)).alloc (.cells primC0 85)).alloc (.cells #[.bool false] 4) = W0 := ⟨_, rfl⟩
  rw [hW0] at b1 b2 b3 hB0 hsz hT0 ⊢
  clear hW0
  refine wpIn_rangeFunc_ownH rfl (by omega) (gf := 133) (lb := #[]) rfl trivial (enters_of Tryz.func133 (by kernel_rfl) rfl)
    (all_stops 5 (by omega) w.heap.size h4 W0 hT0) belowK_t (belowK_b (by omega)) (Below.refl _ _) (fun _ => rfl)
    (fun pre W => ((((∀ j ∈ pre, hitB s j = false) ∧ BoxN W w.heap.size 9 #[.string s]) ∧ BoxN W (w.heap.size + 1) 85 primC0) ∧ BoxN W (w.heap.size + 1 + 1) 4 #[.bool false]) ∧ Below w.heap.size w W)
    (fun c pre W => (((c = .ret ∧ ∃ pre' k, pre = pre' ++ [k] ∧ (∀ j ∈ pre', hitB s j = false) ∧ hitB s k = true) ∧ BoxN W (w.heap.size + 1) 85 (primC (pre.getLast?.getD 0))) ∧ BoxN W (w.heap.size + 1 + 1) 4 #[.bool true]) ∧ Below w.heap.size w W)
    (OwnFrom.and (OwnFrom.and (OwnFrom.and (OwnFrom.and (ownFrom_pure _ _) (Own.from (boxN_own _ _ _) _)) (Own.from (boxN_own _ _ _) _)) (Own.from (boxN_own _ _ _) _)) (ownFrom_below (Nat.le_refl _) (by omega)))
    (fun c => OwnFrom.and (OwnFrom.and (OwnFrom.and (ownFrom_pure _ _) (Own.from (boxN_own _ _ _) _)) (Own.from (boxN_own _ _ _) _)) (ownFrom_below (Nat.le_refl _) (by omega)))
    ⟨⟨⟨⟨by simp, b1⟩, b2⟩, b3⟩, hB0⟩
    (fun x a' W => ∃ Bx, w.heap.size + 2 < Bx ∧ BoxN W Bx 85 (primC x) ∧ a' = { tmps := #[.string s, .pointer (some ⟨w.heap.size, 0, none⟩), .pointer (some ⟨w.heap.size + 1, 0, none⟩), .pointer (some ⟨w.heap.size + 1 + 1, 0, none⟩), .pointer (some ⟨Bx, 0, none⟩), .func (.func 133) #[] #[], primV x, undef, undef, undef, undef, undef, undef, undef, undef, undef, undef], defers := [] })
    (fun x a' _ X Y row hs hg hr => by obtain ⟨Bx, e1, e2, e3⟩ := hs; exact ⟨Bx, e1, boxN_own Bx 85 (fun (_ : Unit) => primC x) () X Y row e2 hg (fun r e => (hr r e).2), e3⟩)
    ?assign ?body ?done ?stop
  case assign =>
    rintro l pre x W K ⟨⟨⟨⟨hp, c1⟩, c2⟩, c3⟩, hB1⟩ hK
    have hz3 := c3.lt
    unfold primV at hK ⊢
    gi_wp2
    exact hK _ _ ((KeepsOthers.alloc _ _).from _) ((Below.refl _ W).alloc hB1.size _) ⟨⟨⟨⟨hp, c1.alloc _⟩, c2.alloc _⟩, c3.alloc _⟩, hB1.alloc hB1.size _⟩ ⟨W.heap.size, by omega, BoxN.new W _ _, rfl⟩
  case body =>
    rintro l pre x a' W hl ⟨r, hr⟩ ⟨⟨⟨⟨hp, c1⟩, c2⟩, c3⟩, hB1⟩ ⟨Bx, hBx, bX, rfl⟩ hlt
    have d1 : W.cell? ⟨w.heap.size, 0, none⟩ = some (.string s) := block_cell c1 0 _ rfl
    have x0 : W.cell? ⟨Bx, 0, none⟩ = some (.int .i64 x) := block_cell bX 0 _ rfl
    have x1 : W.cell? ⟨Bx, 1, none⟩ = some (.string (nameB x)) := block_cell bX 1 _ rfl
    have x2 : W.cell? ⟨Bx, 2, none⟩ = some (.int .i64 (takesN x)) := block_cell bX 2 _ rfl
    have x3 : W.cell? ⟨Bx, 3, none⟩ = some (.int .i64 (leavesN x)) := block_cell bX 3 _ rfl
    have x4 : W.cell? ⟨Bx, 4, none⟩ = some (.int .i64 (costsN x)) := block_cell bX 4 _ rfl
    have x5 : W.cell? ⟨Bx, 5, none⟩ = some (.bool (operandB x)) := block_cell bX 5 _ rfl
    have y0 : W.cell? ⟨w.heap.size + 1, 0, none⟩ = some (.int .i64 0) := block_cell c2 0 _ rfl
    have y1 : W.cell? ⟨w.heap.size + 1, 1, none⟩ = some (.string ⟨#[]⟩) := block_cell c2 1 _ rfl
    have y2 : W.cell? ⟨w.heap.size + 1, 2, none⟩ = some (.int .i64 0) := block_cell c2 2 _ rfl
    have y3 : W.cell? ⟨w.heap.size + 1, 3, none⟩ = some (.int .i64 0) := block_cell c2 3 _ rfl
    have y4 : W.cell? ⟨w.heap.size + 1, 4, none⟩ = some (.int .i64 0) := block_cell c2 4 _ rfl
    have y5 : W.cell? ⟨w.heap.size + 1, 5, none⟩ = some (.bool false) := block_cell c2 5 _ rfl
    have z0 : W.cell? ⟨w.heap.size + 1 + 1, 0, none⟩ = some (.bool false) := block_cell c3 0 _ rfl
    have fy := block_free c2
    have fz := block_free c3
    have HC := Lib.hid (And.intro hp (And.intro c1 (And.intro c2 (And.intro c3 (And.intro hB1 bX)))))
    clear hp c1 c2 c3 hB1 bX hr hl hlt
    unfold primV
    have hno : hitB s x = false → ∀ j ∈ pre ++ [x], hitB s j = false := fun h j hj => (List.mem_append.1 hj).elim (HC.out.1 j) (fun e => by simp at e; subst e; exact h)
    have HNO := Lib.hid hno
    clear hno
    cases he : s.toList.isEmpty with
    | true =>
      have HH := Lib.hid (show hitB s x = false by unfold hitB; rw [he]; rfl)
      gi_wp2
      exact ⟨KeepsFrom.refl _ _, Below.refl _ _, ⟨⟨⟨⟨HNO.out HH.out, HC.out.2.1⟩, HC.out.2.2.1⟩, HC.out.2.2.2.1⟩, HC.out.2.2.2.2.1⟩⟩
    | false =>
      cases hq : (nameB x).toList == s.toList with
      | false =>
        have HH := Lib.hid (show hitB s x = false by unfold hitB; rw [he, hq]; rfl)
        gi_wp2
        exact ⟨KeepsFrom.refl _ _, Below.refl _ _, ⟨⟨⟨⟨HNO.out HH.out, HC.out.2.1⟩, HC.out.2.2.1⟩, HC.out.2.2.2.1⟩, HC.out.2.2.2.2.1⟩⟩
      | true =>
        have HH := Lib.hid (show hitB s x = true by unfold hitB; rw [he, hq]; rfl)
        gi_wp2
        have e : (pre ++ [x]).getLast?.getD 0 = x := by simp
        have b2 := ((((((HC.out.2.2.1.set 0 (.int .i64 x)).set 1 (.string (nameB x))).set 2 (.int .i64 (takesN x))).set 3 (.int .i64 (leavesN x))).set 4 (.int .i64 (costsN x))).set 5 (.bool (operandB x))).other (B' := w.heap.size + 1 + 1) (by omega) 0 (.bool true)
        have b3 := ((((((HC.out.2.2.2.1.other (B' := w.heap.size + 1) (by omega) 0 (.int .i64 x)).other (B' := w.heap.size + 1) (by omega) 1 (.string (nameB x))).other (B' := w.heap.size + 1) (by omega) 2 (.int .i64 (takesN x))).other (B' := w.heap.size + 1) (by omega) 3 (.int .i64 (leavesN x))).other (B' := w.heap.size + 1) (by omega) 4 (.int .i64 (costsN x))).other (B' := w.heap.size + 1) (by omega) 5 (.bool (operandB x))).set 0 (.bool true)
        have b4 := ((((((HC.out.2.2.2.2.1.setCell (p := ⟨w.heap.size + 1, 0, none⟩) (by simp) (.int .i64 x)).setCell (p := ⟨w.heap.size + 1, 1, none⟩) (by simp) (.string (nameB x))).setCell (p := ⟨w.heap.size + 1, 2, none⟩) (by simp) (.int .i64 (takesN x))).setCell (p := ⟨w.heap.size + 1, 3, none⟩) (by simp) (.int .i64 (leavesN x))).setCell (p := ⟨w.heap.size + 1, 4, none⟩) (by simp) (.int .i64 (costsN x))).setCell (p := ⟨w.heap.size + 1, 5, none⟩) (by simp) (.bool (operandB x))).setCell (p := ⟨w.heap.size + 1 + 1, 0, none⟩) (by simp; omega) (.bool true)
        refine ⟨((((((KeepsOthers.setCell _ _ _).trans (KeepsOthers.setCell _ _ _)).trans (KeepsOthers.setCell _ _ _)).trans (KeepsOthers.setCell _ _ _)).trans (KeepsOthers.setCell _ _ _)).trans (KeepsOthers.setCell _ _ _)).trans (KeepsOthers.setCell _ _ _) |>.from _, ⟨⟨⟨⟨rfl, pre, x, rfl, HC.out.1, HH.out⟩, ?_⟩, b3⟩, b4⟩⟩
        rw [e]
        exact b2
  case done =>
    rintro D zs W hD rfl ⟨⟨⟨⟨hp, c1⟩, c2⟩, c3⟩, hB1⟩ hK
    have y0 : W.cell? ⟨w.heap.size + 1, 0, none⟩ = some (.int .i64 0) := block_cell c2 0 _ rfl
    have y1 : W.cell? ⟨w.heap.size + 1, 1, none⟩ = some (.string ⟨#[]⟩) := block_cell c2 1 _ rfl
    have y2 : W.cell? ⟨w.heap.size + 1, 2, none⟩ = some (.int .i64 0) := block_cell c2 2 _ rfl
    have y3 : W.cell? ⟨w.heap.size + 1, 3, none⟩ = some (.int .i64 0) := block_cell c2 3 _ rfl
    have y4 : W.cell? ⟨w.heap.size + 1, 4, none⟩ = some (.int .i64 0) := block_cell c2 4 _ rfl
    have y5 : W.cell? ⟨w.heap.size + 1, 5, none⟩ = some (.bool false) := block_cell c2 5 _ rfl
    have z0 : W.cell? ⟨w.heap.size + 1 + 1, 0, none⟩ = some (.bool false) := block_cell c3 0 _ rfl
    have fy := block_free c2
    have fz := block_free c3
    have HC := Lib.hid (And.intro hp (And.intro c2 (And.intro c3 (And.intro hB1 hK))))
    clear hp c1 c2 c3 hB1 hK
    gi_wp2
    have b2 : BoxN _ (w.heap.size + 1) 85 primC0 := ((((((HC.out.2.1.set 0 (.int .i64 0)).set 1 (.string ⟨#[]⟩)).set 2 (.int .i64 0)).set 3 (.int .i64 0)).set 4 (.int .i64 0)).set 5 (.bool false)).other (B' := w.heap.size + 1 + 1) (by omega) 0 (.bool false)
    have b3 : BoxN _ (w.heap.size + 1 + 1) 4 #[.bool false] := ((((((HC.out.2.2.1.other (B' := w.heap.size + 1) (by omega) 0 (.int .i64 0)).other (B' := w.heap.size + 1) (by omega) 1 (.string ⟨#[]⟩)).other (B' := w.heap.size + 1) (by omega) 2 (.int .i64 0)).other (B' := w.heap.size + 1) (by omega) 3 (.int .i64 0)).other (B' := w.heap.size + 1) (by omega) 4 (.int .i64 0)).other (B' := w.heap.size + 1) (by omega) 5 (.bool false)).set 0 (.bool false)
    have b4 := ((((((HC.out.2.2.2.1.setCell (p := ⟨w.heap.size + 1, 0, none⟩) (by simp) (.int .i64 0)).setCell (p := ⟨w.heap.size + 1, 1, none⟩) (by simp) (.string ⟨#[]⟩)).setCell (p := ⟨w.heap.size + 1, 2, none⟩) (by simp) (.int .i64 0)).setCell (p := ⟨w.heap.size + 1, 3, none⟩) (by simp) (.int .i64 0)).setCell (p := ⟨w.heap.size + 1, 4, none⟩) (by simp) (.int .i64 0)).setCell (p := ⟨w.heap.size + 1, 5, none⟩) (by simp) (.bool false)).setCell (p := ⟨w.heap.size + 1 + 1, 0, none⟩) (by simp; omega) (.bool false)
    have hK' := (((((((KeepsOthers.setCell W ⟨w.heap.size + 1, 0, none⟩ (.int .i64 0)).trans (KeepsOthers.setCell _ ⟨w.heap.size + 1, 1, none⟩ (.string ⟨#[]⟩))).trans (KeepsOthers.setCell _ ⟨w.heap.size + 1, 2, none⟩ (.int .i64 0))).trans (KeepsOthers.setCell _ ⟨w.heap.size + 1, 3, none⟩ (.int .i64 0))).trans (KeepsOthers.setCell _ ⟨w.heap.size + 1, 4, none⟩ (.int .i64 0))).trans (KeepsOthers.setCell _ ⟨w.heap.size + 1, 5, none⟩ (.bool false))).trans (KeepsOthers.setCell _ ⟨w.heap.size + 1 + 1, 0, none⟩ (.bool false))).same D _ HC.out.2.2.2.2 rfl
    refine ⟨by simp, .inl ⟨_, _, rfl, run_takeDeferred hK', ?_⟩⟩
    have q2 := b2.putObj (D := D) (.deferred none) (by omega)
    have q3 := b3.putObj (D := D) (.deferred none) (by omega)
    refine ⟨.tuple #[primV0, .bool false], ?_, .inr ⟨HC.out.1, rfl⟩, b4.trans (belowK_b (w := w) (Nat.le_refl _) _ D _ _ (by omega) hK' rfl rfl)⟩
    have e0 := block_cell q2 0 _ rfl
    have e1 := block_cell q2 1 _ rfl
    have e2 := block_cell q2 2 _ rfl
    have e3 := block_cell q2 3 _ rfl
    have e4 := block_cell q2 4 _ rfl
    have e5 := block_cell q2 5 _ rfl
    have e6 := block_cell q3 0 _ rfl
    simp [results, Tryz.f46, go_sem, e0, e1, e2, e3, e4, e5, e6, primV0, primC0]
  case stop =>
    rintro D c pre W hD hpre ⟨⟨⟨⟨rfl, pre', k, rfl, hp, hh⟩, c2⟩, c3⟩, hB1⟩ hK
    have e : (pre' ++ [k]).getLast?.getD 0 = k := by simp
    rw [e] at c2
    have HC := Lib.hid (And.intro hp (And.intro c2 (And.intro c3 (And.intro hB1 hK))))
    clear hp c2 c3 hB1 hK e
    gi_wp2
    have hK' := HC.out.2.2.2.2
    refine ⟨by simp, .inl ⟨_, _, rfl, run_takeDeferred hK', ?_⟩⟩
    have q2 := HC.out.2.1.putObj (D := D) (.deferred none) (by omega)
    have q3 := HC.out.2.2.1.putObj (D := D) (.deferred none) (by omega)
    refine ⟨.tuple #[primV k, .bool true], ?_, .inl ⟨pre', k, hpre, HC.out.1, hh, rfl⟩, HC.out.2.2.2.1.trans (belowK_b (w := w) (Nat.le_refl _) _ D _ _ (by omega) hK' rfl rfl)⟩
    have e0 := block_cell q2 0 _ rfl
    have e1 := block_cell q2 1 _ rfl
    have e2 := block_cell q2 2 _ rfl
    have e3 := block_cell q2 3 _ rfl
    have e4 := block_cell q2 4 _ rfl
    have e5 := block_cell q2 5 _ rfl
    have e6 := block_cell q3 0 _ rfl
    simp [results, Tryz.f46, go_sem, e0, e1, e2, e3, e4, e5, e6, primV, primC]
end Go.Proofs.YtdnalhjdmlkbmaaGreatDoor
namespace Go.Proofs.YtdnalhjdmlkbmaaGreatDoor
open Go.RowKit Go.Shelf
attribute [local go_sem] Oper.semAt_some

/-- The row that a name has. -/
def nmd (s : ByteArray) : Option Nat := (upTo 63).find? (hitB s)
def nmdV : Option Nat → Value
  | some k => primV k
  | none => primV0
theorem nmd_hit (s : ByteArray) (pre : List Nat) (k : Nat) (hp : pre ++ [k] <+: upTo 63) (hn : ∀ j ∈ pre, hitB s j = false) (hk : hitB s k = true) : nmd s = some k := by
  obtain ⟨r, hr⟩ := hp
  unfold nmd
  rw [← hr, List.find?_append, List.find?_append, List.find?_eq_none.2 (fun j hj => by simp [hn j hj])]
  simp [hk]
theorem nmd_no (s : ByteArray) (h : ∀ j ∈ upTo 63, hitB s j = false) : nmd s = none := by
  unfold nmd
  exact List.find?_eq_none.2 (fun j hj => by simp [h j hj])
set_option maxRecDepth 100000 in
theorem name_low : ∀ j, j < 9 → nameB j = ⟨#[]⟩ := by decide +kernel
set_option maxRecDepth 100000 in
theorem name_high : ∀ j, j < 64 → 9 ≤ j → (nameB j).toList.isEmpty = false := by decide +kernel
theorem hit_low (s : ByteArray) (j : Nat) (h : j < 9) : hitB s j = false := by
  unfold hitB
  rw [name_low j h]
  cases hs : s.toList with
  | nil => simp
  | cons a b => simp
theorem hit_high (s : ByteArray) (j : Nat) (h : 9 ≤ j) (h2 : j < 64) : hitB s j = ((nameB j).toList == s.toList) := by
  unfold hitB
  cases hq : ((nameB j).toList == s.toList) with
  | false => simp
  | true =>
    have e := eq_of_beq hq
    have := name_high j h2 h
    rw [e] at this
    simp [this]
theorem mem_upTo (j : Nat) : j ∈ upTo 63 ↔ 1 ≤ j ∧ j < 64 := by
  unfold upTo
  simp only [List.mem_map, List.mem_range]
  constructor
  · rintro ⟨a, h, rfl⟩; omega
  · intro h; exact ⟨j - 1, by omega, by omega⟩
theorem nmd_of (s : ByteArray) (k : Nat) (h1 : 9 ≤ k) (h2 : k < 64) (hn : ∀ j, 9 ≤ j → j < k → ((nameB j).toList == s.toList) = false) (hk : ((nameB k).toList == s.toList) = true) : nmd s = some k := by
  have e := upTo_succ (k - 1)
  rw [show k - 1 + 1 = k from by omega] at e
  refine nmd_hit s (upTo (k - 1)) k (by rw [← e]; exact upTo_prefix k 63 (by omega)) ?_ (by rw [hit_high s k h1 h2]; exact hk)
  intro j hj
  have hjk : 1 ≤ j ∧ j < k := by
    unfold upTo at hj
    simp only [List.mem_map, List.mem_range] at hj
    obtain ⟨a, h, rfl⟩ := hj
    omega
  by_cases h9 : j < 9
  · exact hit_low s j h9
  · rw [hit_high s j (by omega) (by omega)]
    exact hn j (by omega) hjk.2
theorem nmd_not (s : ByteArray) (hn : ∀ j, 9 ≤ j → j < 64 → ((nameB j).toList == s.toList) = false) : nmd s = none := nmd_no s fun j hj => by
  have := (mem_upTo j).1 hj
  by_cases h9 : j < 9
  · exact hit_low s j h9
  · rw [hit_high s j (by omega) (by omega)]
    exact hn j (by omega) this.2
/-- prim.Named's answer. -/
theorem named_any (G : Nat → Nat) (s : ByteArray) (w : World) (ht : Tabs w G) : Calls Tryz.prog 46 #[.string s] w fun e w' => e = .returned (.tuple #[nmdV (nmd s), .bool (nmd s).isSome]) ∧ ∃ G', Adv (fun _ => False) w G w' G' := by
  refine (callsIn_wide.1 (named_in s w ⟨ht.names, ht.takes, ht.leaves, ht.costs, rfl, rfl, rfl, rfl⟩)).mono ?_
  rintro e w' ⟨(⟨pre, k, hp, hn, hk, rfl⟩ | ⟨hn, rfl⟩), hb⟩
  · rw [nmd_hit s pre k hp hn hk]
    exact ⟨rfl, _, Adv.ofBelow G hb⟩
  · rw [nmd_no s hn]
    exact ⟨rfl, _, Adv.ofBelow G hb⟩
end Go.Proofs.YtdnalhjdmlkbmaaGreatDoor
namespace Go.Proofs.YtdnalhjdmlkbmaaGreatDoor
open Go.RowKit

theorem Tryz.stood85 : Tryz.prog.stoodInHeld 85 = false := by kernel_rfl
/-- The comparison of two rows, each written out. -/
def sameB (a b c d : Int) (s : ByteArray) (o : Bool) (a' b' c' d' : Int) (s' : ByteArray) (o' : Bool) : Bool := a == a' && (s.toList == s'.toList && (b == b' && (c == c' && (d == d' && (o == o')))))
theorem eqlPrim (a b c d : Int) (s : ByteArray) (o : Bool) (a' b' c' d' : Int) (s' : ByteArray) (o' : Bool) (w : World) :
    (Op.equalIn 10000 85 (.agg #[.int .i64 a, .string s, .int .i64 b, .int .i64 c, .int .i64 d, .bool o]) (.agg #[.int .i64 a', .string s', .int .i64 b', .int .i64 c', .int .i64 d', .bool o'])).run Tryz.prog w = .ok (sameB a b c d s o a' b' c' d' s' o') w := by
  have ht : Tryz.prog.underlying 85 = some (.struct (Tryz.prog.fieldsOf 85)) := by simp only [Program.fieldsOf, Tryz.underlying85]
  rw [show (10000 : Nat) = 9998 + 1 + 1 from rfl, run_equalIn_struct w (9998 + 1) 85 _ _ ht Tryz.stood85]
  simp only [Program.fieldsOf, Tryz.underlying85]
  unfold sameB
  cases e1 : a == a' with
  | false => simp [Op.eqFields, go_sem, e1]
  | true =>
    cases e2 : (s.toList == s'.toList) with
    | false => simp [Op.eqFields, go_sem, e1, e2]
    | true =>
      cases e3 : b == b' with
      | false => simp [Op.eqFields, go_sem, e1, e2, e3]
      | true =>
        cases e4 : c == c' with
        | false => simp [Op.eqFields, go_sem, e1, e2, e3, e4]
        | true =>
          cases e5 : d == d' with
          | false => simp [Op.eqFields, go_sem, e1, e2, e3, e4, e5]
          | true => simp [Op.eqFields, go_sem, e1, e2, e3, e4, e5]; cases o <;> cases o' <;> rfl
theorem sameB_refl (a b c d : Int) (s : ByteArray) (o : Bool) : sameB a b c d s o a b c d s o = true := by simp [sameB]
/-- same of a row and itself. -/
theorem same_any (G : Nat → Nat) (a b c d : Int) (s : ByteArray) (o : Bool) (w : World) :
    Calls Tryz.prog 47 #[.agg #[.int .i64 a, .string s, .int .i64 b, .int .i64 c, .int .i64 d, .bool o], .agg #[.int .i64 a, .string s, .int .i64 b, .int .i64 c, .int .i64 d, .bool o]] w fun r w' => r = .returned (.bool true) ∧ ∃ G', Adv (fun _ => False) w G w' G' := by
  have hE := eqlPrim
  have hT := sameB_refl
  go_enter Tryz.func47, Tryz.ntmps47
  go_wp2
  go_ret
  exact ⟨rfl, _, ((Adv.refl _ w G).alloc _ 0).alloc _ 0⟩
end Go.Proofs.YtdnalhjdmlkbmaaGreatDoor
namespace Go.Proofs.YtdnalhjdmlkbmaaGreatDoor
open Go.RowKit

/-- What does hands back, for a shuffle. -/
theorem shuf_is (k n : Nat) (ps : List Nat) (h : ∀ (G : Nat → Nat) (w : World), Calls Tryz.prog 123 #[.int .i64 k] w fun e w' => ∃ c G', e = .returned (.func (.func 178) #[] c) ∧ Adv (fun _ => False) w G w' G' ∧ ShufCl n ps w' G' c) : DoesIs k 178 (ShufCl n ps) := h
theorem shuf_keeps (n : Nat) (ps : List Nat) : Keeps (ShufCl n ps) := fun _ _ _ _ _ _ h ha hs => h.adv ha hs
/-- Do of a shuffle, where there is room. -/
theorem do_shuffle (G : Nat → Nat) (k : Nat) (hk : k < 64) (hpl : plainB k = true) (n : Nat) (ps : List Nat) (hd : DoesIs k 178 (ShufCl n ps)) (hps : ∀ p ∈ ps, p < n) (h0 : 0 < n) (h4 : n ≤ 100)
    (i j D R : Nat) (M : Addr) (base t : List Int) (rl : List (Int × Int)) (hn : t.length = n) (hi : i ≠ 0) (hj : j ≠ 0) (hl : (base ++ t).length ≤ 256) (hroom : base.length + ps.length ≤ 256) (hrl : rl.length ≤ 128)
    (hneed : needF (base ++ t).length (takesN k) (leavesN k) = 0) (hlooks : looksF k rl = 0) (hadds : (rl.length : Int) + addsF k ≤ 128) (w : World) (ht : Tabs w G) (hp : PU w G i D (base ++ t)) (hr : PR w G j R rl) :
    Calls Tryz.prog 23 #[.int .i64 k, .pointer (some ⟨D, 0, none⟩), .pointer (some ⟨R, 0, none⟩), .pointer (some M)] w fun e w' => e = .returned (.int .i64 0) ∧ ∃ G', Adv (fun o => o = i) w G w' G' ∧ PU w' G' i D (base ++ picks t ps) := by
  refine do_ok G k hk hpl 178 (enters_of Tryz.func178 (by kernel_rfl) rfl) (ShufCl n ps) hd (shuf_keeps n ps) i j D R M (base ++ t) rl hi hj (fun o => o = i) (fun w' G' => PU w' G' i D (base ++ picks t ps)) hl hrl hneed hlooks hadds w ht hp hr ?_
  intro w1 G1 K c ha hc hk1
  obtain ⟨B1, B2, la, lc, hcs, hB1, hG1, hB2, hG2, hla, hGl⟩ := hc
  subst hcs
  exact shuffle_any G1 i D K R (some M) base t n hn h0 h4 ps hps hroom hi B1 B2 la lc w1 (hp.adv ha id) hk1 hB1 hG1 hB2 hG2 hla hGl
theorem prim24 : primV (24 : Nat) = .agg #[.int .i64 24, .string ⟨#[47]⟩, .int .i64 2, .int .i64 1, .int .i64 4, .bool false] := by kernel_rfl
theorem prim19 : primV (19 : Nat) = .agg #[.int .i64 19, .string ⟨#[50, 100, 117, 112]⟩, .int .i64 2, .int .i64 4, .int .i64 2, .bool false] := by kernel_rfl
theorem nmd_2dup : nmd ⟨#[50, 100, 117, 112]⟩ = some 19 := by kernel_rfl
theorem do_rot (G : Nat → Nat) (i j D R M : Nat) (hi : i ≠ 0) (hj : j ≠ 0) (w : World) (ht : Tabs w G) (hp : PU w G i D [1, 2, 3]) (hr : PR w G j R []) :
    Calls Tryz.prog 23 #[.int .i64 16, .pointer (some ⟨D, 0, none⟩), .pointer (some ⟨R, 0, none⟩), .pointer (some ⟨M, 0, none⟩)] w fun e w' => e = .returned (.int .i64 0) ∧ ∃ G', Adv (fun o => o = i) w G w' G' ∧ PU w' G' i D [2, 3, 1] :=
  do_shuffle G 16 (by decide) (by decide) 3 [1, 2, 0] (shuf_is 16 3 [1, 2, 0] does_16) (by decide) (by decide) (by decide) i j D R ⟨M, 0, none⟩ [] [1, 2, 3] [] rfl hi hj (by decide) (by decide) (by decide) (by decide) (by decide) (by decide) w ht hp hr
set_option maxRecDepth 100000 in
set_option maxHeartbeats 1000000 in
theorem fixed_any (G : Nat → Nat) (w : World) (ht : Tabs w (fun _ => 0)) : Calls Tryz.prog 8 #[] w fun e w' => e = .returned (.bool true) ∧ ∃ G', Adv (fun _ => False) w G w' G' := by
  have HT := Lib.hid ht
  clear ht
  go_enter Tryz.func8, Tryz.ntmps8
  go_wp2_with fail
  refine (of_in (fun _ => 0) 24 (by decide) (by decide) _ HT.out).mono ?_
  rintro e w1 ⟨rfl, G1, ha1⟩
  rw [prim24]
  have HA1 := Lib.hid (ha1.alloc (.cells #[.int .i64 24, .string ⟨#[47]⟩, .int .i64 2, .int .i64 1, .int .i64 4, .bool false] 85) 0)
  have HB1 := Lib.hid (And.intro (heap_alloc_new w1 (.cells #[.int .i64 24, .string ⟨#[47]⟩, .int .i64 2, .int .i64 1, .int .i64 4, .bool false] 85)) (And.intro (show w1.heap.size < (w1.alloc (.cells #[.int .i64 24, .string ⟨#[47]⟩, .int .i64 2, .int .i64 1, .int .i64 4, .bool false] 85)).heap.size from by simp) (show own1 w1 G1 0 w1.heap.size = 0 from by simp [own1])))
  clear ha1
  go_wp2_with fail
  refine (of_out (own1 w1 G1 0) 64 (.inr (by decide)) _).mono ?_
  rintro e w2 ⟨rfl, G2, ha2⟩
  have HA2 := Lib.hid ((HA1.out.trans ha2).alloc (.cells #[.int .i64 0, .string ⟨#[]⟩, .int .i64 0, .int .i64 0, .int .i64 0, .bool false] 85) 0)
  have HK2 := Lib.hid (ha2.alloc (.cells #[.int .i64 0, .string ⟨#[]⟩, .int .i64 0, .int .i64 0, .int .i64 0, .bool false] 85) 0)
  have HT2 := Lib.hid (HT.out.adv HA2.out id)
  clear ha2
  unfold primV0
  go_wp2_with fail
  refine (named_any (own1 w2 G2 0) ⟨#[50, 100, 117, 112]⟩ _ HT2.out).mono ?_
  rintro e w3 ⟨rfl, G3, ha3⟩
  rw [nmd_2dup]
  simp only [nmdV, prim19, Option.isSome_some]
  have HA3 := Lib.hid ((HA2.out.trans ha3).alloc (.cells #[.int .i64 19, .string ⟨#[50, 100, 117, 112]⟩, .int .i64 2, .int .i64 4, .int .i64 2, .bool false] 85) 0 |>.alloc (.cells #[.int .u16 1, .int .u16 2, .int .u16 3] 31) 0)
  have HK3 := Lib.hid ((HK2.out.trans ha3).alloc (.cells #[.int .i64 19, .string ⟨#[50, 100, 117, 112]⟩, .int .i64 2, .int .i64 4, .int .i64 2, .bool false] 85) 0 |>.alloc (.cells #[.int .u16 1, .int .u16 2, .int .u16 3] 31) 0)
  have HX3 := Lib.hid (Reads.new (w3.alloc (.cells #[.int .i64 19, .string ⟨#[50, 100, 117, 112]⟩, .int .i64 2, .int .i64 4, .int .i64 2, .bool false] 85)) (cellsU [1, 2, 3]) 31)
  have hx3 := HX3.out
  rw [show (w3.alloc (.cells #[.int .i64 19, .string ⟨#[50, 100, 117, 112]⟩, .int .i64 2, .int .i64 4, .int .i64 2, .bool false] 85)).heap.size = w3.heap.size + 1 from by simp] at hx3
  have HY3 := Lib.hid hx3
  have hb3 : ((w3.alloc (.cells #[.int .i64 19, .string ⟨#[50, 100, 117, 112]⟩, .int .i64 2, .int .i64 4, .int .i64 2, .bool false] 85)).alloc (.cells #[.int .u16 1, .int .u16 2, .int .u16 3] 31)).heap[w3.heap.size]? = some (.cells #[.int .i64 19, .string ⟨#[50, 100, 117, 112]⟩, .int .i64 2, .int .i64 4, .int .i64 2, .bool false] 85 (0, 0)) := (heap_past _ _ _ (by simp)).trans (heap_alloc_new w3 _)
  have HB3 := Lib.hid (And.intro hb3 (And.intro (show w3.heap.size < ((w3.alloc (.cells #[.int .i64 19, .string ⟨#[50, 100, 117, 112]⟩, .int .i64 2, .int .i64 4, .int .i64 2, .bool false] 85)).alloc (.cells #[.int .u16 1, .int .u16 2, .int .u16 3] 31)).heap.size from by simp; omega) (show own1 (w3.alloc (.cells #[.int .i64 19, .string ⟨#[50, 100, 117, 112]⟩, .int .i64 2, .int .i64 4, .int .i64 2, .bool false] 85)) (own1 w3 G3 0) 0 w3.heap.size = 0 from by simp [own1])))
  clear ha3 hx3 hb3 HX3
  go_wp2_with fail
  refine (born0 (own1 (w3.alloc (.cells #[.int .i64 19, .string ⟨#[50, 100, 117, 112]⟩, .int .i64 2, .int .i64 4, .int .i64 2, .bool false] 85)) (own1 w3 G3 0) 0) _ 3 3 [1, 2, 3] _ rfl (by decide) HY3.out (by decide) (by decide)).mono ?_
  rintro e w4 ⟨K, D, R, M, G4, rfl, ha4, ⟨x, y, z, hk, hgk⟩, hp4, hr4, -⟩
  have HA4 := Lib.hid (HA3.out.trans ha4)
  have HP4 := Lib.hid hp4
  have HR4 := Lib.hid hr4
  have hc1 := ((HK3.out.trans ha4).keep _ HB1.out.2.1 id).trans HB1.out.1
  have hc3 := (ha4.keep _ HB3.out.2.1 id).trans HB3.out.1
  have hg1 : G4 w1.heap.size = 0 := ((HK3.out.trans ha4).own _ HB1.out.2.1).trans HB1.out.2.2
  have hg3 : G4 w3.heap.size = 0 := (ha4.own _ HB3.out.2.1).trans HB3.out.2.2
  have HC4 := Lib.hid (And.intro hc1 (And.intro hc3 (And.intro hg1 hg3)))
  have HT4 := Lib.hid (HT.out.adv HA4.out id)
  have cD := block_cell hk 0 _ rfl
  have cR := block_cell hk 1 _ rfl
  have cM := block_cell hk 2 _ rfl
  have HW4 := Lib.hid (And.intro hk hgk)
  clear ha4 hk hgk hc1 hc3 hg1 hg3
  have HTd := Lib.hid (HT4.out.adv ((Adv.refl (fun _ => False) w4 G4).drew) id)
  have HPd := Lib.hid hp4.drew
  have HRd := Lib.hid hr4.drew
  clear hp4 hr4
  go_upto_region 7 with fail
  go_region_held3 (fun w' => w'.cell? ⟨K, 0, none⟩ = some (.pointer (some ⟨D, 0, none⟩)) ∧ w'.cell? ⟨K, 1, none⟩ = some (.pointer (some ⟨R, 0, none⟩)) ∧ w'.cell? ⟨K, 2, none⟩ = some (.pointer (some ⟨M, 0, none⟩))) (first | exact ⟨cD, cR, cM⟩ | exact KD5.out)
    ((go_at_call 23; refine (do_rot G4 1 2 D R M (by decide) (by decide) _ HTd.out HPd.out HRd.out).mono ?_; rintro e w5 ⟨rfl, G5, ha5, hp5⟩; have HA5 := Lib.hid ha5; have HP5 := Lib.hid hp5; have KD5 := Lib.hid (And.intro (ha5.cell_some (p := ⟨K, 0, none⟩) cD (by show ¬ (G4 K = 1); rw [HW4.out.2]; decide)) (And.intro (ha5.cell_some (p := ⟨K, 1, none⟩) cR (by show ¬ (G4 K = 1); rw [HW4.out.2]; decide)) (ha5.cell_some (p := ⟨K, 2, none⟩) cM (by show ¬ (G4 K = 1); rw [HW4.out.2]; decide)))); clear ha5 hp5))
  obtain ⟨cD5, -, -⟩ := KD5.out
  have hc1 := (HA5.out.keep (b := w1.heap.size) ?lt1 (by show ¬ (G4 _ = 1); rw [HC4.out.2.2.1]; decide)).trans (show w4.drew.heap[w1.heap.size]? = _ from HC4.out.1)
  have hc3 := (HA5.out.keep (b := w3.heap.size) ?lt3 (by show ¬ (G4 _ = 1); rw [HC4.out.2.2.2]; decide)).trans (show w4.drew.heap[w3.heap.size]? = _ from HC4.out.2.1)
  case lt1 => exact (Array.getElem?_eq_some_iff.1 HC4.out.1).1
  case lt3 => exact (Array.getElem?_eq_some_iff.1 HC4.out.2.1).1
  have HC5 := Lib.hid (And.intro hc1 hc3)
  clear hc1 hc3
  go_wp2_with fail
  refine (cellsPU G5 1 D [2, 3, 1] _ HP5.out (by simp) (by simp)).mono ?_
  rintro e w6 ⟨rfl, h6⟩
  have d1 := (heap_past w5 (.cells (cellsU [2, 3, 1]).toArray 31) _ (Array.getElem?_eq_some_iff.1 HC5.out.1).1).trans HC5.out.1
  have d3 := (heap_past w5 (.cells (cellsU [2, 3, 1]).toArray 31) _ (Array.getElem?_eq_some_iff.1 HC5.out.2).1).trans HC5.out.2
  have hr6 := Reads.new w5 (cellsU [2, 3, 1]) 31
  have ha6 := HA5.out.alloc (.cells (cellsU [2, 3, 1]).toArray 31) 0
  rw [← h6] at d1 d3 hr6 ha6
  obtain ⟨B6, hB6⟩ : ∃ b, b = w5.heap.size := ⟨_, rfl⟩
  rw [← hB6] at hr6 ⊢
  obtain ⟨G6, hG6⟩ : ∃ g, g = own1 w5 G5 0 := ⟨_, rfl⟩
  rw [← hG6] at ha6
  clear h6 hB6 hG6
  have HR6 := Lib.hid hr6
  have HA6 := Lib.hid ha6
  have hk6 : ∀ (w' : World) (G' : Nat → Nat), Adv (fun _ => False) w6 G6 w' G' → w'.heap[w1.heap.size]? = _ ∧ w'.heap[w3.heap.size]? = _ := fun w' G' h =>
    ⟨(h.keep _ (Array.getElem?_eq_some_iff.1 d1).1 id).trans d1, (h.keep _ (Array.getElem?_eq_some_iff.1 d3).1 id).trans d3⟩
  have hK6 : ∀ (w' : World) (G' : Nat → Nat), Adv (fun _ => False) w6 G6 w' G' →
      (w'.cell? ⟨w1.heap.size, 0, none⟩ = some (.int .i64 24) ∧ w'.cell? ⟨w1.heap.size, 1, none⟩ = some (.string ⟨#[47]⟩) ∧ w'.cell? ⟨w1.heap.size, 2, none⟩ = some (.int .i64 2) ∧ w'.cell? ⟨w1.heap.size, 3, none⟩ = some (.int .i64 1) ∧ w'.cell? ⟨w1.heap.size, 4, none⟩ = some (.int .i64 4) ∧ w'.cell? ⟨w1.heap.size, 5, none⟩ = some (.bool false)) ∧
      (w'.cell? ⟨w3.heap.size, 0, none⟩ = some (.int .i64 19) ∧ w'.cell? ⟨w3.heap.size, 1, none⟩ = some (.string ⟨#[50, 100, 117, 112]⟩) ∧ w'.cell? ⟨w3.heap.size, 2, none⟩ = some (.int .i64 2) ∧ w'.cell? ⟨w3.heap.size, 3, none⟩ = some (.int .i64 4) ∧ w'.cell? ⟨w3.heap.size, 4, none⟩ = some (.int .i64 2) ∧ w'.cell? ⟨w3.heap.size, 5, none⟩ = some (.bool false)) := fun w' G' h =>
    have a := (hk6 w' G' h).1
    have b := (hk6 w' G' h).2
    ⟨⟨block_cell a 0 _ rfl, block_cell a 1 _ rfl, block_cell a 2 _ rfl, block_cell a 3 _ rfl, block_cell a 4 _ rfl, block_cell a 5 _ rfl⟩, ⟨block_cell b 0 _ rfl, block_cell b 1 _ rfl, block_cell b 2 _ rfl, block_cell b 3 _ rfl, block_cell b 4 _ rfl, block_cell b 5 _ rfl⟩⟩
  have HK6 := Lib.hid hK6
  clear d1 d3 hr6 ha6 hk6 hK6
  rw [show ([2, 3, 1] : List Int).length = 3 from rfl]
  obtain ⟨⟨e0, e1, e2, e3, e4, e5⟩, ⟨f0, f1, f2, f3, f4, f5⟩⟩ := HK6.out _ _ (Adv.refl _ w6 G6)
  go_wp2_with fail
  refine (same_any G6 _ _ _ _ _ _ _).mono ?_
  rintro e ws1 ⟨rfl, Gs1, has1⟩
  have HS1 := Lib.hid has1
  clear has1 e0 e1 e2 e3 e4 e5 f0 f1 f2 f3 f4 f5
  obtain ⟨⟨g0, g1, g2, g3, g4, g5⟩, ⟨k0, k1, k2, k3, k4, k5⟩⟩ := HK6.out _ _ HS1.out
  go_wp2_with fail
  refine (same_any Gs1 _ _ _ _ _ _ _).mono ?_
  rintro e ws2 ⟨rfl, Gs2, has2⟩
  have HS2 := Lib.hid (HS1.out.trans has2)
  clear has2 g0 g1 g2 g3 g4 g5 k0 k1 k2 k3 k4 k5
  go_wp2_with fail
  refine (sameU_any _ _ 3 3 3 3 [2, 3, 1] [2, 3, 1] _ rfl rfl (by decide) (by decide) ((HR6.out.adv HS2.out (fun _ _ => id)).alloc _) (Reads.new ws2 (cellsU [2, 3, 1]) 31)).mono ?_
  rintro e wd ⟨rfl, q, rfl⟩
  rw [show decide ([(2 : Int), 3, 1] = [2, 3, 1]) = true from by decide]
  have HF := Lib.hid ((HA6.out.trans (HS2.out.mono (T := fun o => o = 1) fun _ h => h.elim)).alloc (.cells #[.int .u16 2, .int .u16 3, .int .u16 1] 31) 0 |>.drewN q)
  obtain ⟨wf, hwf⟩ : ∃ wf, wf = (ws2.alloc (.cells (cellsU [2, 3, 1]).toArray 31)).drewN q := ⟨_, rfl⟩
  rw [← hwf]
  have hF := HF.out
  rw [show (ws2.alloc (.cells #[.int .u16 2, .int .u16 3, .int .u16 1] 31)).drewN q = wf from hwf.symm] at hF
  have HFF := Lib.hid hF
  clear hF HF hwf HR6 HS2 HS1 HK6 HA6
  go_wp2_with fail
  refine (plain_any 16 _).mono ?_
  rintro e wd ⟨rfl, rfl⟩
  rw [show plainB 16 = true from by decide]
  go_wp2_with fail
  refine (plain_any 3 _).mono ?_
  rintro e wd ⟨rfl, rfl⟩
  rw [show plainB 3 = false from by decide]
  go_wp2_with fail
  go_ret
  exact ⟨rfl, _, joined_adv (S := fun o => o = 1) (G := G) (((HA4.out.drew).mono fun _ h => h.elim).trans HFF.out) (by decide)⟩
end Go.Proofs.YtdnalhjdmlkbmaaGreatDoor
