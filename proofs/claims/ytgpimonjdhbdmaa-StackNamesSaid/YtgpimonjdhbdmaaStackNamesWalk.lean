/- The walk of StackNames. -/
import Derived.Test.YtgpimonjdhbdmaaFixed
namespace Go.Proofs.Ytgpimonjdhbdmaa
open Go.RowKit

set_option maxHeartbeats 1000000 in
set_option maxRecDepth 100000 in
theorem stackNames.stackNames_open (w : World) : Calls Try.prog 5 #[] w fun e w' => e = .returned (.bool true) ∧ Below w.heap.size w w' := by
  obtain ⟨i0, hi, hz0, hz1, hz2⟩ := info_parts Try.info32
  have hmk := fun w1 => run_make (P := Try.prog) w1 22 32 i0 (.int .u16 0) Try.underlying22 hi hz0 .i64 .i64 257 257 (by omega) (by omega) (by rw [hz2]; omega) (by omega)
  rw [hz1] at hmk
  go_enter Try.func5, Try.ntmps5
  go_wp2_with (first
    | (go_at_call 15; refine (setR_nil _ _).mono ?_; rintro e w' ⟨rfl, rfl⟩)
    | (go_at_call 16; refine (popR_nil _ _).mono ?_; rintro e w' ⟨rfl, rfl⟩)
    | (go_at_call 14; refine (atR_nil _ _ _).mono ?_; rintro e w' ⟨rfl, rfl⟩)
    | (go_at_call 9; refine (needU_nil _ _ _ (by omega) (by omega)).mono ?_; rintro e w' ⟨rfl, rfl⟩; first | rw [show needF 0 0 0 = 0 from by decide] | rw [show needF 0 1 0 = 1 from by decide] | rw [show needF 0 0 257 = 2 from by decide])
    | (go_at_call 12; (first | (with_reducible refine (pushU_nil0 _ _ _).mono ?_) | (with_reducible refine (pushU_nil _ _ _ _ (by omega)).mono ?_)); rintro e w' ⟨rfl, rfl⟩)
    | (go_at_call 11; refine (popU_nil _).mono ?_; rintro e w' ⟨rfl, rfl⟩)
    | (go_at_call 10; refine (lenU_nil _).mono ?_; rintro e w' ⟨rfl, rfl⟩)
    | (go_at_call 21; refine (cellsU_nil _).mono ?_; rintro e w' ⟨rfl, rfl⟩)
    | (go_at_call 13; (first | (with_reducible refine (pushR_nil0 _ _ _).mono ?_) | (with_reducible refine (pushR_nil _ _ _ _ (by omega)).mono ?_)); rintro e w' ⟨rfl, rfl⟩)
    | (go_at_call 17; refine (lenR_nil _).mono ?_; rintro e w' ⟨rfl, rfl⟩)
    | (go_at_call 18; refine (cellsOR_nil _).mono ?_; rintro e w' ⟨rfl, rfl⟩))
  obtain ⟨G0, hA⟩ : ∃ G0, Adv (fun _ => False) w (fun _ => 0) (((w.alloc (.cells #[.int .u16 1] 32)).alloc (.cells #[.int .i64 1, .int .u16 0] 43)).alloc (.cells (madeCells #[.int .u16 0] 257) 32)) G0 :=
    ⟨_, (((Adv.refl _ w _).alloc _ 0).alloc _ 0).alloc _ 0⟩
  refine (stacks_noU G0 _ 257 257 _ _ (by omega) (by omega)).mono ?_
  rintro e w1 ⟨rfl, G1, ha⟩
  have HA1 := Lib.hid (hA.trans ha)
  clear ha hA
  go_wp2_with fail
  obtain ⟨G2, hA2⟩ : ∃ G2, Adv (fun _ => False) w (fun _ => 0) (w1.alloc (.cells #[.int .i64 0, .int .u16 0] 43)) G2 := ⟨_, HA1.out.alloc _ 0⟩
  have HA2 := Lib.hid hA2
  clear hA2
  refine (stacks_bad G2 none 0 0 [] (some ⟨w1.heap.size, 0, none⟩) 1 1 [(0, 0)] _ (by omega) rfl (.inl rfl) (by simp) (by omega) rfl (Reads.new w1 [.int .i64 0, .int .u16 0] 43) ⟨(0, 0), by simp, by simp⟩).mono ?_
  rintro e w2 ⟨rfl, G3, ha⟩
  have HA3 := Lib.hid (HA2.out.trans ha)
  clear ha
  go_wp2_with (go_at_call 8; refine (fixed_any G3 _).mono ?_; rintro e w3 ⟨rfl, G4, ha⟩)
  go_ret
  exact ⟨rfl, (HA3.out.trans ha).below (Nat.le_refl _) (fun _ _ => id)⟩
end Go.Proofs.Ytgpimonjdhbdmaa
