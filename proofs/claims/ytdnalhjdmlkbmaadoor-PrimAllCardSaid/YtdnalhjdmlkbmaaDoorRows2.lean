/- The document's rows of primitives 21 to 41. -/
import Derived.Test.YtdnalhjdmlkbmaaDoorTab
namespace Go.Proofs.YtdnalhjdmlkbmaaDoor
open Go.RowKit

theorem middle_21 (G : Nat → Nat) (w : World) : Calls Tryd.prog 74 #[.int .i64 21] w fun e w' => e = .returned (primV 21) ∧ ∃ G', Adv (fun _ => False) w G w' G' := by
  go_enter Tryd.func74, Tryd.ntmps74
  go_wp2
  exact bodyPost_ret (v := .agg #[.int .i64 21, .string ⟨#[43]⟩, .int .i64 2, .int .i64 1, .int .i64 1, .bool false]) (by simp [results, Tryd.results74, go_sem]) rfl ⟨rfl, _, (Adv.refl _ w G).alloc _ 0⟩
theorem middle_22 (G : Nat → Nat) (w : World) : Calls Tryd.prog 74 #[.int .i64 22] w fun e w' => e = .returned (primV 22) ∧ ∃ G', Adv (fun _ => False) w G w' G' := by
  go_enter Tryd.func74, Tryd.ntmps74
  go_wp2
  exact bodyPost_ret (v := .agg #[.int .i64 22, .string ⟨#[45]⟩, .int .i64 2, .int .i64 1, .int .i64 1, .bool false]) (by simp [results, Tryd.results74, go_sem]) rfl ⟨rfl, _, (Adv.refl _ w G).alloc _ 0⟩
theorem middle_23 (G : Nat → Nat) (w : World) : Calls Tryd.prog 74 #[.int .i64 23] w fun e w' => e = .returned (primV 23) ∧ ∃ G', Adv (fun _ => False) w G w' G' := by
  go_enter Tryd.func74, Tryd.ntmps74
  go_wp2
  exact bodyPost_ret (v := .agg #[.int .i64 23, .string ⟨#[42]⟩, .int .i64 2, .int .i64 1, .int .i64 3, .bool false]) (by simp [results, Tryd.results74, go_sem]) rfl ⟨rfl, _, (Adv.refl _ w G).alloc _ 0⟩
theorem middle_24 (G : Nat → Nat) (w : World) : Calls Tryd.prog 74 #[.int .i64 24] w fun e w' => e = .returned (primV 24) ∧ ∃ G', Adv (fun _ => False) w G w' G' := by
  go_enter Tryd.func74, Tryd.ntmps74
  go_wp2
  exact bodyPost_ret (v := .agg #[.int .i64 24, .string ⟨#[47]⟩, .int .i64 2, .int .i64 1, .int .i64 4, .bool false]) (by simp [results, Tryd.results74, go_sem]) rfl ⟨rfl, _, (Adv.refl _ w G).alloc _ 0⟩
theorem middle_25 (G : Nat → Nat) (w : World) : Calls Tryd.prog 74 #[.int .i64 25] w fun e w' => e = .returned (primV 25) ∧ ∃ G', Adv (fun _ => False) w G w' G' := by
  go_enter Tryd.func74, Tryd.ntmps74
  go_wp2
  exact bodyPost_ret (v := .agg #[.int .i64 25, .string ⟨#[109, 111, 100]⟩, .int .i64 2, .int .i64 1, .int .i64 4, .bool false]) (by simp [results, Tryd.results74, go_sem]) rfl ⟨rfl, _, (Adv.refl _ w G).alloc _ 0⟩
theorem middle_26 (G : Nat → Nat) (w : World) : Calls Tryd.prog 74 #[.int .i64 26] w fun e w' => e = .returned (primV 26) ∧ ∃ G', Adv (fun _ => False) w G w' G' := by
  go_enter Tryd.func74, Tryd.ntmps74
  go_wp2
  exact bodyPost_ret (v := .agg #[.int .i64 26, .string ⟨#[117, 47]⟩, .int .i64 2, .int .i64 1, .int .i64 4, .bool false]) (by simp [results, Tryd.results74, go_sem]) rfl ⟨rfl, _, (Adv.refl _ w G).alloc _ 0⟩
theorem middle_27 (G : Nat → Nat) (w : World) : Calls Tryd.prog 74 #[.int .i64 27] w fun e w' => e = .returned (primV 27) ∧ ∃ G', Adv (fun _ => False) w G w' G' := by
  go_enter Tryd.func74, Tryd.ntmps74
  go_wp2
  exact bodyPost_ret (v := .agg #[.int .i64 27, .string ⟨#[117, 109, 111, 100]⟩, .int .i64 2, .int .i64 1, .int .i64 4, .bool false]) (by simp [results, Tryd.results74, go_sem]) rfl ⟨rfl, _, (Adv.refl _ w G).alloc _ 0⟩
theorem middle_28 (G : Nat → Nat) (w : World) : Calls Tryd.prog 74 #[.int .i64 28] w fun e w' => e = .returned (primV 28) ∧ ∃ G', Adv (fun _ => False) w G w' G' := by
  go_enter Tryd.func74, Tryd.ntmps74
  go_wp2
  exact bodyPost_ret (v := .agg #[.int .i64 28, .string ⟨#[110, 101, 103, 97, 116, 101]⟩, .int .i64 1, .int .i64 1, .int .i64 1, .bool false]) (by simp [results, Tryd.results74, go_sem]) rfl ⟨rfl, _, (Adv.refl _ w G).alloc _ 0⟩
theorem middle_29 (G : Nat → Nat) (w : World) : Calls Tryd.prog 74 #[.int .i64 29] w fun e w' => e = .returned (primV 29) ∧ ∃ G', Adv (fun _ => False) w G w' G' := by
  go_enter Tryd.func74, Tryd.ntmps74
  go_wp2
  exact bodyPost_ret (v := .agg #[.int .i64 29, .string ⟨#[97, 98, 115]⟩, .int .i64 1, .int .i64 1, .int .i64 1, .bool false]) (by simp [results, Tryd.results74, go_sem]) rfl ⟨rfl, _, (Adv.refl _ w G).alloc _ 0⟩
theorem middle_30 (G : Nat → Nat) (w : World) : Calls Tryd.prog 74 #[.int .i64 30] w fun e w' => e = .returned (primV 30) ∧ ∃ G', Adv (fun _ => False) w G w' G' := by
  go_enter Tryd.func74, Tryd.ntmps74
  go_wp2
  exact bodyPost_ret (v := .agg #[.int .i64 30, .string ⟨#[109, 105, 110]⟩, .int .i64 2, .int .i64 1, .int .i64 1, .bool false]) (by simp [results, Tryd.results74, go_sem]) rfl ⟨rfl, _, (Adv.refl _ w G).alloc _ 0⟩
theorem middle_31 (G : Nat → Nat) (w : World) : Calls Tryd.prog 74 #[.int .i64 31] w fun e w' => e = .returned (primV 31) ∧ ∃ G', Adv (fun _ => False) w G w' G' := by
  go_enter Tryd.func74, Tryd.ntmps74
  go_wp2
  exact bodyPost_ret (v := .agg #[.int .i64 31, .string ⟨#[109, 97, 120]⟩, .int .i64 2, .int .i64 1, .int .i64 1, .bool false]) (by simp [results, Tryd.results74, go_sem]) rfl ⟨rfl, _, (Adv.refl _ w G).alloc _ 0⟩
theorem middle_32 (G : Nat → Nat) (w : World) : Calls Tryd.prog 74 #[.int .i64 32] w fun e w' => e = .returned (primV 32) ∧ ∃ G', Adv (fun _ => False) w G w' G' := by
  go_enter Tryd.func74, Tryd.ntmps74
  go_wp2
  exact bodyPost_ret (v := .agg #[.int .i64 32, .string ⟨#[49, 43]⟩, .int .i64 1, .int .i64 1, .int .i64 1, .bool false]) (by simp [results, Tryd.results74, go_sem]) rfl ⟨rfl, _, (Adv.refl _ w G).alloc _ 0⟩
theorem middle_33 (G : Nat → Nat) (w : World) : Calls Tryd.prog 74 #[.int .i64 33] w fun e w' => e = .returned (primV 33) ∧ ∃ G', Adv (fun _ => False) w G w' G' := by
  go_enter Tryd.func74, Tryd.ntmps74
  go_wp2
  exact bodyPost_ret (v := .agg #[.int .i64 33, .string ⟨#[49, 45]⟩, .int .i64 1, .int .i64 1, .int .i64 1, .bool false]) (by simp [results, Tryd.results74, go_sem]) rfl ⟨rfl, _, (Adv.refl _ w G).alloc _ 0⟩
theorem middle_34 (G : Nat → Nat) (w : World) : Calls Tryd.prog 74 #[.int .i64 34] w fun e w' => e = .returned (primV 34) ∧ ∃ G', Adv (fun _ => False) w G w' G' := by
  go_enter Tryd.func74, Tryd.ntmps74
  go_wp2
  exact bodyPost_ret (v := .agg #[.int .i64 34, .string ⟨#[50, 42]⟩, .int .i64 1, .int .i64 1, .int .i64 1, .bool false]) (by simp [results, Tryd.results74, go_sem]) rfl ⟨rfl, _, (Adv.refl _ w G).alloc _ 0⟩
theorem middle_35 (G : Nat → Nat) (w : World) : Calls Tryd.prog 74 #[.int .i64 35] w fun e w' => e = .returned (primV 35) ∧ ∃ G', Adv (fun _ => False) w G w' G' := by
  go_enter Tryd.func74, Tryd.ntmps74
  go_wp2
  exact bodyPost_ret (v := .agg #[.int .i64 35, .string ⟨#[50, 47]⟩, .int .i64 1, .int .i64 1, .int .i64 1, .bool false]) (by simp [results, Tryd.results74, go_sem]) rfl ⟨rfl, _, (Adv.refl _ w G).alloc _ 0⟩
theorem middle_36 (G : Nat → Nat) (w : World) : Calls Tryd.prog 74 #[.int .i64 36] w fun e w' => e = .returned (primV 36) ∧ ∃ G', Adv (fun _ => False) w G w' G' := by
  go_enter Tryd.func74, Tryd.ntmps74
  go_wp2
  exact bodyPost_ret (v := .agg #[.int .i64 36, .string ⟨#[97, 110, 100]⟩, .int .i64 2, .int .i64 1, .int .i64 1, .bool false]) (by simp [results, Tryd.results74, go_sem]) rfl ⟨rfl, _, (Adv.refl _ w G).alloc _ 0⟩
theorem middle_37 (G : Nat → Nat) (w : World) : Calls Tryd.prog 74 #[.int .i64 37] w fun e w' => e = .returned (primV 37) ∧ ∃ G', Adv (fun _ => False) w G w' G' := by
  go_enter Tryd.func74, Tryd.ntmps74
  go_wp2
  exact bodyPost_ret (v := .agg #[.int .i64 37, .string ⟨#[111, 114]⟩, .int .i64 2, .int .i64 1, .int .i64 1, .bool false]) (by simp [results, Tryd.results74, go_sem]) rfl ⟨rfl, _, (Adv.refl _ w G).alloc _ 0⟩
theorem middle_38 (G : Nat → Nat) (w : World) : Calls Tryd.prog 74 #[.int .i64 38] w fun e w' => e = .returned (primV 38) ∧ ∃ G', Adv (fun _ => False) w G w' G' := by
  go_enter Tryd.func74, Tryd.ntmps74
  go_wp2
  exact bodyPost_ret (v := .agg #[.int .i64 38, .string ⟨#[120, 111, 114]⟩, .int .i64 2, .int .i64 1, .int .i64 1, .bool false]) (by simp [results, Tryd.results74, go_sem]) rfl ⟨rfl, _, (Adv.refl _ w G).alloc _ 0⟩
theorem middle_39 (G : Nat → Nat) (w : World) : Calls Tryd.prog 74 #[.int .i64 39] w fun e w' => e = .returned (primV 39) ∧ ∃ G', Adv (fun _ => False) w G w' G' := by
  go_enter Tryd.func74, Tryd.ntmps74
  go_wp2
  exact bodyPost_ret (v := .agg #[.int .i64 39, .string ⟨#[105, 110, 118, 101, 114, 116]⟩, .int .i64 1, .int .i64 1, .int .i64 1, .bool false]) (by simp [results, Tryd.results74, go_sem]) rfl ⟨rfl, _, (Adv.refl _ w G).alloc _ 0⟩
theorem middle_40 (G : Nat → Nat) (w : World) : Calls Tryd.prog 74 #[.int .i64 40] w fun e w' => e = .returned (primV 40) ∧ ∃ G', Adv (fun _ => False) w G w' G' := by
  go_enter Tryd.func74, Tryd.ntmps74
  go_wp2
  exact bodyPost_ret (v := .agg #[.int .i64 40, .string ⟨#[108, 115, 104, 105, 102, 116]⟩, .int .i64 2, .int .i64 1, .int .i64 1, .bool false]) (by simp [results, Tryd.results74, go_sem]) rfl ⟨rfl, _, (Adv.refl _ w G).alloc _ 0⟩
theorem middle_41 (G : Nat → Nat) (w : World) : Calls Tryd.prog 74 #[.int .i64 41] w fun e w' => e = .returned (primV 41) ∧ ∃ G', Adv (fun _ => False) w G w' G' := by
  go_enter Tryd.func74, Tryd.ntmps74
  go_wp2
  exact bodyPost_ret (v := .agg #[.int .i64 41, .string ⟨#[114, 115, 104, 105, 102, 116]⟩, .int .i64 2, .int .i64 1, .int .i64 1, .bool false]) (by simp [results, Tryd.results74, go_sem]) rfl ⟨rfl, _, (Adv.refl _ w G).alloc _ 0⟩
end Go.Proofs.YtdnalhjdmlkbmaaDoor
