/- The document's rows of primitives 1 to 20. -/
import Derived.Test.YtdnalhjdmlkbmaaDoorTab
namespace Go.Proofs.YtdnalhjdmlkbmaaDoor
open Go.RowKit

theorem lower_1 (G : Nat → Nat) (w : World) : Calls Tryd.prog 73 #[.int .i64 1] w fun e w' => e = .returned (primV 1) ∧ ∃ G', Adv (fun _ => False) w G w' G' := by
  go_enter Tryd.func73, Tryd.ntmps73
  go_wp2
  exact bodyPost_ret (v := .agg #[.int .i64 1, .string ⟨#[]⟩, .int .i64 0, .int .i64 0, .int .i64 2, .bool false]) (by simp [results, Tryd.results73, go_sem]) rfl ⟨rfl, _, (Adv.refl _ w G).alloc _ 0⟩
theorem lower_2 (G : Nat → Nat) (w : World) : Calls Tryd.prog 73 #[.int .i64 2] w fun e w' => e = .returned (primV 2) ∧ ∃ G', Adv (fun _ => False) w G w' G' := by
  go_enter Tryd.func73, Tryd.ntmps73
  go_wp2
  exact bodyPost_ret (v := .agg #[.int .i64 2, .string ⟨#[]⟩, .int .i64 0, .int .i64 1, .int .i64 2, .bool false]) (by simp [results, Tryd.results73, go_sem]) rfl ⟨rfl, _, (Adv.refl _ w G).alloc _ 0⟩
theorem lower_3 (G : Nat → Nat) (w : World) : Calls Tryd.prog 73 #[.int .i64 3] w fun e w' => e = .returned (primV 3) ∧ ∃ G', Adv (fun _ => False) w G w' G' := by
  go_enter Tryd.func73, Tryd.ntmps73
  go_wp2
  exact bodyPost_ret (v := .agg #[.int .i64 3, .string ⟨#[]⟩, .int .i64 0, .int .i64 1, .int .i64 2, .bool true]) (by simp [results, Tryd.results73, go_sem]) rfl ⟨rfl, _, (Adv.refl _ w G).alloc _ 0⟩
theorem lower_4 (G : Nat → Nat) (w : World) : Calls Tryd.prog 73 #[.int .i64 4] w fun e w' => e = .returned (primV 4) ∧ ∃ G', Adv (fun _ => False) w G w' G' := by
  go_enter Tryd.func73, Tryd.ntmps73
  go_wp2
  exact bodyPost_ret (v := .agg #[.int .i64 4, .string ⟨#[]⟩, .int .i64 0, .int .i64 0, .int .i64 2, .bool true]) (by simp [results, Tryd.results73, go_sem]) rfl ⟨rfl, _, (Adv.refl _ w G).alloc _ 0⟩
theorem lower_5 (G : Nat → Nat) (w : World) : Calls Tryd.prog 73 #[.int .i64 5] w fun e w' => e = .returned (primV 5) ∧ ∃ G', Adv (fun _ => False) w G w' G' := by
  go_enter Tryd.func73, Tryd.ntmps73
  go_wp2
  exact bodyPost_ret (v := .agg #[.int .i64 5, .string ⟨#[]⟩, .int .i64 1, .int .i64 0, .int .i64 2, .bool true]) (by simp [results, Tryd.results73, go_sem]) rfl ⟨rfl, _, (Adv.refl _ w G).alloc _ 0⟩
theorem lower_6 (G : Nat → Nat) (w : World) : Calls Tryd.prog 73 #[.int .i64 6] w fun e w' => e = .returned (primV 6) ∧ ∃ G', Adv (fun _ => False) w G w' G' := by
  go_enter Tryd.func73, Tryd.ntmps73
  go_wp2
  exact bodyPost_ret (v := .agg #[.int .i64 6, .string ⟨#[]⟩, .int .i64 2, .int .i64 0, .int .i64 3, .bool false]) (by simp [results, Tryd.results73, go_sem]) rfl ⟨rfl, _, (Adv.refl _ w G).alloc _ 0⟩
theorem lower_7 (G : Nat → Nat) (w : World) : Calls Tryd.prog 73 #[.int .i64 7] w fun e w' => e = .returned (primV 7) ∧ ∃ G', Adv (fun _ => False) w G w' G' := by
  go_enter Tryd.func73, Tryd.ntmps73
  go_wp2
  exact bodyPost_ret (v := .agg #[.int .i64 7, .string ⟨#[]⟩, .int .i64 0, .int .i64 0, .int .i64 3, .bool true]) (by simp [results, Tryd.results73, go_sem]) rfl ⟨rfl, _, (Adv.refl _ w G).alloc _ 0⟩
theorem lower_8 (G : Nat → Nat) (w : World) : Calls Tryd.prog 73 #[.int .i64 8] w fun e w' => e = .returned (primV 8) ∧ ∃ G', Adv (fun _ => False) w G w' G' := by
  go_enter Tryd.func73, Tryd.ntmps73
  go_wp2
  exact bodyPost_ret (v := .agg #[.int .i64 8, .string ⟨#[]⟩, .int .i64 0, .int .i64 0, .int .i64 2, .bool false]) (by simp [results, Tryd.results73, go_sem]) rfl ⟨rfl, _, (Adv.refl _ w G).alloc _ 0⟩
theorem lower_9 (G : Nat → Nat) (w : World) : Calls Tryd.prog 73 #[.int .i64 9] w fun e w' => e = .returned (primV 9) ∧ ∃ G', Adv (fun _ => False) w G w' G' := by
  go_enter Tryd.func73, Tryd.ntmps73
  go_wp2
  exact bodyPost_ret (v := .agg #[.int .i64 9, .string ⟨#[110, 111, 112]⟩, .int .i64 0, .int .i64 0, .int .i64 1, .bool false]) (by simp [results, Tryd.results73, go_sem]) rfl ⟨rfl, _, (Adv.refl _ w G).alloc _ 0⟩
theorem lower_10 (G : Nat → Nat) (w : World) : Calls Tryd.prog 73 #[.int .i64 10] w fun e w' => e = .returned (primV 10) ∧ ∃ G', Adv (fun _ => False) w G w' G' := by
  go_enter Tryd.func73, Tryd.ntmps73
  go_wp2
  exact bodyPost_ret (v := .agg #[.int .i64 10, .string ⟨#[121, 105, 101, 108, 100]⟩, .int .i64 0, .int .i64 0, .int .i64 1, .bool false]) (by simp [results, Tryd.results73, go_sem]) rfl ⟨rfl, _, (Adv.refl _ w G).alloc _ 0⟩
theorem lower_11 (G : Nat → Nat) (w : World) : Calls Tryd.prog 73 #[.int .i64 11] w fun e w' => e = .returned (primV 11) ∧ ∃ G', Adv (fun _ => False) w G w' G' := by
  go_enter Tryd.func73, Tryd.ntmps73
  go_wp2
  exact bodyPost_ret (v := .agg #[.int .i64 11, .string ⟨#[104, 97, 108, 116]⟩, .int .i64 0, .int .i64 0, .int .i64 1, .bool false]) (by simp [results, Tryd.results73, go_sem]) rfl ⟨rfl, _, (Adv.refl _ w G).alloc _ 0⟩
theorem lower_12 (G : Nat → Nat) (w : World) : Calls Tryd.prog 73 #[.int .i64 12] w fun e w' => e = .returned (primV 12) ∧ ∃ G', Adv (fun _ => False) w G w' G' := by
  go_enter Tryd.func73, Tryd.ntmps73
  go_wp2
  exact bodyPost_ret (v := .agg #[.int .i64 12, .string ⟨#[100, 117, 112]⟩, .int .i64 1, .int .i64 2, .int .i64 1, .bool false]) (by simp [results, Tryd.results73, go_sem]) rfl ⟨rfl, _, (Adv.refl _ w G).alloc _ 0⟩
theorem lower_13 (G : Nat → Nat) (w : World) : Calls Tryd.prog 73 #[.int .i64 13] w fun e w' => e = .returned (primV 13) ∧ ∃ G', Adv (fun _ => False) w G w' G' := by
  go_enter Tryd.func73, Tryd.ntmps73
  go_wp2
  exact bodyPost_ret (v := .agg #[.int .i64 13, .string ⟨#[100, 114, 111, 112]⟩, .int .i64 1, .int .i64 0, .int .i64 1, .bool false]) (by simp [results, Tryd.results73, go_sem]) rfl ⟨rfl, _, (Adv.refl _ w G).alloc _ 0⟩
theorem lower_14 (G : Nat → Nat) (w : World) : Calls Tryd.prog 73 #[.int .i64 14] w fun e w' => e = .returned (primV 14) ∧ ∃ G', Adv (fun _ => False) w G w' G' := by
  go_enter Tryd.func73, Tryd.ntmps73
  go_wp2
  exact bodyPost_ret (v := .agg #[.int .i64 14, .string ⟨#[115, 119, 97, 112]⟩, .int .i64 2, .int .i64 2, .int .i64 1, .bool false]) (by simp [results, Tryd.results73, go_sem]) rfl ⟨rfl, _, (Adv.refl _ w G).alloc _ 0⟩
theorem lower_15 (G : Nat → Nat) (w : World) : Calls Tryd.prog 73 #[.int .i64 15] w fun e w' => e = .returned (primV 15) ∧ ∃ G', Adv (fun _ => False) w G w' G' := by
  go_enter Tryd.func73, Tryd.ntmps73
  go_wp2
  exact bodyPost_ret (v := .agg #[.int .i64 15, .string ⟨#[111, 118, 101, 114]⟩, .int .i64 2, .int .i64 3, .int .i64 1, .bool false]) (by simp [results, Tryd.results73, go_sem]) rfl ⟨rfl, _, (Adv.refl _ w G).alloc _ 0⟩
theorem lower_16 (G : Nat → Nat) (w : World) : Calls Tryd.prog 73 #[.int .i64 16] w fun e w' => e = .returned (primV 16) ∧ ∃ G', Adv (fun _ => False) w G w' G' := by
  go_enter Tryd.func73, Tryd.ntmps73
  go_wp2
  exact bodyPost_ret (v := .agg #[.int .i64 16, .string ⟨#[114, 111, 116]⟩, .int .i64 3, .int .i64 3, .int .i64 1, .bool false]) (by simp [results, Tryd.results73, go_sem]) rfl ⟨rfl, _, (Adv.refl _ w G).alloc _ 0⟩
theorem lower_17 (G : Nat → Nat) (w : World) : Calls Tryd.prog 73 #[.int .i64 17] w fun e w' => e = .returned (primV 17) ∧ ∃ G', Adv (fun _ => False) w G w' G' := by
  go_enter Tryd.func73, Tryd.ntmps73
  go_wp2
  exact bodyPost_ret (v := .agg #[.int .i64 17, .string ⟨#[110, 105, 112]⟩, .int .i64 2, .int .i64 1, .int .i64 1, .bool false]) (by simp [results, Tryd.results73, go_sem]) rfl ⟨rfl, _, (Adv.refl _ w G).alloc _ 0⟩
theorem lower_18 (G : Nat → Nat) (w : World) : Calls Tryd.prog 73 #[.int .i64 18] w fun e w' => e = .returned (primV 18) ∧ ∃ G', Adv (fun _ => False) w G w' G' := by
  go_enter Tryd.func73, Tryd.ntmps73
  go_wp2
  exact bodyPost_ret (v := .agg #[.int .i64 18, .string ⟨#[116, 117, 99, 107]⟩, .int .i64 2, .int .i64 3, .int .i64 1, .bool false]) (by simp [results, Tryd.results73, go_sem]) rfl ⟨rfl, _, (Adv.refl _ w G).alloc _ 0⟩
theorem lower_19 (G : Nat → Nat) (w : World) : Calls Tryd.prog 73 #[.int .i64 19] w fun e w' => e = .returned (primV 19) ∧ ∃ G', Adv (fun _ => False) w G w' G' := by
  go_enter Tryd.func73, Tryd.ntmps73
  go_wp2
  exact bodyPost_ret (v := .agg #[.int .i64 19, .string ⟨#[50, 100, 117, 112]⟩, .int .i64 2, .int .i64 4, .int .i64 2, .bool false]) (by simp [results, Tryd.results73, go_sem]) rfl ⟨rfl, _, (Adv.refl _ w G).alloc _ 0⟩
theorem lower_20 (G : Nat → Nat) (w : World) : Calls Tryd.prog 73 #[.int .i64 20] w fun e w' => e = .returned (primV 20) ∧ ∃ G', Adv (fun _ => False) w G w' G' := by
  go_enter Tryd.func73, Tryd.ntmps73
  go_wp2
  exact bodyPost_ret (v := .agg #[.int .i64 20, .string ⟨#[50, 100, 114, 111, 112]⟩, .int .i64 2, .int .i64 0, .int .i64 1, .bool false]) (by simp [results, Tryd.results73, go_sem]) rfl ⟨rfl, _, (Adv.refl _ w G).alloc _ 0⟩
end Go.Proofs.YtdnalhjdmlkbmaaDoor
