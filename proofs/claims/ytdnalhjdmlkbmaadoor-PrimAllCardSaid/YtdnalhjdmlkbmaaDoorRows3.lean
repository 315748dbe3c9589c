/- The document's rows of primitives 42 to 63. -/
import Derived.Test.YtdnalhjdmlkbmaaDoorTab
namespace Go.Proofs.YtdnalhjdmlkbmaaDoor
open Go.RowKit

theorem upper_42 (G : Nat → Nat) (w : World) : Calls Tryd.prog 75 #[.int .i64 42] w fun e w' => e = .returned (primV 42) ∧ ∃ G', Adv (fun _ => False) w G w' G' := by
  go_enter Tryd.func75, Tryd.ntmps75
  go_wp2
  exact bodyPost_ret (v := .agg #[.int .i64 42, .string ⟨#[61]⟩, .int .i64 2, .int .i64 1, .int .i64 1, .bool false]) (by simp [results, Tryd.results75, go_sem]) rfl ⟨rfl, _, (Adv.refl _ w G).alloc _ 0⟩
theorem upper_43 (G : Nat → Nat) (w : World) : Calls Tryd.prog 75 #[.int .i64 43] w fun e w' => e = .returned (primV 43) ∧ ∃ G', Adv (fun _ => False) w G w' G' := by
  go_enter Tryd.func75, Tryd.ntmps75
  go_wp2
  exact bodyPost_ret (v := .agg #[.int .i64 43, .string ⟨#[60, 62]⟩, .int .i64 2, .int .i64 1, .int .i64 1, .bool false]) (by simp [results, Tryd.results75, go_sem]) rfl ⟨rfl, _, (Adv.refl _ w G).alloc _ 0⟩
theorem upper_44 (G : Nat → Nat) (w : World) : Calls Tryd.prog 75 #[.int .i64 44] w fun e w' => e = .returned (primV 44) ∧ ∃ G', Adv (fun _ => False) w G w' G' := by
  go_enter Tryd.func75, Tryd.ntmps75
  go_wp2
  exact bodyPost_ret (v := .agg #[.int .i64 44, .string ⟨#[60]⟩, .int .i64 2, .int .i64 1, .int .i64 1, .bool false]) (by simp [results, Tryd.results75, go_sem]) rfl ⟨rfl, _, (Adv.refl _ w G).alloc _ 0⟩
theorem upper_45 (G : Nat → Nat) (w : World) : Calls Tryd.prog 75 #[.int .i64 45] w fun e w' => e = .returned (primV 45) ∧ ∃ G', Adv (fun _ => False) w G w' G' := by
  go_enter Tryd.func75, Tryd.ntmps75
  go_wp2
  exact bodyPost_ret (v := .agg #[.int .i64 45, .string ⟨#[62]⟩, .int .i64 2, .int .i64 1, .int .i64 1, .bool false]) (by simp [results, Tryd.results75, go_sem]) rfl ⟨rfl, _, (Adv.refl _ w G).alloc _ 0⟩
theorem upper_46 (G : Nat → Nat) (w : World) : Calls Tryd.prog 75 #[.int .i64 46] w fun e w' => e = .returned (primV 46) ∧ ∃ G', Adv (fun _ => False) w G w' G' := by
  go_enter Tryd.func75, Tryd.ntmps75
  go_wp2
  exact bodyPost_ret (v := .agg #[.int .i64 46, .string ⟨#[117, 60]⟩, .int .i64 2, .int .i64 1, .int .i64 1, .bool false]) (by simp [results, Tryd.results75, go_sem]) rfl ⟨rfl, _, (Adv.refl _ w G).alloc _ 0⟩
theorem upper_47 (G : Nat → Nat) (w : World) : Calls Tryd.prog 75 #[.int .i64 47] w fun e w' => e = .returned (primV 47) ∧ ∃ G', Adv (fun _ => False) w G w' G' := by
  go_enter Tryd.func75, Tryd.ntmps75
  go_wp2
  exact bodyPost_ret (v := .agg #[.int .i64 47, .string ⟨#[117, 62]⟩, .int .i64 2, .int .i64 1, .int .i64 1, .bool false]) (by simp [results, Tryd.results75, go_sem]) rfl ⟨rfl, _, (Adv.refl _ w G).alloc _ 0⟩
theorem upper_48 (G : Nat → Nat) (w : World) : Calls Tryd.prog 75 #[.int .i64 48] w fun e w' => e = .returned (primV 48) ∧ ∃ G', Adv (fun _ => False) w G w' G' := by
  go_enter Tryd.func75, Tryd.ntmps75
  go_wp2
  exact bodyPost_ret (v := .agg #[.int .i64 48, .string ⟨#[48, 61]⟩, .int .i64 1, .int .i64 1, .int .i64 1, .bool false]) (by simp [results, Tryd.results75, go_sem]) rfl ⟨rfl, _, (Adv.refl _ w G).alloc _ 0⟩
theorem upper_49 (G : Nat → Nat) (w : World) : Calls Tryd.prog 75 #[.int .i64 49] w fun e w' => e = .returned (primV 49) ∧ ∃ G', Adv (fun _ => False) w G w' G' := by
  go_enter Tryd.func75, Tryd.ntmps75
  go_wp2
  exact bodyPost_ret (v := .agg #[.int .i64 49, .string ⟨#[48, 60]⟩, .int .i64 1, .int .i64 1, .int .i64 1, .bool false]) (by simp [results, Tryd.results75, go_sem]) rfl ⟨rfl, _, (Adv.refl _ w G).alloc _ 0⟩
theorem upper_50 (G : Nat → Nat) (w : World) : Calls Tryd.prog 75 #[.int .i64 50] w fun e w' => e = .returned (primV 50) ∧ ∃ G', Adv (fun _ => False) w G w' G' := by
  go_enter Tryd.func75, Tryd.ntmps75
  go_wp2
  exact bodyPost_ret (v := .agg #[.int .i64 50, .string ⟨#[64]⟩, .int .i64 1, .int .i64 1, .int .i64 2, .bool false]) (by simp [results, Tryd.results75, go_sem]) rfl ⟨rfl, _, (Adv.refl _ w G).alloc _ 0⟩
theorem upper_51 (G : Nat → Nat) (w : World) : Calls Tryd.prog 75 #[.int .i64 51] w fun e w' => e = .returned (primV 51) ∧ ∃ G', Adv (fun _ => False) w G w' G' := by
  go_enter Tryd.func75, Tryd.ntmps75
  go_wp2
  exact bodyPost_ret (v := .agg #[.int .i64 51, .string ⟨#[33]⟩, .int .i64 2, .int .i64 0, .int .i64 2, .bool false]) (by simp [results, Tryd.results75, go_sem]) rfl ⟨rfl, _, (Adv.refl _ w G).alloc _ 0⟩
theorem upper_52 (G : Nat → Nat) (w : World) : Calls Tryd.prog 75 #[.int .i64 52] w fun e w' => e = .returned (primV 52) ∧ ∃ G', Adv (fun _ => False) w G w' G' := by
  go_enter Tryd.func75, Tryd.ntmps75
  go_wp2
  exact bodyPost_ret (v := .agg #[.int .i64 52, .string ⟨#[99, 64]⟩, .int .i64 1, .int .i64 1, .int .i64 2, .bool false]) (by simp [results, Tryd.results75, go_sem]) rfl ⟨rfl, _, (Adv.refl _ w G).alloc _ 0⟩
theorem upper_53 (G : Nat → Nat) (w : World) : Calls Tryd.prog 75 #[.int .i64 53] w fun e w' => e = .returned (primV 53) ∧ ∃ G', Adv (fun _ => False) w G w' G' := by
  go_enter Tryd.func75, Tryd.ntmps75
  go_wp2
  exact bodyPost_ret (v := .agg #[.int .i64 53, .string ⟨#[99, 33]⟩, .int .i64 2, .int .i64 0, .int .i64 2, .bool false]) (by simp [results, Tryd.results75, go_sem]) rfl ⟨rfl, _, (Adv.refl _ w G).alloc _ 0⟩
theorem upper_54 (G : Nat → Nat) (w : World) : Calls Tryd.prog 75 #[.int .i64 54] w fun e w' => e = .returned (primV 54) ∧ ∃ G', Adv (fun _ => False) w G w' G' := by
  go_enter Tryd.func75, Tryd.ntmps75
  go_wp2
  exact bodyPost_ret (v := .agg #[.int .i64 54, .string ⟨#[43, 33]⟩, .int .i64 2, .int .i64 0, .int .i64 3, .bool false]) (by simp [results, Tryd.results75, go_sem]) rfl ⟨rfl, _, (Adv.refl _ w G).alloc _ 0⟩
theorem upper_55 (G : Nat → Nat) (w : World) : Calls Tryd.prog 75 #[.int .i64 55] w fun e w' => e = .returned (primV 55) ∧ ∃ G', Adv (fun _ => False) w G w' G' := by
  go_enter Tryd.func75, Tryd.ntmps75
  go_wp2
  exact bodyPost_ret (v := .agg #[.int .i64 55, .string ⟨#[62, 114]⟩, .int .i64 1, .int .i64 0, .int .i64 1, .bool false]) (by simp [results, Tryd.results75, go_sem]) rfl ⟨rfl, _, (Adv.refl _ w G).alloc _ 0⟩
theorem upper_56 (G : Nat → Nat) (w : World) : Calls Tryd.prog 75 #[.int .i64 56] w fun e w' => e = .returned (primV 56) ∧ ∃ G', Adv (fun _ => False) w G w' G' := by
  go_enter Tryd.func75, Tryd.ntmps75
  go_wp2
  exact bodyPost_ret (v := .agg #[.int .i64 56, .string ⟨#[114, 62]⟩, .int .i64 0, .int .i64 1, .int .i64 1, .bool false]) (by simp [results, Tryd.results75, go_sem]) rfl ⟨rfl, _, (Adv.refl _ w G).alloc _ 0⟩
theorem upper_57 (G : Nat → Nat) (w : World) : Calls Tryd.prog 75 #[.int .i64 57] w fun e w' => e = .returned (primV 57) ∧ ∃ G', Adv (fun _ => False) w G w' G' := by
  go_enter Tryd.func75, Tryd.ntmps75
  go_wp2
  exact bodyPost_ret (v := .agg #[.int .i64 57, .string ⟨#[114, 64]⟩, .int .i64 0, .int .i64 1, .int .i64 1, .bool false]) (by simp [results, Tryd.results75, go_sem]) rfl ⟨rfl, _, (Adv.refl _ w G).alloc _ 0⟩
theorem upper_58 (G : Nat → Nat) (w : World) : Calls Tryd.prog 75 #[.int .i64 58] w fun e w' => e = .returned (primV 58) ∧ ∃ G', Adv (fun _ => False) w G w' G' := by
  go_enter Tryd.func75, Tryd.ntmps75
  go_wp2
  exact bodyPost_ret (v := .agg #[.int .i64 58, .string ⟨#[105]⟩, .int .i64 0, .int .i64 1, .int .i64 1, .bool false]) (by simp [results, Tryd.results75, go_sem]) rfl ⟨rfl, _, (Adv.refl _ w G).alloc _ 0⟩
theorem upper_59 (G : Nat → Nat) (w : World) : Calls Tryd.prog 75 #[.int .i64 59] w fun e w' => e = .returned (primV 59) ∧ ∃ G', Adv (fun _ => False) w G w' G' := by
  go_enter Tryd.func75, Tryd.ntmps75
  go_wp2
  exact bodyPost_ret (v := .agg #[.int .i64 59, .string ⟨#[106]⟩, .int .i64 0, .int .i64 1, .int .i64 1, .bool false]) (by simp [results, Tryd.results75, go_sem]) rfl ⟨rfl, _, (Adv.refl _ w G).alloc _ 0⟩
theorem upper_60 (G : Nat → Nat) (w : World) : Calls Tryd.prog 75 #[.int .i64 60] w fun e w' => e = .returned (primV 60) ∧ ∃ G', Adv (fun _ => False) w G w' G' := by
  go_enter Tryd.func75, Tryd.ntmps75
  go_wp2
  exact bodyPost_ret (v := .agg #[.int .i64 60, .string ⟨#[112, 108, 111, 116]⟩, .int .i64 3, .int .i64 0, .int .i64 3, .bool false]) (by simp [results, Tryd.results75, go_sem]) rfl ⟨rfl, _, (Adv.refl _ w G).alloc _ 0⟩
theorem upper_61 (G : Nat → Nat) (w : World) : Calls Tryd.prog 75 #[.int .i64 61] w fun e w' => e = .returned (primV 61) ∧ ∃ G', Adv (fun _ => False) w G w' G' := by
  go_enter Tryd.func75, Tryd.ntmps75
  go_wp2
  exact bodyPost_ret (v := .agg #[.int .i64 61, .string ⟨#[112, 97, 100]⟩, .int .i64 0, .int .i64 1, .int .i64 1, .bool false]) (by simp [results, Tryd.results75, go_sem]) rfl ⟨rfl, _, (Adv.refl _ w G).alloc _ 0⟩
theorem upper_62 (G : Nat → Nat) (w : World) : Calls Tryd.prog 75 #[.int .i64 62] w fun e w' => e = .returned (primV 62) ∧ ∃ G', Adv (fun _ => False) w G w' G' := by
  go_enter Tryd.func75, Tryd.ntmps75
  go_wp2
  exact bodyPost_ret (v := .agg #[.int .i64 62, .string ⟨#[116, 111, 110, 101]⟩, .int .i64 2, .int .i64 0, .int .i64 2, .bool false]) (by simp [results, Tryd.results75, go_sem]) rfl ⟨rfl, _, (Adv.refl _ w G).alloc _ 0⟩
theorem upper_63 (G : Nat → Nat) (w : World) : Calls Tryd.prog 75 #[.int .i64 63] w fun e w' => e = .returned (primV 63) ∧ ∃ G', Adv (fun _ => False) w G w' G' := by
  go_enter Tryd.func75, Tryd.ntmps75
  go_wp2
  exact bodyPost_ret (v := .agg #[.int .i64 63, .string ⟨#[98, 97, 110, 107]⟩, .int .i64 1, .int .i64 0, .int .i64 1, .bool false]) (by simp [results, Tryd.results75, go_sem]) rfl ⟨rfl, _, (Adv.refl _ w G).alloc _ 0⟩
end Go.Proofs.YtdnalhjdmlkbmaaDoor
