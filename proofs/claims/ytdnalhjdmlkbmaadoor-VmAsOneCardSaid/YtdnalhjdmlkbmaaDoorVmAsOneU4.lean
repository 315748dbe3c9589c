/- The document's rows of primitives 42 to 63; The document's table; wispref06.Named, and the row that a name has; wisplaw06.same, named; The statements' own closed check: it answers true; What the primitives' functions do on a desk; What does hands back at the numbers of num; Do, where it says no; What Do comes to: its fault, or the stacks and the memory behind it; Do, of every plain primitive, on whatever stacks and memory. -/
import Derived.Laws.StructEq
import Derived.Deep.RegionHeld3
import Derived.Deep.DeepCutAuto
import Derived.Test.YtdnalhjdmlkbmaaDoorVmAsOneU1
import Derived.Test.YtdnalhjdmlkbmaaDoorVmAsOneU2
import Derived.Test.YtdnalhjdmlkbmaaDoorVmAsOneU3
set_option linter.unusedVariables false
set_option linter.unusedSimpArgs false
set_option linter.unnecessarySimpa false
namespace Go.Proofs.YtdnalhjdmlkbmaaDoor
open Go.RowKit

theorem upper_42 (G : Nat → Nat) (w : World) : Calls Tryd.prog 75 #[.int .i64 42] w fun e w' => e = .returned (primV 42) ∧ ∃ G', Adv (fun _ => False) w G w' G' := by
  go_enter Tryd.func75, Tryd.ntmps75
  go_wp2
  exact bodyPost_ret (v := .agg #[.int .i64 42, .string ⟨#[61]⟩, .int .i64 2, .int .i64 1, .int .i64 1, .bool false]) (by simp [results, Tryd.results75, go_sem]) rfl ⟨rfl, _, (Adv.refl _ w G).alloc _ 0⟩
theorem upper_43 (G : Nat → Nat) (w : World) : Calls Tryd.prog 75 #[.int .i64 43] w fun e w' => e = .returned (primV 43) ∧ ∃ G', Adv (fun _ => False) w G w' G' := by
  go_enter Tryd.func75, Tryd.ntmps75
  go_wp2
  exact bodyPost_ret (v := .agg #[.int .i64 43, .string ⟨#[60, 62]⟩, .int .i64 2, .int .i64 1, .int .i64 1, .bool false]) (by simp [results, Tryd.results75, go_sem]) rfl ⟨rfl, _, (Adv.refl _ w G).alloc _ 0⟩
theorem upper_44 (G : Nat → Nat) (w : World) : Calls Tryd.prog 75 #[.int .i64 44] w fun e w' => e = .returned (primV 44) ∧ ∃ G', Adv (fun _ => False) w G w' G' := by
  go_enter Tryd.func75, Tryd.ntmps75
  go_wp2
  exact bodyPost_ret (v := .agg #[.int .i64 44, .string ⟨#[60]⟩, .int .i64 2, .int .i64 1, .int .i64 1, .bool false]) (by simp [results, Tryd.results75, go_sem]) rfl ⟨rfl, _, (Adv.refl _ w G).alloc _ 0⟩
theorem upper_45 (G : Nat → Nat) (w : World) : Calls Tryd.prog 75 #[.int .i64 45] w fun e w' => e = .returned (primV 45) ∧ ∃ G', Adv (fun _ => False) w G w' G' := by
  go_enter Tryd.func75, Tryd.ntmps75
  go_wp2
  exact bodyPost_ret (v := .agg #[.int .i64 45, .string ⟨#[62]⟩, .int .i64 2, .int .i64 1, .int .i64 1, .bool false]) (by simp [results, Tryd.results75, go_sem]) rfl ⟨rfl, _, (Adv.refl _ w G).alloc _ 0⟩
theorem upper_46 (G : Nat → Nat) (w : World) : Calls Tryd.prog 75 #[.int .i64 46] w fun e w' => e = .returned (primV 46) ∧ ∃ G', Adv (fun _ => False) w G w' G' := by
  go_enter Tryd.func75, Tryd.ntmps75
  go_wp2
  exact bodyPost_ret (v := .agg #[.int .i64 46, .string ⟨#[117, 60]⟩, .int .i64 2, .int .i64 1, .int .i64 1, .bool false]) (by simp [results, Tryd.results75, go_sem]) rfl ⟨rfl, _, (Adv.refl _ w G).alloc _ 0⟩
theorem upper_47 (G : Nat → Nat) (w : World) : Calls Tryd.prog 75 #[.int .i64 47] w fun e w' => e = .returned (primV 47) ∧ ∃ G', Adv (fun _ => False) w G w' G' := by
  go_enter Tryd.func75, Tryd.ntmps75
  go_wp2
  exact bodyPost_ret (v := .agg #[.int .i64 47, .string ⟨#[117, 62]⟩, .int .i64 2, .int .i64 1, .int .i64 1, .bool false]) (by simp [results, Tryd.results75, go_sem]) rfl ⟨rfl, _, (Adv.refl _ w G).alloc _ 0⟩
theorem upper_48 (G : Nat → Nat) (w : World) : Calls Tryd.prog 75 #[.int .i64 48] w fun e w' => e = .returned (primV 48) ∧ ∃ G', Adv (fun _ => False) w G w' G' := by
  go_enter Tryd.func75, Tryd.ntmps75
  go_wp2
  exact bodyPost_ret (v := .agg #[.int .i64 48, .string ⟨#[48, 61]⟩, .int .i64 1, .int .i64 1, .int .i64 1, .bool false]) (by simp [results, Tryd.results75, go_sem]) rfl ⟨rfl, _, (Adv.refl _ w G).alloc _ 0⟩
theorem upper_49 (G : Nat → Nat) (w : World) : Calls Tryd.prog 75 #[.int .i64 49] w fun e w' => e = .returned (primV 49) ∧ ∃ G', Adv (fun _ => False) w G w' G' := by
  go_enter Tryd.func75, Tryd.ntmps75
  go_wp2
  exact bodyPost_ret (v := .agg #[.int .i64 49, .string ⟨#[48, 60]⟩, .int .i64 1, .int .i64 1, .int .i64 1, .bool false]) (by simp [results, Tryd.results75, go_sem]) rfl ⟨rfl, _, (Adv.refl _ w G).alloc _ 0⟩
theorem upper_50 (G : Nat → Nat) (w : World) : Calls Tryd.prog 75 #[.int .i64 50] w fun e w' => e = .returned (primV 50) ∧ ∃ G', Adv (fun _ => False) w G w' G' := by
  go_enter Tryd.func75, Tryd.ntmps75
  go_wp2
  exact bodyPost_ret (v := .agg #[.int .i64 50, .string ⟨#[64]⟩, .int .i64 1, .int .i64 1, .int .i64 2, .bool false]) (by simp [results, Tryd.results75, go_sem]) rfl ⟨rfl, _, (Adv.refl _ w G).alloc _ 0⟩
theorem upper_51 (G : Nat → Nat) (w : World) : Calls Tryd.prog 75 #[.int .i64 51] w fun e w' => e = .returned (primV 51) ∧ ∃ G', Adv (fun _ => False) w G w' G' := by
  go_enter Tryd.func75, Tryd.ntmps75
  go_wp2
  exact bodyPost_ret (v := .agg #[.int .i64 51, .string ⟨#[33]⟩, .int .i64 2, .int .i64 0, .int .i64 2, .bool false]) (by simp [results, Tryd.results75, go_sem]) rfl ⟨rfl, _, (Adv.refl _ w G).alloc _ 0⟩
theorem upper_52 (G : Nat → Nat) (w : World) : Calls Tryd.prog 75 #[.int .i64 52] w fun e w' => e = .returned (primV 52) ∧ ∃ G', Adv (fun _ => False) w G w' G' := by
  go_enter Tryd.func75, Tryd.ntmps75
  go_wp2
  exact bodyPost_ret (v := .agg #[.int .i64 52, .string ⟨#[99, 64]⟩, .int .i64 1, .int .i64 1, .int .i64 2, .bool false]) (by simp [results, Tryd.results75, go_sem]) rfl ⟨rfl, _, (Adv.refl _ w G).alloc _ 0⟩
theorem upper_53 (G : Nat → Nat) (w : World) : Calls Tryd.prog 75 #[.int .i64 53] w fun e w' => e = .returned (primV 53) ∧ ∃ G', Adv (fun _ => False) w G w' G' := by
  go_enter Tryd.func75, Tryd.ntmps75
  go_wp2
  exact bodyPost_ret (v := .agg #[.int .i64 53, .string ⟨#[99, 33]⟩, .int .i64 2, .int .i64 0, .int .i64 2, .bool false]) (by simp [results, Tryd.results75, go_sem]) rfl ⟨rfl, _, (Adv.refl _ w G).alloc _ 0⟩
theorem upper_54 (G : Nat → Nat) (w : World) : Calls Tryd.prog 75 #[.int .i64 54] w fun e w' => e = .returned (primV 54) ∧ ∃ G', Adv (fun _ => False) w G w' G' := by
  go_enter Tryd.func75, Tryd.ntmps75
  go_wp2
  exact bodyPost_ret (v := .agg #[.int .i64 54, .string ⟨#[43, 33]⟩, .int .i64 2, .int .i64 0, .int .i64 3, .bool false]) (by simp [results, Tryd.results75, go_sem]) rfl ⟨rfl, _, (Adv.refl _ w G).alloc _ 0⟩
theorem upper_55 (G : Nat → Nat) (w : World) : Calls Tryd.prog 75 #[.int .i64 55] w fun e w' => e = .returned (primV 55) ∧ ∃ G', Adv (fun _ => False) w G w' G' := by
  go_enter Tryd.func75, Tryd.ntmps75
  go_wp2
  exact bodyPost_ret (v := .agg #[.int .i64 55, .string ⟨#[62, 114]⟩, .int .i64 1, .int .i64 0, .int .i64 1, .bool false]) (by simp [results, Tryd.results75, go_sem]) rfl ⟨rfl, _, (Adv.refl _ w G).alloc _ 0⟩
theorem upper_56 (G : Nat → Nat) (w : World) : Calls Tryd.prog 75 #[.int .i64 56] w fun e w' => e = .returned (primV 56) ∧ ∃ G', Adv (fun _ => False) w G w' G' := by
  go_enter Tryd.func75, Tryd.ntmps75
  go_wp2
  exact bodyPost_ret (v := .agg #[.int .i64 56, .string ⟨#[114, 62]⟩, .int .i64 0, .int .i64 1, .int .i64 1, .bool false]) (by simp [results, Tryd.results75, go_sem]) rfl ⟨rfl, _, (Adv.refl _ w G).alloc _ 0⟩
theorem upper_57 (G : Nat → Nat) (w : World) : Calls Tryd.prog 75 #[.int .i64 57] w fun e w' => e = .returned (primV 57) ∧ ∃ G', Adv (fun _ => False) w G w' G' := by
  go_enter Tryd.func75, Tryd.ntmps75
  go_wp2
  exact bodyPost_ret (v := .agg #[.int .i64 57, .string ⟨#[114, 64]⟩, .int .i64 0, .int .i64 1, .int .i64 1, .bool false]) (by simp [results, Tryd.results75, go_sem]) rfl ⟨rfl, _, (Adv.refl _ w G).alloc _ 0⟩
theorem upper_58 (G : Nat → Nat) (w : World) : Calls Tryd.prog 75 #[.int .i64 58] w fun e w' => e = .returned (primV 58) ∧ ∃ G', Adv (fun _ => False) w G w' G' := by
  go_enter Tryd.func75, Tryd.ntmps75
  go_wp2
  exact bodyPost_ret (v := .agg #[.int .i64 58, .string ⟨#[105]⟩, .int .i64 0, .int .i64 1, .int .i64 1, .bool false]) (by simp [results, Tryd.results75, go_sem]) rfl ⟨rfl, _, (Adv.refl _ w G).alloc _ 0⟩
theorem upper_59 (G : Nat → Nat) (w : World) : Calls Tryd.prog 75 #[.int .i64 59] w fun e w' => e = .returned (primV 59) ∧ ∃ G', Adv (fun _ => False) w G w' G' := by
  go_enter Tryd.func75, Tryd.ntmps75
  go_wp2
  exact bodyPost_ret (v := .agg #[.int .i64 59, .string ⟨#[106]⟩, .int .i64 0, .int .i64 1, .int .i64 1, .bool false]) (by simp [results, Tryd.results75, go_sem]) rfl ⟨rfl, _, (Adv.refl _ w G).alloc _ 0⟩
theorem upper_60 (G : Nat → Nat) (w : World) : Calls Tryd.prog 75 #[.int .i64 60] w fun e w' => e = .returned (primV 60) ∧ ∃ G', Adv (fun _ => False) w G w' G' := by
  go_enter Tryd.func75, Tryd.ntmps75
  go_wp2
  exact bodyPost_ret (v := .agg #[.int .i64 60, .string ⟨#[112, 108, 111, 116]⟩, .int .i64 3, .int .i64 0, .int .i64 3, .bool false]) (by simp [results, Tryd.results75, go_sem]) rfl ⟨rfl, _, (Adv.refl _ w G).alloc _ 0⟩
theorem upper_61 (G : Nat → Nat) (w : World) : Calls Tryd.prog 75 #[.int .i64 61] w fun e w' => e = .returned (primV 61) ∧ ∃ G', Adv (fun _ => False) w G w' G' := by
  go_enter Tryd.func75, Tryd.ntmps75
  go_wp2
  exact bodyPost_ret (v := .agg #[.int .i64 61, .string ⟨#[112, 97, 100]⟩, .int .i64 0, .int .i64 1, .int .i64 1, .bool false]) (by simp [results, Tryd.results75, go_sem]) rfl ⟨rfl, _, (Adv.refl _ w G).alloc _ 0⟩
theorem upper_62 (G : Nat → Nat) (w : World) : Calls Tryd.prog 75 #[.int .i64 62] w fun e w' => e = .returned (primV 62) ∧ ∃ G', Adv (fun _ => False) w G w' G' := by
  go_enter Tryd.func75, Tryd.ntmps75
  go_wp2
  exact bodyPost_ret (v := .agg #[.int .i64 62, .string ⟨#[116, 111, 110, 101]⟩, .int .i64 2, .int .i64 0, .int .i64 2, .bool false]) (by simp [results, Tryd.results75, go_sem]) rfl ⟨rfl, _, (Adv.refl _ w G).alloc _ 0⟩
theorem upper_63 (G : Nat → Nat) (w : World) : Calls Tryd.prog 75 #[.int .i64 63] w fun e w' => e = .returned (primV 63) ∧ ∃ G', Adv (fun _ => False) w G w' G' := by
  go_enter Tryd.func75, Tryd.ntmps75
  go_wp2
  exact bodyPost_ret (v := .agg #[.int .i64 63, .string ⟨#[98, 97, 110, 107]⟩, .int .i64 1, .int .i64 0, .int .i64 1, .bool false]) (by simp [results, Tryd.results75, go_sem]) rfl ⟨rfl, _, (Adv.refl _ w G).alloc _ 0⟩
end Go.Proofs.YtdnalhjdmlkbmaaDoor
namespace Go.Proofs.YtdnalhjdmlkbmaaDoor
open Go.RowKit

set_option maxRecDepth 100000 in
theorem row_lower (G : Nat → Nat) (k : Nat) (h : k < 21) (w : World) (hf : ∀ (G : Nat → Nat) (w : World), Calls Tryd.prog 73 #[.int .i64 k] w fun e w' => e = .returned (primV k) ∧ ∃ G', Adv (fun _ => False) w G w' G') :
    Calls Tryd.prog 49 #[.int .i64 k] w fun e w' => e = .returned (primV k) ∧ ∃ G', Adv (fun _ => False) w G w' G' := by
  have a1 : decide ((k : Int) < 21) = true := by simp; omega
  have HF := Lib.hid hf
  clear hf
  go_enter Tryd.func49, Tryd.ntmps49
  go_wp2_with fail
  refine (HF.out (own1 w G 0) _).mono ?_
  rintro e w' ⟨rfl, G', ha⟩
  have hc := (ha.keep w.heap.size (by simp) id).trans (heap_alloc_new w _)
  have c0 := block_cell hc 0 _ rfl
  have c1 := block_cell hc 1 _ rfl
  have c2 := block_cell hc 2 _ rfl
  have c3 := block_cell hc 3 _ rfl
  have c4 := block_cell hc 4 _ rfl
  have c5 := block_cell hc 5 _ rfl
  have f0 := block_free hc
  have HA := Lib.hid (((Adv.refl (fun _ => False) w G).alloc _ 0).trans ha)
  clear ha hc
  unfold primV
  go_wp2
  exact bodyPost_ret (v := primV k) (by simp [results, Tryd.results49, go_sem, primV, c0, c1, c2, c3, c4, c5]) rfl
    ⟨rfl, _, (((((HA.out.setNew (Nat.le_refl _) _).setNew (Nat.le_refl _) _).setNew (Nat.le_refl _) _).setNew (Nat.le_refl _) _).setNew (Nat.le_refl _) _).setNew (Nat.le_refl _) _⟩
set_option maxRecDepth 100000 in
theorem row_middle (G : Nat → Nat) (k : Nat) (h : 21 ≤ k ∧ k < 42) (w : World) (hf : ∀ (G : Nat → Nat) (w : World), Calls Tryd.prog 74 #[.int .i64 k] w fun e w' => e = .returned (primV k) ∧ ∃ G', Adv (fun _ => False) w G w' G') :
    Calls Tryd.prog 49 #[.int .i64 k] w fun e w' => e = .returned (primV k) ∧ ∃ G', Adv (fun _ => False) w G w' G' := by
  have a1 : decide ((k : Int) < 21) = false := by simp; omega
  have a2 : decide ((k : Int) < 42) = true := by simp; omega
  have HF := Lib.hid hf
  clear hf
  go_enter Tryd.func49, Tryd.ntmps49
  go_wp2_with fail
  refine (HF.out (own1 w G 0) _).mono ?_
  rintro e w' ⟨rfl, G', ha⟩
  have hc := (ha.keep w.heap.size (by simp) id).trans (heap_alloc_new w _)
  have c0 := block_cell hc 0 _ rfl
  have c1 := block_cell hc 1 _ rfl
  have c2 := block_cell hc 2 _ rfl
  have c3 := block_cell hc 3 _ rfl
  have c4 := block_cell hc 4 _ rfl
  have c5 := block_cell hc 5 _ rfl
  have f0 := block_free hc
  have HA := Lib.hid (((Adv.refl (fun _ => False) w G).alloc _ 0).trans ha)
  clear ha hc
  unfold primV
  go_wp2
  exact bodyPost_ret (v := primV k) (by simp [results, Tryd.results49, go_sem, primV, c0, c1, c2, c3, c4, c5]) rfl
    ⟨rfl, _, (((((HA.out.setNew (Nat.le_refl _) _).setNew (Nat.le_refl _) _).setNew (Nat.le_refl _) _).setNew (Nat.le_refl _) _).setNew (Nat.le_refl _) _).setNew (Nat.le_refl _) _⟩
set_option maxRecDepth 100000 in
theorem row_upper (G : Nat → Nat) (k : Nat) (h : 42 ≤ k) (w : World) (hf : ∀ (G : Nat → Nat) (w : World), Calls Tryd.prog 75 #[.int .i64 k] w fun e w' => e = .returned (primV k) ∧ ∃ G', Adv (fun _ => False) w G w' G') :
    Calls Tryd.prog 49 #[.int .i64 k] w fun e w' => e = .returned (primV k) ∧ ∃ G', Adv (fun _ => False) w G w' G' := by
  have a1 : decide ((k : Int) < 21) = false := by simp; omega
  have a2 : decide ((k : Int) < 42) = false := by simp; omega
  have HF := Lib.hid hf
  clear hf
  go_enter Tryd.func49, Tryd.ntmps49
  go_wp2_with fail
  refine (HF.out (own1 w G 0) _).mono ?_
  rintro e w' ⟨rfl, G', ha⟩
  have hc := (ha.keep w.heap.size (by simp) id).trans (heap_alloc_new w _)
  have c0 := block_cell hc 0 _ rfl
  have c1 := block_cell hc 1 _ rfl
  have c2 := block_cell hc 2 _ rfl
  have c3 := block_cell hc 3 _ rfl
  have c4 := block_cell hc 4 _ rfl
  have c5 := block_cell hc 5 _ rfl
  have f0 := block_free hc
  have HA := Lib.hid (((Adv.refl (fun _ => False) w G).alloc _ 0).trans ha)
  clear ha hc
  unfold primV
  go_wp2
  exact bodyPost_ret (v := primV k) (by simp [results, Tryd.results49, go_sem, primV, c0, c1, c2, c3, c4, c5]) rfl
    ⟨rfl, _, (((((HA.out.setNew (Nat.le_refl _) _).setNew (Nat.le_refl _) _).setNew (Nat.le_refl _) _).setNew (Nat.le_refl _) _).setNew (Nat.le_refl _) _).setNew (Nat.le_refl _) _⟩
theorem refRow_any (G : Nat → Nat) (k : Nat) (h1 : 1 ≤ k) (h2 : k < 64) (w : World) : Calls Tryd.prog 49 #[.int .i64 k] w fun e w' => e = .returned (primV k) ∧ ∃ G', Adv (fun _ => False) w G w' G' := by
  have hk : k = 1 ∨ k = 2 ∨ k = 3 ∨ k = 4 ∨ k = 5 ∨ k = 6 ∨ k = 7 ∨ k = 8 ∨ k = 9 ∨ k = 10 ∨ k = 11 ∨ k = 12 ∨ k = 13 ∨ k = 14 ∨ k = 15 ∨ k = 16 ∨ k = 17 ∨ k = 18 ∨ k = 19 ∨ k = 20 ∨ k = 21 ∨ k = 22 ∨ k = 23 ∨ k = 24 ∨ k = 25 ∨ k = 26 ∨ k = 27 ∨ k = 28 ∨ k = 29 ∨ k = 30 ∨ k = 31 ∨ k = 32 ∨ k = 33 ∨ k = 34 ∨ k = 35 ∨ k = 36 ∨ k = 37 ∨ k = 38 ∨ k = 39 ∨ k = 40 ∨ k = 41 ∨ k = 42 ∨ k = 43 ∨ k = 44 ∨ k = 45 ∨ k = 46 ∨ k = 47 ∨ k = 48 ∨ k = 49 ∨ k = 50 ∨ k = 51 ∨ k = 52 ∨ k = 53 ∨ k = 54 ∨ k = 55 ∨ k = 56 ∨ k = 57 ∨ k = 58 ∨ k = 59 ∨ k = 60 ∨ k = 61 ∨ k = 62 ∨ k = 63 := by omega
  rcases hk with rfl | rfl | rfl | rfl | rfl | rfl | rfl | rfl | rfl | rfl | rfl | rfl | rfl | rfl | rfl | rfl | rfl | rfl | rfl | rfl | rfl | rfl | rfl | rfl | rfl | rfl | rfl | rfl | rfl | rfl | rfl | rfl | rfl | rfl | rfl | rfl | rfl | rfl | rfl | rfl | rfl | rfl | rfl | rfl | rfl | rfl | rfl | rfl | rfl | rfl | rfl | rfl | rfl | rfl | rfl | rfl | rfl | rfl | rfl | rfl | rfl | rfl | rfl
  · exact row_lower G 1 (by omega) w lower_1
  · exact row_lower G 2 (by omega) w lower_2
  · exact row_lower G 3 (by omega) w lower_3
  · exact row_lower G 4 (by omega) w lower_4
  · exact row_lower G 5 (by omega) w lower_5
  · exact row_lower G 6 (by omega) w lower_6
  · exact row_lower G 7 (by omega) w lower_7
  · exact row_lower G 8 (by omega) w lower_8
  · exact row_lower G 9 (by omega) w lower_9
  · exact row_lower G 10 (by omega) w lower_10
  · exact row_lower G 11 (by omega) w lower_11
  · exact row_lower G 12 (by omega) w lower_12
  · exact row_lower G 13 (by omega) w lower_13
  · exact row_lower G 14 (by omega) w lower_14
  · exact row_lower G 15 (by omega) w lower_15
  · exact row_lower G 16 (by omega) w lower_16
  · exact row_lower G 17 (by omega) w lower_17
  · exact row_lower G 18 (by omega) w lower_18
  · exact row_lower G 19 (by omega) w lower_19
  · exact row_lower G 20 (by omega) w lower_20
  · exact row_middle G 21 (by omega) w middle_21
  · exact row_middle G 22 (by omega) w middle_22
  · exact row_middle G 23 (by omega) w middle_23
  · exact row_middle G 24 (by omega) w middle_24
  · exact row_middle G 25 (by omega) w middle_25
  · exact row_middle G 26 (by omega) w middle_26
  · exact row_middle G 27 (by omega) w middle_27
  · exact row_middle G 28 (by omega) w middle_28
  · exact row_middle G 29 (by omega) w middle_29
  · exact row_middle G 30 (by omega) w middle_30
  · exact row_middle G 31 (by omega) w middle_31
  · exact row_middle G 32 (by omega) w middle_32
  · exact row_middle G 33 (by omega) w middle_33
  · exact row_middle G 34 (by omega) w middle_34
  · exact row_middle G 35 (by omega) w middle_35
  · exact row_middle G 36 (by omega) w middle_36
  · exact row_middle G 37 (by omega) w middle_37
  · exact row_middle G 38 (by omega) w middle_38
  · exact row_middle G 39 (by omega) w middle_39
  · exact row_middle G 40 (by omega) w middle_40
  · exact row_middle G 41 (by omega) w middle_41
  · exact row_upper G 42 (by omega) w upper_42
  · exact row_upper G 43 (by omega) w upper_43
  · exact row_upper G 44 (by omega) w upper_44
  · exact row_upper G 45 (by omega) w upper_45
  · exact row_upper G 46 (by omega) w upper_46
  · exact row_upper G 47 (by omega) w upper_47
  · exact row_upper G 48 (by omega) w upper_48
  · exact row_upper G 49 (by omega) w upper_49
  · exact row_upper G 50 (by omega) w upper_50
  · exact row_upper G 51 (by omega) w upper_51
  · exact row_upper G 52 (by omega) w upper_52
  · exact row_upper G 53 (by omega) w upper_53
  · exact row_upper G 54 (by omega) w upper_54
  · exact row_upper G 55 (by omega) w upper_55
  · exact row_upper G 56 (by omega) w upper_56
  · exact row_upper G 57 (by omega) w upper_57
  · exact row_upper G 58 (by omega) w upper_58
  · exact row_upper G 59 (by omega) w upper_59
  · exact row_upper G 60 (by omega) w upper_60
  · exact row_upper G 61 (by omega) w upper_61
  · exact row_upper G 62 (by omega) w upper_62
  · exact row_upper G 63 (by omega) w upper_63
set_option maxRecDepth 100000 in
theorem refOf_in (G : Nat → Nat) (k : Nat) (h1 : 1 ≤ k) (hk : k < 64) (w : World) :
    Calls Tryd.prog 12 #[.int .i64 k] w fun e w' => e = .returned (.tuple #[primV k, .int .i64 0]) ∧ ∃ G', Adv (fun _ => False) w G w' G' := by
  have a1 : decide ((k : Int) < 1) = false := by simp; omega
  have a2 : decide (63 < (k : Int)) = false := by simp; omega
  go_enter Tryd.func12, Tryd.ntmps12
  go_wp2_with fail
  refine (refRow_any (own1 w G 0) k h1 hk _).mono ?_
  rintro e w' ⟨rfl, G', ha⟩
  have hc := (ha.keep w.heap.size (by simp) id).trans (heap_alloc_new w _)
  have c0 := block_cell hc 0 _ rfl
  have c1 := block_cell hc 1 _ rfl
  have c2 := block_cell hc 2 _ rfl
  have c3 := block_cell hc 3 _ rfl
  have c4 := block_cell hc 4 _ rfl
  have c5 := block_cell hc 5 _ rfl
  have f0 := block_free hc
  have HA := Lib.hid (((Adv.refl (fun _ => False) w G).alloc _ 0).trans ha)
  clear ha hc
  unfold primV
  go_wp2
  exact bodyPost_ret (v := .tuple #[primV k, .int .i64 0]) (by simp [results, Tryd.results12, go_sem, primV, c0, c1, c2, c3, c4, c5]) rfl
    ⟨rfl, _, (((((HA.out.setNew (Nat.le_refl _) _).setNew (Nat.le_refl _) _).setNew (Nat.le_refl _) _).setNew (Nat.le_refl _) _).setNew (Nat.le_refl _) _).setNew (Nat.le_refl _) _⟩
theorem refOf_out (G : Nat → Nat) (x : Int) (hx : x < 1 ∨ 64 ≤ x) (w : World) :
    Calls Tryd.prog 12 #[.int .i64 x] w fun e w' => e = .returned (.tuple #[primV0, .int .i64 60]) ∧ ∃ G', Adv (fun _ => False) w G w' G' := by
  by_cases h : x < 1
  · have a1 : decide (x < 1) = true := by simpa using h
    go_enter Tryd.func12, Tryd.ntmps12
    go_wp2
    exact bodyPost_ret (v := .tuple #[primV0, .int .i64 60]) (by simp [results, Tryd.results12, go_sem, primV0]) rfl ⟨rfl, _, (Adv.refl _ w G).alloc _ 0⟩
  · have a1 : decide (x < 1) = false := by simpa using h
    have a2 : decide (63 < x) = true := by simp; omega
    go_enter Tryd.func12, Tryd.ntmps12
    go_wp2
    exact bodyPost_ret (v := .tuple #[primV0, .int .i64 60]) (by simp [results, Tryd.results12, go_sem, primV0]) rfl ⟨rfl, _, (Adv.refl _ w G).alloc _ 0⟩
theorem refPlain_any (x : Int) (w : World) : Calls Tryd.prog 15 #[.int .i64 x] w fun e w' => e = .returned (.bool (plainB x)) ∧ w = w' := by
  by_cases h6 : x = 6
  · subst h6
    go_enter Tryd.func15, Tryd.ntmps15
    go_wp2
    go_ret
    exact ⟨rfl, rfl⟩
  · by_cases h9 : x = 9
    · subst h9
      go_enter Tryd.func15, Tryd.ntmps15
      go_wp2
      go_ret
      exact ⟨rfl, rfl⟩
    · have e9 : (x == 9) = false := by simpa using h9
      have e6 : (x == 6) = false := by simpa using h6
      by_cases hl : 12 ≤ x
      · have el : decide (12 ≤ x) = true := by simpa using hl
        by_cases hh : x ≤ 63
        · have eh : decide (x ≤ 63) = true := by simpa using hh
          have hf : plainB x = true := by simp [plainB, hl]; omega
          have HF := Lib.hid hf
          clear hf
          go_enter Tryd.func15, Tryd.ntmps15
          go_wp2
          go_ret
          exact ⟨ret_bool HF.out.symm, rfl⟩
        · have eh : decide (x ≤ 63) = false := by simpa using hh
          have hf : plainB x = false := by simp [plainB, h9, h6]; omega
          have HF := Lib.hid hf
          clear hf
          go_enter Tryd.func15, Tryd.ntmps15
          go_wp2
          go_ret
          exact ⟨ret_bool HF.out.symm, rfl⟩
      · have el : decide (12 ≤ x) = false := by simpa using hl
        have hf : plainB x = false := by simp [plainB, h9, h6, hl]
        have HF := Lib.hid hf
        clear hf
        go_enter Tryd.func15, Tryd.ntmps15
        go_wp2
        go_ret
        exact ⟨ret_bool HF.out.symm, rfl⟩
end Go.Proofs.YtdnalhjdmlkbmaaDoor
namespace Go.Proofs.YtdnalhjdmlkbmaaDoor
open Go.RowKit Go.Shelf
attribute [local go_sem] Oper.semAt_some

/-- The row that a name has. -/
def nmd (s : ByteArray) : Option Nat := (upTo 63).find? (hitB s)
def nmdV : Option Nat → Value
  | some k => primV k
  | none => primV0
theorem nmd_hit (s : ByteArray) (pre : List Nat) (k : Nat) (hp : pre ++ [k] <+: upTo 63) (hn : ∀ j ∈ pre, hitB s j = false) (hk : hitB s k = true) : nmd s = some k := by
  obtain ⟨r, hr⟩ := hp
  unfold nmd
  rw [← hr, List.find?_append, List.find?_append, List.find?_eq_none.2 (fun j hj => by simp [hn j hj])]
  simp [hk]
theorem nmd_no (s : ByteArray) (h : ∀ j ∈ upTo 63, hitB s j = false) : nmd s = none := by
  unfold nmd
  exact List.find?_eq_none.2 (fun j hj => by simp [h j hj])
set_option maxRecDepth 100000 in
theorem name_low : ∀ j, j < 9 → nameB j = ⟨#[]⟩ := by decide +kernel
set_option maxRecDepth 100000 in
theorem name_high : ∀ j, j < 64 → 9 ≤ j → (nameB j).toList.isEmpty = false := by decide +kernel
theorem hit_low (s : ByteArray) (j : Nat) (h : j < 9) : hitB s j = false := by
  unfold hitB
  rw [name_low j h]
  cases hs : s.toList with
  | nil => simp
  | cons a b => simp
theorem hit_high (s : ByteArray) (j : Nat) (h : 9 ≤ j) (h2 : j < 64) : hitB s j = ((nameB j).toList == s.toList) := by
  unfold hitB
  cases hq : ((nameB j).toList == s.toList) with
  | false => simp
  | true =>
    have e := eq_of_beq hq
    have := name_high j h2 h
    rw [e] at this
    simp [this]
theorem mem_upTo (j : Nat) : j ∈ upTo 63 ↔ 1 ≤ j ∧ j < 64 := by
  unfold upTo
  simp only [List.mem_map, List.mem_range]
  constructor
  · rintro ⟨a, h, rfl⟩; omega
  · intro h; exact ⟨j - 1, by omega, by omega⟩
theorem nmd_of (s : ByteArray) (k : Nat) (h1 : 9 ≤ k) (h2 : k < 64) (hn : ∀ j, 9 ≤ j → j < k → ((nameB j).toList == s.toList) = false) (hk : ((nameB k).toList == s.toList) = true) : nmd s = some k := by
  have e := upTo_succ (k - 1)
  rw [show k - 1 + 1 = k from by omega] at e
  refine nmd_hit s (upTo (k - 1)) k (by rw [← e]; exact upTo_prefix k 63 (by omega)) ?_ (by rw [hit_high s k h1 h2]; exact hk)
  intro j hj
  have hjk : 1 ≤ j ∧ j < k := by
    unfold upTo at hj
    simp only [List.mem_map, List.mem_range] at hj
    obtain ⟨a, h, rfl⟩ := hj
    omega
  by_cases h9 : j < 9
  · exact hit_low s j h9
  · rw [hit_high s j (by omega) (by omega)]
    exact hn j (by omega) hjk.2
theorem nmd_not (s : ByteArray) (hn : ∀ j, 9 ≤ j → j < 64 → ((nameB j).toList == s.toList) = false) : nmd s = none := nmd_no s fun j hj => by
  have := (mem_upTo j).1 hj
  by_cases h9 : j < 9
  · exact hit_low s j h9
  · rw [hit_high s j (by omega) (by omega)]
    exact hn j (by omega) this.2
/-- prim.Named's answer. -/
theorem named_any (G : Nat → Nat) (s : ByteArray) (w : World) (ht : Tabs w G) : Calls Tryd.prog 16 #[.string s] w fun e w' => e = .returned (.tuple #[nmdV (nmd s), .bool (nmd s).isSome]) ∧ ∃ G', Adv (fun _ => False) w G w' G' := by
  refine (callsIn_wide.1 (named_in s w ⟨ht.names, ht.takes, ht.leaves, ht.costs, rfl, rfl, rfl, rfl⟩)).mono ?_
  rintro e w' ⟨(⟨pre, k, hp, hn, hk, rfl⟩ | ⟨hn, rfl⟩), hb⟩
  · rw [nmd_hit s pre k hp hn hk]
    exact ⟨rfl, _, Adv.ofBelow G hb⟩
  · rw [nmd_no s hn]
    exact ⟨rfl, _, Adv.ofBelow G hb⟩
set_option maxRecDepth 100000 in
set_option maxHeartbeats 1000000 in
theorem refNamed_any (G : Nat → Nat) (s : ByteArray) (w : World) : Calls Tryd.prog 17 #[.string s] w fun e w' => e = .returned (.tuple #[nmdV (nmd s), .bool (nmd s).isSome]) ∧ ∃ G', Adv (fun _ => False) w G w' G' := by
  go_enter Tryd.func17, Tryd.ntmps17
  go_wp2
  go_loopw [4] (fun s4 wr => ∃ j : Nat, 9 ≤ j ∧ j ≤ 64 ∧ s4 = .int .i64 j ∧ (∀ i, 9 ≤ i → i < j → ((nameB i).toList == s.toList) = false) ∧ ∃ G1, Adv (fun _ => False) w G wr G1 ∧ wr.heap[w.heap.size]? = some (.cells primC0 25 (0, 0)) ∧ w.heap.size < wr.heap.size) (fun s4 _ => 64 - (intOf s4).toNat)
  case atStart =>
    exact ⟨9, by omega, by omega, rfl, fun i h1 h2 => absurd h2 (by omega), _, (Adv.refl _ w G).alloc _ 0, heap_alloc_new w _, by simp⟩
  case round =>
    obtain ⟨j, h9, hj, rfl, hno, G1, hA, hc, hz⟩ := hrel
    by_cases hlt : j < 64
    · have HN := Lib.hid hno
      have HA := Lib.hid hA
      have HC := Lib.hid (And.intro hc hz)
      clear hno hA hc hz
      have hj1 : decide ((j : Int) < 64) = true := by simp; omega
      go_wp2_with fail
      refine (refRow_any G1 j (by omega) hlt _).mono ?_
      rintro e w1 ⟨rfl, G2, ha⟩
      have hA1 := HA.out.trans ha
      have hc1 : w1.heap[w.heap.size]? = some (.cells primC0 25 (0, 0)) := (ha.keep w.heap.size HC.out.2 id).trans HC.out.1
      have hz1 : w.heap.size < w1.heap.size := Nat.lt_of_lt_of_le HC.out.2 ha.size
      have HA1 := Lib.hid hA1
      have HC1 := Lib.hid (And.intro hc1 hz1)
      have y0 := block_cell ((heap_past w1 (.cells (primC j) 25) _ hz1).trans hc1) 0 _ rfl
      have y1 := block_cell ((heap_past w1 (.cells (primC j) 25) _ hz1).trans hc1) 1 _ rfl
      have y2 := block_cell ((heap_past w1 (.cells (primC j) 25) _ hz1).trans hc1) 2 _ rfl
      have y3 := block_cell ((heap_past w1 (.cells (primC j) 25) _ hz1).trans hc1) 3 _ rfl
      have y4 := block_cell ((heap_past w1 (.cells (primC j) 25) _ hz1).trans hc1) 4 _ rfl
      have y5 := block_cell ((heap_past w1 (.cells (primC j) 25) _ hz1).trans hc1) 5 _ rfl
      have yf := block_free ((heap_past w1 (.cells (primC j) 25) _ hz1).trans hc1)
      clear hA1 hc1 hz1 ha
      unfold primC at y0 y1 y2 y3 y4 y5 yf
      unfold primV
      cases hq : (nameB j).toList == s.toList with
      | false =>
        have HQ := Lib.hid hq
        go_wp2
        go_roundw
        case rel =>
          refine ⟨j + 1, by omega, by omega, by go_num, ?_, _, HA1.out.alloc _ 0, (heap_past _ _ _ HC1.out.2).trans HC1.out.1, by simp; have := HC1.out.2; omega⟩
          intro i h1 h2
          by_cases e : i = j
          · subst e; exact HQ.out
          · exact HN.out i h1 (by omega)
        case measure => simp [intOf]; omega
      | true =>
        have hm := nmd_of s j h9 hlt HN.out hq
        have HM := Lib.hid hm
        clear hm
        go_wp2
        rw [HM.out]
        exact bodyPost_ret (v := .tuple #[primV j, .bool true]) (by simp [results, Tryd.results17, go_sem, primV, y0, y1, y2, y3, y4, y5]) rfl
          ⟨rfl, _, ((((((HA1.out.alloc _ 0).setNew (Nat.le_refl _) _).setNew (Nat.le_refl _) _).setNew (Nat.le_refl _) _).setNew (Nat.le_refl _) _).setNew (Nat.le_refl _) _).setNew (Nat.le_refl _) _⟩
    · have hj1 : decide ((j : Int) < 64) = false := by simp; omega
      have hj64 : j = 64 := by omega
      have hm := nmd_not s (fun i h1 h2 => hno i h1 (by omega))
      have HM := Lib.hid hm
      have HA := Lib.hid hA
      have HC := Lib.hid (And.intro hc hz)
      have y0 := block_cell hc 0 _ rfl
      have y1 := block_cell hc 1 _ rfl
      have y2 := block_cell hc 2 _ rfl
      have y3 := block_cell hc 3 _ rfl
      have y4 := block_cell hc 4 _ rfl
      have y5 := block_cell hc 5 _ rfl
      have yf := block_free hc
      clear hm hno hA hc hz
      go_wp2
      rw [HM.out]
      exact bodyPost_ret (v := .tuple #[primV0, .bool false]) (by simp [results, Tryd.results17, go_sem, primV0, y0, y1, y2, y3, y4, y5]) rfl
        ⟨rfl, _, (((((HA.out.setNew (Nat.le_refl _) _).setNew (Nat.le_refl _) _).setNew (Nat.le_refl _) _).setNew (Nat.le_refl _) _).setNew (Nat.le_refl _) _).setNew (Nat.le_refl _) _⟩
end Go.Proofs.YtdnalhjdmlkbmaaDoor
namespace Go.Proofs.YtdnalhjdmlkbmaaDoor
open Go.RowKit

theorem Tryd.stood25 : Tryd.prog.stoodInHeld 25 = false := by kernel_rfl
/-- The comparison of two rows, each written out. -/
def sameB (a b c d : Int) (s : ByteArray) (o : Bool) (a' b' c' d' : Int) (s' : ByteArray) (o' : Bool) : Bool := a == a' && (s.toList == s'.toList && (b == b' && (c == c' && (d == d' && (o == o')))))
theorem eqlPrim (a b c d : Int) (s : ByteArray) (o : Bool) (a' b' c' d' : Int) (s' : ByteArray) (o' : Bool) (w : World) :
    (Op.equalIn 10000 25 (.agg #[.int .i64 a, .string s, .int .i64 b, .int .i64 c, .int .i64 d, .bool o]) (.agg #[.int .i64 a', .string s', .int .i64 b', .int .i64 c', .int .i64 d', .bool o'])).run Tryd.prog w = .ok (sameB a b c d s o a' b' c' d' s' o') w := by
  have ht : Tryd.prog.underlying 25 = some (.struct (Tryd.prog.fieldsOf 25)) := by simp only [Program.fieldsOf, Tryd.underlying25]
  rw [show (10000 : Nat) = 9998 + 1 + 1 from rfl, run_equalIn_struct w (9998 + 1) 25 _ _ ht Tryd.stood25]
  simp only [Program.fieldsOf, Tryd.underlying25]
  unfold sameB
  cases e1 : a == a' with
  | false => simp [Op.eqFields, go_sem, e1]
  | true =>
    cases e2 : (s.toList == s'.toList) with
    | false => simp [Op.eqFields, go_sem, e1, e2]
    | true =>
      cases e3 : b == b' with
      | false => simp [Op.eqFields, go_sem, e1, e2, e3]
      | true =>
        cases e4 : c == c' with
        | false => simp [Op.eqFields, go_sem, e1, e2, e3, e4]
        | true =>
          cases e5 : d == d' with
          | false => simp [Op.eqFields, go_sem, e1, e2, e3, e4, e5]
          | true => simp [Op.eqFields, go_sem, e1, e2, e3, e4, e5]; cases o <;> cases o' <;> rfl
theorem sameB_refl (a b c d : Int) (s : ByteArray) (o : Bool) : sameB a b c d s o a b c d s o = true := by simp [sameB]
/-- same of a row and itself. -/
theorem same_any (G : Nat → Nat) (a b c d : Int) (s : ByteArray) (o : Bool) (w : World) :
    Calls Tryd.prog 13 #[.agg #[.int .i64 a, .string s, .int .i64 b, .int .i64 c, .int .i64 d, .bool o], .agg #[.int .i64 a, .string s, .int .i64 b, .int .i64 c, .int .i64 d, .bool o]] w fun r w' => r = .returned (.bool true) ∧ ∃ G', Adv (fun _ => False) w G w' G' := by
  have hE := eqlPrim
  have hT := sameB_refl
  go_enter Tryd.func13, Tryd.ntmps13
  go_wp2
  go_ret
  exact ⟨rfl, _, ((Adv.refl _ w G).alloc _ 0).alloc _ 0⟩
end Go.Proofs.YtdnalhjdmlkbmaaDoor
namespace Go.Proofs.YtdnalhjdmlkbmaaDoor
open Go.RowKit

/-- What does hands back, for a shuffle. -/
theorem shuf_is (k n : Nat) (ps : List Nat) (h : ∀ (G : Nat → Nat) (w : World), Calls Tryd.prog 79 #[.int .i64 k] w fun e w' => ∃ c G', e = .returned (.func (.func 104) #[] c) ∧ Adv (fun _ => False) w G w' G' ∧ ShufCl n ps w' G' c) : DoesIs k 104 (ShufCl n ps) := h
theorem shuf_keeps (n : Nat) (ps : List Nat) : Keeps (ShufCl n ps) := fun _ _ _ _ _ _ h ha hs => h.adv ha hs
/-- Do of a shuffle, where there is room. -/
theorem do_shuffle (G : Nat → Nat) (k : Nat) (hk : k < 64) (hpl : plainB k = true) (n : Nat) (ps : List Nat) (hd : DoesIs k 104 (ShufCl n ps)) (hps : ∀ p ∈ ps, p < n) (h0 : 0 < n) (h4 : n ≤ 100)
    (i j D R : Nat) (M : Addr) (base t : List Int) (rl : List (Int × Int)) (hn : t.length = n) (hi : i ≠ 0) (hj : j ≠ 0) (hl : (base ++ t).length ≤ 256) (hroom : base.length + ps.length ≤ 256) (hrl : rl.length ≤ 128)
    (hneed : needF (base ++ t).length (takesN k) (leavesN k) = 0) (hlooks : looksF k rl = 0) (hadds : (rl.length : Int) + addsF k ≤ 128) (w : World) (ht : Tabs w G) (hp : PU w G i D (base ++ t)) (hr : PR w G j R rl) :
    Calls Tryd.prog 21 #[.int .i64 k, .pointer (some ⟨D, 0, none⟩), .pointer (some ⟨R, 0, none⟩), .pointer (some M)] w fun e w' => e = .returned (.int .i64 0) ∧ ∃ G', Adv (fun o => o = i) w G w' G' ∧ PU w' G' i D (base ++ picks t ps) := by
  refine do_ok G k hk hpl 104 (enters_of Tryd.func104 (by kernel_rfl) rfl) (ShufCl n ps) hd (shuf_keeps n ps) i j D R M (base ++ t) rl hi hj (fun o => o = i) (fun w' G' => PU w' G' i D (base ++ picks t ps)) hl hrl hneed hlooks hadds w ht hp hr ?_
  intro w1 G1 K c ha hc hk1
  obtain ⟨B1, B2, la, lc, hcs, hB1, hG1, hB2, hG2, hla, hGl⟩ := hc
  subst hcs
  exact shuffle_any G1 i D K R (some M) base t n hn h0 h4 ps hps hroom hi B1 B2 la lc w1 (hp.adv ha id) hk1 hB1 hG1 hB2 hG2 hla hGl
theorem prim24 : primV (24 : Nat) = .agg #[.int .i64 24, .string ⟨#[47]⟩, .int .i64 2, .int .i64 1, .int .i64 4, .bool false] := by kernel_rfl
theorem prim19 : primV (19 : Nat) = .agg #[.int .i64 19, .string ⟨#[50, 100, 117, 112]⟩, .int .i64 2, .int .i64 4, .int .i64 2, .bool false] := by kernel_rfl
theorem nmd_2dup : nmd ⟨#[50, 100, 117, 112]⟩ = some 19 := by kernel_rfl
theorem do_rot (G : Nat → Nat) (i j D R M : Nat) (hi : i ≠ 0) (hj : j ≠ 0) (w : World) (ht : Tabs w G) (hp : PU w G i D [1, 2, 3]) (hr : PR w G j R []) :
    Calls Tryd.prog 21 #[.int .i64 16, .pointer (some ⟨D, 0, none⟩), .pointer (some ⟨R, 0, none⟩), .pointer (some ⟨M, 0, none⟩)] w fun e w' => e = .returned (.int .i64 0) ∧ ∃ G', Adv (fun o => o = i) w G w' G' ∧ PU w' G' i D [2, 3, 1] :=
  do_shuffle G 16 (by decide) (by decide) 3 [1, 2, 0] (shuf_is 16 3 [1, 2, 0] does_16) (by decide) (by decide) (by decide) i j D R ⟨M, 0, none⟩ [] [1, 2, 3] [] rfl hi hj (by decide) (by decide) (by decide) (by decide) (by decide) (by decide) w ht hp hr
set_option maxRecDepth 100000 in
set_option maxHeartbeats 1000000 in
theorem fixed_any (G : Nat → Nat) (w : World) (ht : Tabs w (fun _ => 0)) : Calls Tryd.prog 10 #[] w fun e w' => e = .returned (.bool true) ∧ ∃ G', Adv (fun _ => False) w G w' G' := by
  have HT := Lib.hid ht
  clear ht
  go_enter Tryd.func10, Tryd.ntmps10
  go_wp2_with fail
  refine (of_in (fun _ => 0) 24 (by decide) (by decide) _ HT.out).mono ?_
  rintro e w1 ⟨rfl, G1, ha1⟩
  rw [prim24]
  have HA1 := Lib.hid (ha1.alloc (.cells #[.int .i64 24, .string ⟨#[47]⟩, .int .i64 2, .int .i64 1, .int .i64 4, .bool false] 25) 0)
  have HB1 := Lib.hid (And.intro (heap_alloc_new w1 (.cells #[.int .i64 24, .string ⟨#[47]⟩, .int .i64 2, .int .i64 1, .int .i64 4, .bool false] 25)) (And.intro (show w1.heap.size < (w1.alloc (.cells #[.int .i64 24, .string ⟨#[47]⟩, .int .i64 2, .int .i64 1, .int .i64 4, .bool false] 25)).heap.size from by simp) (show own1 w1 G1 0 w1.heap.size = 0 from by simp [own1])))
  clear ha1
  go_wp2_with fail
  refine (of_out (own1 w1 G1 0) 64 (.inr (by decide)) _).mono ?_
  rintro e w2 ⟨rfl, G2, ha2⟩
  have HA2 := Lib.hid ((HA1.out.trans ha2).alloc (.cells #[.int .i64 0, .string ⟨#[]⟩, .int .i64 0, .int .i64 0, .int .i64 0, .bool false] 25) 0)
  have HK2 := Lib.hid (ha2.alloc (.cells #[.int .i64 0, .string ⟨#[]⟩, .int .i64 0, .int .i64 0, .int .i64 0, .bool false] 25) 0)
  have HT2 := Lib.hid (HT.out.adv HA2.out id)
  clear ha2
  unfold primV0
  go_wp2_with fail
  refine (named_any (own1 w2 G2 0) ⟨#[50, 100, 117, 112]⟩ _ HT2.out).mono ?_
  rintro e w3 ⟨rfl, G3, ha3⟩
  rw [nmd_2dup]
  simp only [nmdV, prim19, Option.isSome_some]
  have HA3 := Lib.hid ((HA2.out.trans ha3).alloc (.cells #[.int .i64 19, .string ⟨#[50, 100, 117, 112]⟩, .int .i64 2, .int .i64 4, .int .i64 2, .bool false] 25) 0 |>.alloc (.cells #[.int .u16 1, .int .u16 2, .int .u16 3] 41) 0)
  have HK3 := Lib.hid ((HK2.out.trans ha3).alloc (.cells #[.int .i64 19, .string ⟨#[50, 100, 117, 112]⟩, .int .i64 2, .int .i64 4, .int .i64 2, .bool false] 25) 0 |>.alloc (.cells #[.int .u16 1, .int .u16 2, .int .u16 3] 41) 0)
  have HX3 := Lib.hid (Reads.new (w3.alloc (.cells #[.int .i64 19, .string ⟨#[50, 100, 117, 112]⟩, .int .i64 2, .int .i64 4, .int .i64 2, .bool false] 25)) (cellsU [1, 2, 3]) 41)
  have hx3 := HX3.out
  rw [show (w3.alloc (.cells #[.int .i64 19, .string ⟨#[50, 100, 117, 112]⟩, .int .i64 2, .int .i64 4, .int .i64 2, .bool false] 25)).heap.size = w3.heap.size + 1 from by simp] at hx3
  have HY3 := Lib.hid hx3
  have hb3 : ((w3.alloc (.cells #[.int .i64 19, .string ⟨#[50, 100, 117, 112]⟩, .int .i64 2, .int .i64 4, .int .i64 2, .bool false] 25)).alloc (.cells #[.int .u16 1, .int .u16 2, .int .u16 3] 41)).heap[w3.heap.size]? = some (.cells #[.int .i64 19, .string ⟨#[50, 100, 117, 112]⟩, .int .i64 2, .int .i64 4, .int .i64 2, .bool false] 25 (0, 0)) := (heap_past _ _ _ (by simp)).trans (heap_alloc_new w3 _)
  have HB3 := Lib.hid (And.intro hb3 (And.intro (show w3.heap.size < ((w3.alloc (.cells #[.int .i64 19, .string ⟨#[50, 100, 117, 112]⟩, .int .i64 2, .int .i64 4, .int .i64 2, .bool false] 25)).alloc (.cells #[.int .u16 1, .int .u16 2, .int .u16 3] 41)).heap.size from by simp; omega) (show own1 (w3.alloc (.cells #[.int .i64 19, .string ⟨#[50, 100, 117, 112]⟩, .int .i64 2, .int .i64 4, .int .i64 2, .bool false] 25)) (own1 w3 G3 0) 0 w3.heap.size = 0 from by simp [own1])))
  clear ha3 hx3 hb3 HX3
  go_wp2_with fail
  refine (born0 (own1 (w3.alloc (.cells #[.int .i64 19, .string ⟨#[50, 100, 117, 112]⟩, .int .i64 2, .int .i64 4, .int .i64 2, .bool false] 25)) (own1 w3 G3 0) 0) _ 3 3 [1, 2, 3] _ rfl (by decide) HY3.out (by decide) (by decide)).mono ?_
  rintro e w4 ⟨K, D, R, M, G4, rfl, ha4, ⟨x, y, z, hk, hgk⟩, hp4, hr4, -⟩
  have HA4 := Lib.hid (HA3.out.trans ha4)
  have HP4 := Lib.hid hp4
  have HR4 := Lib.hid hr4
  have hc1 := ((HK3.out.trans ha4).keep _ HB1.out.2.1 id).trans HB1.out.1
  have hc3 := (ha4.keep _ HB3.out.2.1 id).trans HB3.out.1
  have hg1 : G4 w1.heap.size = 0 := ((HK3.out.trans ha4).own _ HB1.out.2.1).trans HB1.out.2.2
  have hg3 : G4 w3.heap.size = 0 := (ha4.own _ HB3.out.2.1).trans HB3.out.2.2
  have HC4 := Lib.hid (And.intro hc1 (And.intro hc3 (And.intro hg1 hg3)))
  have HT4 := Lib.hid (HT.out.adv HA4.out id)
  have cD := block_cell hk 0 _ rfl
  have cR := block_cell hk 1 _ rfl
  have cM := block_cell hk 2 _ rfl
  have HW4 := Lib.hid (And.intro hk hgk)
  clear ha4 hk hgk hc1 hc3 hg1 hg3
  have HTd := Lib.hid (HT4.out.adv ((Adv.refl (fun _ => False) w4 G4).drew) id)
  have HPd := Lib.hid hp4.drew
  have HRd := Lib.hid hr4.drew
  clear hp4 hr4
  go_upto_region 7 with fail
  go_region_held3 (fun w' => w'.cell? ⟨K, 0, none⟩ = some (.pointer (some ⟨D, 0, none⟩)) ∧ w'.cell? ⟨K, 1, none⟩ = some (.pointer (some ⟨R, 0, none⟩)) ∧ w'.cell? ⟨K, 2, none⟩ = some (.pointer (some ⟨M, 0, none⟩))) (first | exact ⟨cD, cR, cM⟩ | exact KD5.out)
    ((go_at_call 21; refine (do_rot G4 1 2 D R M (by decide) (by decide) _ HTd.out HPd.out HRd.out).mono ?_; rintro e w5 ⟨rfl, G5, ha5, hp5⟩; have HA5 := Lib.hid ha5; have HP5 := Lib.hid hp5; have KD5 := Lib.hid (And.intro (ha5.cell_some (p := ⟨K, 0, none⟩) cD (by show ¬ (G4 K = 1); rw [HW4.out.2]; decide)) (And.intro (ha5.cell_some (p := ⟨K, 1, none⟩) cR (by show ¬ (G4 K = 1); rw [HW4.out.2]; decide)) (ha5.cell_some (p := ⟨K, 2, none⟩) cM (by show ¬ (G4 K = 1); rw [HW4.out.2]; decide)))); clear ha5 hp5))
  obtain ⟨cD5, -, -⟩ := KD5.out
  have hc1 := (HA5.out.keep (b := w1.heap.size) ?lt1 (by show ¬ (G4 _ = 1); rw [HC4.out.2.2.1]; decide)).trans (show w4.drew.heap[w1.heap.size]? = _ from HC4.out.1)
  have hc3 := (HA5.out.keep (b := w3.heap.size) ?lt3 (by show ¬ (G4 _ = 1); rw [HC4.out.2.2.2]; decide)).trans (show w4.drew.heap[w3.heap.size]? = _ from HC4.out.2.1)
  case lt1 => exact (Array.getElem?_eq_some_iff.1 HC4.out.1).1
  case lt3 => exact (Array.getElem?_eq_some_iff.1 HC4.out.2.1).1
  have HC5 := Lib.hid (And.intro hc1 hc3)
  clear hc1 hc3
  go_wp2_with fail
  refine (cellsPU G5 1 D [2, 3, 1] _ HP5.out (by simp) (by simp)).mono ?_
  rintro e w6 ⟨rfl, h6⟩
  have d1 := (heap_past w5 (.cells (cellsU [2, 3, 1]).toArray 41) _ (Array.getElem?_eq_some_iff.1 HC5.out.1).1).trans HC5.out.1
  have d3 := (heap_past w5 (.cells (cellsU [2, 3, 1]).toArray 41) _ (Array.getElem?_eq_some_iff.1 HC5.out.2).1).trans HC5.out.2
  have hr6 := Reads.new w5 (cellsU [2, 3, 1]) 41
  have ha6 := HA5.out.alloc (.cells (cellsU [2, 3, 1]).toArray 41) 0
  rw [← h6] at d1 d3 hr6 ha6
  obtain ⟨B6, hB6⟩ : ∃ b, b = w5.heap.size := ⟨_, rfl⟩
  rw [← hB6] at hr6 ⊢
  obtain ⟨G6, hG6⟩ : ∃ g, g = own1 w5 G5 0 := ⟨_, rfl⟩
  rw [← hG6] at ha6
  clear h6 hB6 hG6
  have HR6 := Lib.hid hr6
  have HA6 := Lib.hid ha6
  have hk6 : ∀ (w' : World) (G' : Nat → Nat), Adv (fun _ => False) w6 G6 w' G' → w'.heap[w1.heap.size]? = _ ∧ w'.heap[w3.heap.size]? = _ := fun w' G' h =>
    ⟨(h.keep _ (Array.getElem?_eq_some_iff.1 d1).1 id).trans d1, (h.keep _ (Array.getElem?_eq_some_iff.1 d3).1 id).trans d3⟩
  have hK6 : ∀ (w' : World) (G' : Nat → Nat), Adv (fun _ => False) w6 G6 w' G' →
      (w'.cell? ⟨w1.heap.size, 0, none⟩ = some (.int .i64 24) ∧ w'.cell? ⟨w1.heap.size, 1, none⟩ = some (.string ⟨#[47]⟩) ∧ w'.cell? ⟨w1.heap.size, 2, none⟩ = some (.int .i64 2) ∧ w'.cell? ⟨w1.heap.size, 3, none⟩ = some (.int .i64 1) ∧ w'.cell? ⟨w1.heap.size, 4, none⟩ = some (.int .i64 4) ∧ w'.cell? ⟨w1.heap.size, 5, none⟩ = some (.bool false)) ∧
      (w'.cell? ⟨w3.heap.size, 0, none⟩ = some (.int .i64 19) ∧ w'.cell? ⟨w3.heap.size, 1, none⟩ = some (.string ⟨#[50, 100, 117, 112]⟩) ∧ w'.cell? ⟨w3.heap.size, 2, none⟩ = some (.int .i64 2) ∧ w'.cell? ⟨w3.heap.size, 3, none⟩ = some (.int .i64 4) ∧ w'.cell? ⟨w3.heap.size, 4, none⟩ = some (.int .i64 2) ∧ w'.cell? ⟨w3.heap.size, 5, none⟩ = some (.bool false)) := fun w' G' h =>
    have a := (hk6 w' G' h).1
    have b := (hk6 w' G' h).2
    ⟨⟨block_cell a 0 _ rfl, block_cell a 1 _ rfl, block_cell a 2 _ rfl, block_cell a 3 _ rfl, block_cell a 4 _ rfl, block_cell a 5 _ rfl⟩, ⟨block_cell b 0 _ rfl, block_cell b 1 _ rfl, block_cell b 2 _ rfl, block_cell b 3 _ rfl, block_cell b 4 _ rfl, block_cell b 5 _ rfl⟩⟩
  have HK6 := Lib.hid hK6
  clear d1 d3 hr6 ha6 hk6 hK6
  rw [show ([2, 3, 1] : List Int).length = 3 from rfl]
  obtain ⟨⟨e0, e1, e2, e3, e4, e5⟩, ⟨f0, f1, f2, f3, f4, f5⟩⟩ := HK6.out _ _ (Adv.refl _ w6 G6)
  go_wp2_with fail
  refine (same_any G6 _ _ _ _ _ _ _).mono ?_
  rintro e ws1 ⟨rfl, Gs1, has1⟩
  have HS1 := Lib.hid has1
  clear has1 e0 e1 e2 e3 e4 e5 f0 f1 f2 f3 f4 f5
  obtain ⟨⟨g0, g1, g2, g3, g4, g5⟩, ⟨k0, k1, k2, k3, k4, k5⟩⟩ := HK6.out _ _ HS1.out
  go_wp2_with fail
  refine (same_any Gs1 _ _ _ _ _ _ _).mono ?_
  rintro e ws2 ⟨rfl, Gs2, has2⟩
  have HS2 := Lib.hid (HS1.out.trans has2)
  clear has2 g0 g1 g2 g3 g4 g5 k0 k1 k2 k3 k4 k5
  go_wp2_with fail
  refine (sameU_any _ _ 3 3 3 3 [2, 3, 1] [2, 3, 1] _ rfl rfl (by decide) (by decide) ((HR6.out.adv HS2.out (fun _ _ => id)).alloc _) (Reads.new ws2 (cellsU [2, 3, 1]) 41)).mono ?_
  rintro e wd ⟨rfl, q, rfl⟩
  rw [show decide ([(2 : Int), 3, 1] = [2, 3, 1]) = true from by decide]
  have HF := Lib.hid ((HA6.out.trans (HS2.out.mono (T := fun o => o = 1) fun _ h => h.elim)).alloc (.cells #[.int .u16 2, .int .u16 3, .int .u16 1] 41) 0 |>.drewN q)
  obtain ⟨wf, hwf⟩ : ∃ wf, wf = (ws2.alloc (.cells (cellsU [2, 3, 1]).toArray 41)).drewN q := ⟨_, rfl⟩
  rw [← hwf]
  have hF := HF.out
  rw [show (ws2.alloc (.cells #[.int .u16 2, .int .u16 3, .int .u16 1] 41)).drewN q = wf from hwf.symm] at hF
  have HFF := Lib.hid hF
  clear hF HF hwf HR6 HS2 HS1 HK6 HA6
  go_wp2_with fail
  refine (plain_any 16 _).mono ?_
  rintro e wd ⟨rfl, rfl⟩
  rw [show plainB 16 = true from by decide]
  go_wp2_with fail
  refine (plain_any 3 _).mono ?_
  rintro e wd ⟨rfl, rfl⟩
  rw [show plainB 3 = false from by decide]
  go_wp2_with fail
  go_ret
  exact ⟨rfl, _, joined_adv (S := fun o => o = 1) (G := G) (((HA4.out.drew).mono fun _ h => h.elim).trans HFF.out) (by decide)⟩
end Go.Proofs.YtdnalhjdmlkbmaaDoor
namespace Go.Proofs.YtdnalhjdmlkbmaaDoor
open Go.RowKit
set_option linter.unusedVariables false

theorem Desk.dm {w : World} {G : Nat → Nat} {K D R : Nat} {M : Option Addr} (h : Desk w G K D R M) : w.cell? ⟨K, 0, none⟩ = some (.pointer (some ⟨D, 0, none⟩)) ∧ w.cell? ⟨K, 2, none⟩ = some (.pointer M) := ⟨h.d, h.m⟩
theorem Desk.dr {w : World} {G : Nat → Nat} {K D R : Nat} {M : Option Addr} (h : Desk w G K D R M) : w.cell? ⟨K, 0, none⟩ = some (.pointer (some ⟨D, 0, none⟩)) ∧ w.cell? ⟨K, 1, none⟩ = some (.pointer (some ⟨R, 0, none⟩)) := ⟨h.d, h.r⟩
theorem Desk.drew {w : World} {G : Nat → Nat} {K D R : Nat} {M : Option Addr} (h : Desk w G K D R M) : Desk w.drew G K D R M := h
section
variable {w : World} {G : Nat → Nat} {i j q K D R M : Nat} {b : List Int} {r : List (Int × Int)} {m : MemS}

set_option maxRecDepth 100000 in
set_option maxHeartbeats 1000000 in
theorem doFetch_act (a : Int) (o : Own3 i j q) (hm : MemOk m) (ha1 : 0 ≤ a) (hb1 : a < 65536) (hroom : b.length + 1 ≤ 256) (h : Trio w G i j q D R M (b ++ [a]) r m) (hk : Desk w G K D R (some ⟨M, 0, none⟩)) :
    Calls Tryd.prog 107 #[.pointer (some ⟨K, 0, none⟩)] w (Left3 i j q D R M w G (b ++ [cellF m a]) r m (.tuple #[])) := by
  have HT := Lib.hid h
  have HD := Lib.hid h.drew
  have HK := Lib.hid hk
  have c0 := hk.d
  have c1 := hk.r
  have c2 := hk.m
  clear h hk
  go_enter Tryd.func107, Tryd.ntmps107
  go_region_held3 (fun w' => w'.cell? ⟨K, 0, none⟩ = some (.pointer (some ⟨D, 0, none⟩)) ∧ w'.cell? ⟨K, 2, none⟩ = some (.pointer (some ⟨M, 0, none⟩))) (first | exact ⟨c0, c2⟩ | exact K1.out | exact K2.out | exact (HK.out.adv (A2.out.alloc _ 0) o.zero).dm | exact K3.out)
    (first | (go_at_call 24; refine (HD.out.pop o).mono ?_; rintro e w1 ⟨rfl, G1, ha1, t1⟩; have A1 := Lib.hid ((Adv.refl (S3 i j q) w G).drew.trans ha1); have T1 := Lib.hid t1; have K1 := Lib.hid ((HK.out.adv A1.out o.zero).dm); clear ha1 t1) | (go_at_call 121; refine (T1.out.cell hm a ha1 hb1).mono ?_; rintro e w2 ⟨rfl, G2, ha2, t2⟩; have A2 := Lib.hid (A1.out.trans ha2); have T2 := Lib.hid t2; have K2 := Lib.hid ((HK.out.adv A2.out o.zero).dm); clear ha2 t2) | (go_at_call 30; refine ((T2.out.alloc (.cells #[.int .u16 (cellF m a)] 41) 0).push o (l := [cellF m a]) _ 1 1 rfl hroom (Reads.new w2 (cellsU [cellF m a]) 41)).mono ?_; rintro e w3 ⟨rfl, G3, ha3, t3⟩; have A3 := Lib.hid ((A2.out.alloc (.cells #[.int .u16 (cellF m a)] 41) 0).trans ha3); have T3 := Lib.hid t3; have K3 := Lib.hid ((HK.out.adv A3.out o.zero).dm); clear ha3 t3))
  go_wp2_with fail
  go_end0
  exact ⟨rfl, G3, A3.out, T3.out⟩
set_option maxRecDepth 100000 in
set_option maxHeartbeats 1000000 in
theorem doByte_act (a : Int) (o : Own3 i j q) (hm : MemOk m) (hR : MemR m) (ha1 : 0 ≤ a) (hb1 : a < 65536) (hroom : b.length + 1 ≤ 256) (h : Trio w G i j q D R M (b ++ [a]) r m) (hk : Desk w G K D R (some ⟨M, 0, none⟩)) :
    Calls Tryd.prog 109 #[.pointer (some ⟨K, 0, none⟩)] w (Left3 i j q D R M w G (b ++ [loadF m a]) r m (.tuple #[])) := by
  have HT := Lib.hid h
  have HD := Lib.hid h.drew
  have HK := Lib.hid hk
  have c0 := hk.d
  have c1 := hk.r
  have c2 := hk.m
  clear h hk
  go_enter Tryd.func109, Tryd.ntmps109
  have hv := wrap_u16_id (loadF m a) (loadF_rng hR a).1 (by have := (loadF_rng hR a).2; omega)
  have HV := Lib.hid hv
  clear hv
  go_region_held3 (fun w' => w'.cell? ⟨K, 0, none⟩ = some (.pointer (some ⟨D, 0, none⟩)) ∧ w'.cell? ⟨K, 2, none⟩ = some (.pointer (some ⟨M, 0, none⟩))) (first | exact ⟨c0, c2⟩ | exact K1.out | exact K2.out | exact (HK.out.adv (A2.out.alloc _ 0) o.zero).dm | exact K3.out)
    (first | (go_at_call 24; refine (HD.out.pop o).mono ?_; rintro e w1 ⟨rfl, G1, ha1, t1⟩; have A1 := Lib.hid ((Adv.refl (S3 i j q) w G).drew.trans ha1); have T1 := Lib.hid t1; have K1 := Lib.hid ((HK.out.adv A1.out o.zero).dm); clear ha1 t1) | (go_at_call 123; refine (T1.out.load hm a ha1 hb1).mono ?_; rintro e w2 ⟨rfl, G2, ha2, t2⟩; have A2 := Lib.hid (A1.out.trans ha2); have T2 := Lib.hid t2; have K2 := Lib.hid ((HK.out.adv A2.out o.zero).dm); clear ha2 t2) | (go_at_call 30; rw [HV.out]; refine ((T2.out.alloc (.cells #[.int .u16 (loadF m a)] 41) 0).push o (l := [loadF m a]) _ 1 1 rfl hroom (Reads.new w2 (cellsU [loadF m a]) 41)).mono ?_; rintro e w3 ⟨rfl, G3, ha3, t3⟩; have A3 := Lib.hid ((A2.out.alloc (.cells #[.int .u16 (loadF m a)] 41) 0).trans ha3); have T3 := Lib.hid t3; have K3 := Lib.hid ((HK.out.adv A3.out o.zero).dm); clear ha3 t3))
  go_wp2_with fail
  go_end0
  exact ⟨rfl, G3, A3.out, T3.out⟩
set_option maxRecDepth 100000 in
set_option maxHeartbeats 1000000 in
theorem doPad_act (o : Own3 i j q) (hm : MemOk m) (hR : MemR m) (hroom : b.length + 1 ≤ 256) (h : Trio w G i j q D R M b r m) (hk : Desk w G K D R (some ⟨M, 0, none⟩)) :
    Calls Tryd.prog 118 #[.pointer (some ⟨K, 0, none⟩)] w (Left3 i j q D R M w G (b ++ [m.pad]) r m (.tuple #[])) := by
  have HT := Lib.hid h
  have HD := Lib.hid h.drew
  have HK := Lib.hid hk
  have c0 := hk.d
  have c1 := hk.r
  have c2 := hk.m
  clear h hk
  go_enter Tryd.func118, Tryd.ntmps118
  have hv := wrap_u16_id m.pad hR.pad.1 (by have := hR.pad.2; omega)
  have HV := Lib.hid hv
  clear hv
  go_region_held3 (fun w' => w'.cell? ⟨K, 0, none⟩ = some (.pointer (some ⟨D, 0, none⟩)) ∧ w'.cell? ⟨K, 2, none⟩ = some (.pointer (some ⟨M, 0, none⟩))) (first | exact ⟨c0, c2⟩ | exact K1.out | exact (HK.out.adv (A1.out.alloc _ 0) o.zero).dm | exact K2.out)
    (first | (go_at_call 127; refine (HD.out.pad hm).mono ?_; rintro e w1 ⟨rfl, G1, ha1, t1⟩; have A1 := Lib.hid ((Adv.refl (S3 i j q) w G).drew.trans ha1); have T1 := Lib.hid t1; have K1 := Lib.hid ((HK.out.adv A1.out o.zero).dm); clear ha1 t1) | (go_at_call 30; rw [HV.out]; refine ((T1.out.alloc (.cells #[.int .u16 m.pad] 41) 0).push o (l := [m.pad]) _ 1 1 rfl hroom (Reads.new w1 (cellsU [m.pad]) 41)).mono ?_; rintro e w2 ⟨rfl, G2, ha2, t2⟩; have A2 := Lib.hid ((A1.out.alloc (.cells #[.int .u16 m.pad] 41) 0).trans ha2); have T2 := Lib.hid t2; have K2 := Lib.hid ((HK.out.adv A2.out o.zero).dm); clear ha2 t2))
  go_wp2_with fail
  go_end0
  exact ⟨rfl, G2, A2.out, T2.out⟩
set_option maxRecDepth 100000 in
set_option maxHeartbeats 1000000 in
theorem doStore_act (x a : Int) (o : Own3 i j q) (hm : MemOk m) (hn : m.tones.length ≤ 99999) (ha1 : 0 ≤ a) (hb1 : a < 65536) (h : Trio w G i j q D R M (b ++ [x, a]) r m) (hk : Desk w G K D R (some ⟨M, 0, none⟩)) :
    Calls Tryd.prog 108 #[.pointer (some ⟨K, 0, none⟩)] w (Left3 i j q D R M w G b r (setCellF m a x) (.tuple #[])) := by
  have HT := Lib.hid h
  have HD := Lib.hid h.drew
  have HK := Lib.hid hk
  have c0 := hk.d
  have c1 := hk.r
  have c2 := hk.m
  clear h hk
  go_enter Tryd.func108, Tryd.ntmps108
  rw [show b ++ [x, a] = (b ++ [x]) ++ [a] from by simp] at HT
  go_wp2_with fail
  refine (HT.out.pop o).mono ?_
  rintro e w1 ⟨rfl, G1, ha1, t1⟩; have A1 := Lib.hid ((Adv.refl (S3 i j q) w G).trans ha1); have T1 := Lib.hid t1; have K1 := Lib.hid ((HK.out.adv A1.out o.zero).dm); clear ha1 t1
  obtain ⟨d0, d2⟩ := K1.out
  have D1 := Lib.hid T1.out.drew
  go_upto_region 1 with fail
  go_region_held3 (fun w' => w'.cell? ⟨K, 0, none⟩ = some (.pointer (some ⟨D, 0, none⟩)) ∧ w'.cell? ⟨K, 2, none⟩ = some (.pointer (some ⟨M, 0, none⟩))) (first | exact ⟨d0, d2⟩ | exact K2.out | exact K3.out)
    (first | (go_at_call 24; refine (D1.out.pop o).mono ?_; rintro e w2 ⟨rfl, G2, ha2, t2⟩; have A2 := Lib.hid (A1.out.drew.trans ha2); have T2 := Lib.hid t2; have K2 := Lib.hid ((HK.out.adv A2.out o.zero).dm); clear ha2 t2) | (go_at_call 122; refine (T2.out.setCell o hm hn a ha1 hb1 x).mono ?_; rintro e w3 ⟨rfl, G3, ha3, t3⟩; have A3 := Lib.hid (A2.out.trans ha3); have T3 := Lib.hid t3; have K3 := Lib.hid ((HK.out.adv A3.out o.zero).dm); clear ha3 t3))
  go_wp2_with fail
  go_end0
  exact ⟨rfl, G3, A3.out, T3.out⟩
set_option maxRecDepth 100000 in
set_option maxHeartbeats 1000000 in
theorem doPut_act (x a : Int) (o : Own3 i j q) (hm : MemOk m) (hn : m.tones.length ≤ 99999) (ha1 : 0 ≤ a) (hb1 : a < 65536) (hx0 : 0 ≤ x) (hx1 : x < 65536) (h : Trio w G i j q D R M (b ++ [x, a]) r m) (hk : Desk w G K D R (some ⟨M, 0, none⟩)) :
    Calls Tryd.prog 110 #[.pointer (some ⟨K, 0, none⟩)] w (Left3 i j q D R M w G b r (storeF m a (x % 256)) (.tuple #[])) := by
  have HT := Lib.hid h
  have HD := Lib.hid h.drew
  have HK := Lib.hid hk
  have c0 := hk.d
  have c1 := hk.r
  have c2 := hk.m
  clear h hk
  go_enter Tryd.func110, Tryd.ntmps110
  rw [show b ++ [x, a] = (b ++ [x]) ++ [a] from by simp] at HT
  have HV := Lib.hid (and255 x hx0 hx1)
  go_wp2_with fail
  refine (HT.out.pop o).mono ?_
  rintro e w1 ⟨rfl, G1, ha1, t1⟩; have A1 := Lib.hid ((Adv.refl (S3 i j q) w G).trans ha1); have T1 := Lib.hid t1; have K1 := Lib.hid ((HK.out.adv A1.out o.zero).dm); clear ha1 t1
  obtain ⟨d0, d2⟩ := K1.out
  have D1 := Lib.hid T1.out.drew
  go_upto_region 1 with fail
  go_region_held3 (fun w' => w'.cell? ⟨K, 0, none⟩ = some (.pointer (some ⟨D, 0, none⟩)) ∧ w'.cell? ⟨K, 2, none⟩ = some (.pointer (some ⟨M, 0, none⟩))) (first | exact ⟨d0, d2⟩ | exact K2.out | exact K3.out)
    (first | (go_at_call 24; refine (D1.out.pop o).mono ?_; rintro e w2 ⟨rfl, G2, ha2, t2⟩; have A2 := Lib.hid (A1.out.drew.trans ha2); have T2 := Lib.hid t2; have K2 := Lib.hid ((HK.out.adv A2.out o.zero).dm); clear ha2 t2) | (go_at_call 124; rw [HV.out]; refine (T2.out.store o hm hn a ha1 hb1 (x % 256)).mono ?_; rintro e w3 ⟨rfl, G3, ha3, t3⟩; have A3 := Lib.hid (A2.out.trans ha3); have T3 := Lib.hid t3; have K3 := Lib.hid ((HK.out.adv A3.out o.zero).dm); clear ha3 t3))
  go_wp2_with fail
  go_end0
  exact ⟨rfl, G3, A3.out, T3.out⟩
set_option maxRecDepth 100000 in
set_option maxHeartbeats 1000000 in
theorem doMore_act (x a : Int) (o : Own3 i j q) (hm : MemOk m) (hn : m.tones.length ≤ 99999) (ha1 : 0 ≤ a) (hb1 : a < 65536) (h : Trio w G i j q D R M (b ++ [x, a]) r m) (hk : Desk w G K D R (some ⟨M, 0, none⟩)) :
    Calls Tryd.prog 111 #[.pointer (some ⟨K, 0, none⟩)] w (Left3 i j q D R M w G b r (setCellF m a ((cellF m a + x) % 65536)) (.tuple #[])) := by
  have HT := Lib.hid h
  have HD := Lib.hid h.drew
  have HK := Lib.hid hk
  have c0 := hk.d
  have c1 := hk.r
  have c2 := hk.m
  clear h hk
  go_enter Tryd.func111, Tryd.ntmps111
  rw [show b ++ [x, a] = (b ++ [x]) ++ [a] from by simp] at HT
  have HV := Lib.hid (wrap_u16_mod (cellF m a + x))
  go_wp2_with fail
  refine (HT.out.pop o).mono ?_
  rintro e w1 ⟨rfl, G1, ha1, t1⟩; have A1 := Lib.hid ((Adv.refl (S3 i j q) w G).trans ha1); have T1 := Lib.hid t1; have K1 := Lib.hid ((HK.out.adv A1.out o.zero).dm); clear ha1 t1
  obtain ⟨d0, d2⟩ := K1.out
  have D1 := Lib.hid T1.out.drew
  go_upto_region 1 with fail
  go_region_held3 (fun w' => w'.cell? ⟨K, 0, none⟩ = some (.pointer (some ⟨D, 0, none⟩)) ∧ w'.cell? ⟨K, 2, none⟩ = some (.pointer (some ⟨M, 0, none⟩))) (first | exact ⟨d0, d2⟩ | exact K2.out | exact K3.out | exact K4.out)
    (first | (go_at_call 121; refine (D1.out.cell hm a ha1 hb1).mono ?_; rintro e w2 ⟨rfl, G2, ha2, t2⟩; have A2 := Lib.hid (A1.out.drew.trans ha2); have T2 := Lib.hid t2; have K2 := Lib.hid ((HK.out.adv A2.out o.zero).dm); clear ha2 t2) | (go_at_call 24; refine (T2.out.pop o).mono ?_; rintro e w3 ⟨rfl, G3, ha3, t3⟩; have A3 := Lib.hid (A2.out.trans ha3); have T3 := Lib.hid t3; have K3 := Lib.hid ((HK.out.adv A3.out o.zero).dm); clear ha3 t3) | (go_at_call 122; rw [HV.out]; refine (T3.out.setCell o hm hn a ha1 hb1 _).mono ?_; rintro e w4 ⟨rfl, G4, ha4, t4⟩; have A4 := Lib.hid (A3.out.trans ha4); have T4 := Lib.hid t4; have K4 := Lib.hid ((HK.out.adv A4.out o.zero).dm); clear ha4 t4))
  go_wp2_with fail
  go_end0
  exact ⟨rfl, G4, A4.out, T4.out⟩
set_option maxRecDepth 100000 in
set_option maxHeartbeats 1000000 in
theorem doSave_act (a : Int) (o : Own3 i j q) (hroom : r.length + 1 ≤ 128) (h : Trio w G i j q D R M (b ++ [a]) r m) (hk : Desk w G K D R (some ⟨M, 0, none⟩)) :
    Calls Tryd.prog 112 #[.pointer (some ⟨K, 0, none⟩)] w (Left3 i j q D R M w G b (r ++ [(4, a)]) m (.tuple #[])) := by
  have HT := Lib.hid h
  have HD := Lib.hid h.drew
  have HK := Lib.hid hk
  have c0 := hk.d
  have c1 := hk.r
  have c2 := hk.m
  clear h hk
  go_enter Tryd.func112, Tryd.ntmps112
  go_region_held3 (fun w' => w'.cell? ⟨K, 0, none⟩ = some (.pointer (some ⟨D, 0, none⟩)) ∧ w'.cell? ⟨K, 1, none⟩ = some (.pointer (some ⟨R, 0, none⟩))) (first | exact ⟨c0, c1⟩ | exact K1.out | exact (HK.out.adv (A1.out.alloc _ 0) o.zero).dr | exact K2.out)
    (first | (go_at_call 24; refine (HD.out.pop o).mono ?_; rintro e w1 ⟨rfl, G1, ha1, t1⟩; have A1 := Lib.hid ((Adv.refl (S3 i j q) w G).drew.trans ha1); have T1 := Lib.hid t1; have K1 := Lib.hid ((HK.out.adv A1.out o.zero).dr); clear ha1 t1) | (go_at_call 76; refine ((T1.out.alloc (.cells #[.int .i64 4, .int .u16 a] 59) 0).pushR o (l := [(4, a)]) _ 1 1 rfl hroom (Reads.new w1 (cellsR [(4, a)]) 59)).mono ?_; rintro e w2 ⟨rfl, G2, ha2, t2⟩; have A2 := Lib.hid ((A1.out.alloc (.cells #[.int .i64 4, .int .u16 a] 59) 0).trans ha2); have T2 := Lib.hid t2; have K2 := Lib.hid ((HK.out.adv A2.out o.zero).dr); clear ha2 t2))
  go_wp2_with fail
  go_end0
  exact ⟨rfl, G2, A2.out, T2.out⟩
set_option maxRecDepth 100000 in
set_option maxHeartbeats 1000000 in
theorem doBack_act (c : Int) (o : Own3 i j q) (hrl : r.length < 1000) (hroom : b.length + 1 ≤ 256) (h : Trio w G i j q D R M b (r ++ [(4, c)]) m) (hk : Desk w G K D R (some ⟨M, 0, none⟩)) :
    Calls Tryd.prog 113 #[.pointer (some ⟨K, 0, none⟩)] w (Left3 i j q D R M w G (b ++ [c]) r m (.tuple #[])) := by
  have HT := Lib.hid h
  have HD := Lib.hid h.drew
  have HK := Lib.hid hk
  have c0 := hk.d
  have c1 := hk.r
  have c2 := hk.m
  clear h hk
  go_enter Tryd.func113, Tryd.ntmps113
  go_wp2_with fail
  refine (HT.out.popR (c := (4, c)) o (by omega)).mono ?_
  rintro e w1 ⟨rfl, G1, ha1, t1⟩; have A1 := Lib.hid ((Adv.refl (S3 i j q) w G).trans ha1); have T1 := Lib.hid t1; have K1 := Lib.hid ((HK.out.adv A1.out o.zero).dm); clear ha1 t1
  obtain ⟨d0, d2⟩ := K1.out
  go_wp2_with fail
  refine ((T1.out.alloc (.cells #[.int .u16 c] 41) 0).push o (l := [c]) _ 1 1 rfl hroom (Reads.new w1 (cellsU [c]) 41)).mono ?_
  rintro e w2 ⟨rfl, G2, ha2, t2⟩; have A2 := Lib.hid ((A1.out.alloc (.cells #[.int .u16 c] 41) 0).trans ha2); have T2 := Lib.hid t2; have K2 := Lib.hid ((HK.out.adv A2.out o.zero).dm); clear ha2 t2
  go_wp2_with fail
  go_end0
  exact ⟨rfl, G2, A2.out, T2.out⟩
set_option maxRecDepth 100000 in
theorem sees_act (n kind : Int) (o : Own3 i j q) (hrl : r.length ≤ 128) (hroom : b.length + 1 ≤ 256) (h : Trio w G i j q D R M b r m) (hk : Desk w G K D R (some ⟨M, 0, none⟩)) :
    Calls Tryd.prog 125 #[.pointer (some ⟨K, 0, none⟩), .int .i64 n, .int .i64 kind] w (Left3 i j q D R M w G (b ++ [atV r n kind]) r m (.tuple #[])) :=
  (sees_any G i j D K R _ b r n kind hroom hrl w h.pu h.pr hk).mono fun e w' k => by
    obtain ⟨k1, G', k2, k3⟩ := k
    exact ⟨k1, G', k2.mono fun _ e => .inl e, k3, h.pr.adv k2 (Ne.symm o.ij), h.pm.adv k2 (Ne.symm o.iq)⟩
set_option maxRecDepth 100000 in
set_option maxHeartbeats 1000000 in
theorem doSee_act (o : Own3 i j q) (hrl : r.length ≤ 128) (hroom : b.length + 1 ≤ 256) (h : Trio w G i j q D R M b r m) (hk : Desk w G K D R (some ⟨M, 0, none⟩)) :
    Calls Tryd.prog 114 #[.pointer (some ⟨K, 0, none⟩)] w (Left3 i j q D R M w G (b ++ [atV r 0 4]) r m (.tuple #[])) := by
  have HT := Lib.hid h
  have HD := Lib.hid h.drew
  have HK := Lib.hid hk
  have c0 := hk.d
  have c1 := hk.r
  have c2 := hk.m
  clear h hk
  go_enter Tryd.func114, Tryd.ntmps114
  go_wp2_with fail
  refine (sees_act 0 4 o hrl hroom HT.out HK.out).mono ?_
  rintro e w2 ⟨rfl, G2, ha2, hp2⟩
  have HF := Lib.hid (And.intro ha2 hp2)
  clear ha2 hp2
  go_wp2_with fail
  go_end0
  exact ⟨rfl, G2, HF.out.1, HF.out.2⟩
set_option maxRecDepth 100000 in
set_option maxHeartbeats 1000000 in
theorem doIndex_act (o : Own3 i j q) (hrl : r.length ≤ 128) (hroom : b.length + 1 ≤ 256) (h : Trio w G i j q D R M b r m) (hk : Desk w G K D R (some ⟨M, 0, none⟩)) :
    Calls Tryd.prog 115 #[.pointer (some ⟨K, 0, none⟩)] w (Left3 i j q D R M w G (b ++ [atV r 0 3]) r m (.tuple #[])) := by
  have HT := Lib.hid h
  have HD := Lib.hid h.drew
  have HK := Lib.hid hk
  have c0 := hk.d
  have c1 := hk.r
  have c2 := hk.m
  clear h hk
  go_enter Tryd.func115, Tryd.ntmps115
  go_wp2_with fail
  refine (sees_act 0 3 o hrl hroom HT.out HK.out).mono ?_
  rintro e w2 ⟨rfl, G2, ha2, hp2⟩
  have HF := Lib.hid (And.intro ha2 hp2)
  clear ha2 hp2
  go_wp2_with fail
  go_end0
  exact ⟨rfl, G2, HF.out.1, HF.out.2⟩
set_option maxRecDepth 100000 in
set_option maxHeartbeats 1000000 in
theorem doOuter_act (o : Own3 i j q) (hrl : r.length ≤ 128) (hroom : b.length + 1 ≤ 256) (h : Trio w G i j q D R M b r m) (hk : Desk w G K D R (some ⟨M, 0, none⟩)) :
    Calls Tryd.prog 116 #[.pointer (some ⟨K, 0, none⟩)] w (Left3 i j q D R M w G (b ++ [atV r 2 3]) r m (.tuple #[])) := by
  have HT := Lib.hid h
  have HD := Lib.hid h.drew
  have HK := Lib.hid hk
  have c0 := hk.d
  have c1 := hk.r
  have c2 := hk.m
  clear h hk
  go_enter Tryd.func116, Tryd.ntmps116
  go_wp2_with fail
  refine (sees_act 2 3 o hrl hroom HT.out HK.out).mono ?_
  rintro e w2 ⟨rfl, G2, ha2, hp2⟩
  have HF := Lib.hid (And.intro ha2 hp2)
  clear ha2 hp2
  go_wp2_with fail
  go_end0
  exact ⟨rfl, G2, HF.out.1, HF.out.2⟩
theorem doDo_act (x y : Int) (o : Own3 i j q) (hroom : r.length + 2 ≤ 128) (h : Trio w G i j q D R M (b ++ [x, y]) r m) (hk : Desk w G K D R (some ⟨M, 0, none⟩)) :
    Calls Tryd.prog 106 #[.pointer (some ⟨K, 0, none⟩)] w (Left3 i j q D R M w G b (r ++ [(2, x), (3, y)]) m (.tuple #[])) :=
  (doDo_any G i j D K R _ b x y r o.i0 o.j0 o.ij hroom w h.pu h.pr hk).mono fun e w' k => by
    obtain ⟨k1, G', k2, k3, k4⟩ := k
    exact ⟨k1, G', k2.mono fun _ e => e.imp id .inl, k3, k4, h.pm.adv k2 (fun e => e.elim (Ne.symm o.iq) (Ne.symm o.jq))⟩
set_option maxRecDepth 100000 in
set_option maxHeartbeats 1000000 in
theorem doNothing_act (o : Own3 i j q) (h : Trio w G i j q D R M b r m) (hk : Desk w G K D R (some ⟨M, 0, none⟩)) :
    Calls Tryd.prog 90 #[.pointer (some ⟨K, 0, none⟩)] w (Left3 i j q D R M w G b r m (.tuple #[])) := by
  have HT := Lib.hid h
  have HD := Lib.hid h.drew
  have HK := Lib.hid hk
  have c0 := hk.d
  have c1 := hk.r
  have c2 := hk.m
  clear h hk
  go_enter Tryd.func90, Tryd.ntmps90
  go_wp2_with fail
  go_end0
  exact ⟨rfl, G, Adv.refl _ _ _, HT.out⟩
set_option maxRecDepth 100000 in
set_option maxHeartbeats 1000000 in
theorem doBank_act (a : Int) (o : Own3 i j q) (hm : MemOk m) (hn : m.tones.length ≤ 99999) (ha1 : 0 ≤ a) (hb1 : a < 65536) (h : Trio w G i j q D R M (b ++ [a]) r m) (hk : Desk w G K D R (some ⟨M, 0, none⟩)) :
    Calls Tryd.prog 120 #[.pointer (some ⟨K, 0, none⟩)] w (Left3 i j q D R M w G b r (storeF m 65280 (a % 256)) (.tuple #[])) := by
  have HT := Lib.hid h
  have HD := Lib.hid h.drew
  have HK := Lib.hid hk
  have c0 := hk.d
  have c1 := hk.r
  have c2 := hk.m
  clear h hk
  go_enter Tryd.func120, Tryd.ntmps120
  go_region_held3 (fun w' => w'.cell? ⟨K, 0, none⟩ = some (.pointer (some ⟨D, 0, none⟩)) ∧ w'.cell? ⟨K, 2, none⟩ = some (.pointer (some ⟨M, 0, none⟩))) (first | exact ⟨c0, c2⟩ | exact K1.out | exact K2.out)
    (first | (go_at_call 24; refine (HD.out.pop o).mono ?_; rintro e w1 ⟨rfl, G1, ha1, t1⟩; have A1 := Lib.hid ((Adv.refl (S3 i j q) w G).drew.trans ha1); have T1 := Lib.hid t1; have K1 := Lib.hid ((HK.out.adv A1.out o.zero).dm); clear ha1 t1) | (go_at_call 129; refine (T1.out.choose o hm hn a ha1 hb1).mono ?_; rintro e w2 ⟨rfl, G2, ha2, t2⟩; have A2 := Lib.hid (A1.out.trans ha2); have T2 := Lib.hid t2; have K2 := Lib.hid ((HK.out.adv A2.out o.zero).dm); clear ha2 t2))
  go_wp2_with fail
  go_end0
  exact ⟨rfl, G2, A2.out, T2.out⟩
set_option maxRecDepth 100000 in
set_option maxHeartbeats 1000000 in
theorem doTone_act (x v : Int) (o : Own3 i j q) (hm : MemOk m) (hn : m.tones.length ≤ 99999) (hx0 : 0 ≤ x) (hx1 : x < 65536) (hv0 : 0 ≤ v) (hv1 : v < 65536) (h : Trio w G i j q D R M (b ++ [x, v]) r m) (hk : Desk w G K D R (some ⟨M, 0, none⟩)) :
    Calls Tryd.prog 119 #[.pointer (some ⟨K, 0, none⟩)] w (Left3 i j q D R M w G b r (playF m x (v % 256)) (.tuple #[])) := by
  have HT := Lib.hid h
  have HD := Lib.hid h.drew
  have HK := Lib.hid hk
  have c0 := hk.d
  have c1 := hk.r
  have c2 := hk.m
  clear h hk
  go_enter Tryd.func119, Tryd.ntmps119
  rw [show b ++ [x, v] = (b ++ [x]) ++ [v] from by simp] at HT
  have HV := Lib.hid (and255 v hv0 hv1)
  go_wp2_with fail
  refine (HT.out.pop o).mono ?_
  rintro e w1 ⟨rfl, G1, ha1, t1⟩; have A1 := Lib.hid ((Adv.refl (S3 i j q) w G).trans ha1); have T1 := Lib.hid t1; have K1 := Lib.hid ((HK.out.adv A1.out o.zero).dm); clear ha1 t1
  obtain ⟨d0, d2⟩ := K1.out
  have D1 := Lib.hid T1.out.drew
  go_upto_region 1 with fail
  go_region_held3 (fun w' => w'.cell? ⟨K, 0, none⟩ = some (.pointer (some ⟨D, 0, none⟩)) ∧ w'.cell? ⟨K, 2, none⟩ = some (.pointer (some ⟨M, 0, none⟩))) (first | exact ⟨d0, d2⟩ | exact K2.out | exact K3.out)
    (first | (go_at_call 24; refine (D1.out.pop o).mono ?_; rintro e w2 ⟨rfl, G2, ha2, t2⟩; have A2 := Lib.hid (A1.out.drew.trans ha2); have T2 := Lib.hid t2; have K2 := Lib.hid ((HK.out.adv A2.out o.zero).dm); clear ha2 t2) | (go_at_call 128; rw [HV.out]; refine (T2.out.play o hm hn x (v % 256) hx0 hx1).mono ?_; rintro e w3 ⟨rfl, G3, ha3, t3⟩; have A3 := Lib.hid (A2.out.trans ha3); have T3 := Lib.hid t3; have K3 := Lib.hid ((HK.out.adv A3.out o.zero).dm); clear ha3 t3))
  go_wp2_with fail
  go_end0
  exact ⟨rfl, G3, A3.out, T3.out⟩
set_option maxRecDepth 100000 in
set_option maxHeartbeats 1000000 in
theorem doPlot_act (x y c : Int) (o : Own3 i j q) (hm : MemOk m) (hn : m.tones.length ≤ 99999) (hx0 : 0 ≤ x) (hy0 : 0 ≤ y) (hc0 : 0 ≤ c) (hc1 : c < 65536) (h : Trio w G i j q D R M (b ++ [x, y, c]) r m) (hk : Desk w G K D R (some ⟨M, 0, none⟩)) :
    Calls Tryd.prog 117 #[.pointer (some ⟨K, 0, none⟩)] w (Left3 i j q D R M w G b r (plotF m x y c) (.tuple #[])) := by
  have HT := Lib.hid h
  have HD := Lib.hid h.drew
  have HK := Lib.hid hk
  have c0 := hk.d
  have c1 := hk.r
  have c2 := hk.m
  clear h hk
  go_enter Tryd.func117, Tryd.ntmps117
  go_wp2_with fail
  refine (HT.out.taken o HK.out 3 rfl (by decide) (by decide)).mono ?_
  rintro e w1 ⟨B, G1, rfl, ha1, t1, k1, hrow⟩
  have A1 := Lib.hid ha1
  have D1 := Lib.hid t1.drew
  have d2 := k1.m
  have e0 := (hrow.at (by decide)).2.2.2 0 _ rfl
  have e1 := (hrow.at (by decide)).2.2.2 1 _ rfl
  have e2 := (hrow.at (by decide)).2.2.2 2 _ rfl
  have gB := (hrow.at (by decide)).2.1
  have HKK := Lib.hid (show ∀ (w' : World) (G' : Nat → Nat), Adv (S3 i j q) w1 G1 w' G' → w'.cell? ⟨K, 2, none⟩ = some (.pointer (some ⟨M, 0, none⟩)) ∧ w'.cell? ⟨B, 0, none⟩ = some (.int .u16 x) ∧ w'.cell? ⟨B, 1, none⟩ = some (.int .u16 y) ∧ w'.cell? ⟨B, 2, none⟩ = some (.int .u16 c) from fun w' G' ha =>
    ⟨(k1.adv ha o.zero).m, ha.cell_some (p := ⟨B, 0, none⟩) e0 (by show ¬ S3 i j q (G1 B); rw [gB]; exact o.zero), ha.cell_some (p := ⟨B, 1, none⟩) e1 (by show ¬ S3 i j q (G1 B); rw [gB]; exact o.zero), ha.cell_some (p := ⟨B, 2, none⟩) e2 (by show ¬ S3 i j q (G1 B); rw [gB]; exact o.zero)⟩)
  clear ha1 t1 k1 hrow gB
  go_upto_region 1 with fail
  go_region_held3 (fun w' => w'.cell? ⟨K, 2, none⟩ = some (.pointer (some ⟨M, 0, none⟩)) ∧ w'.cell? ⟨B, 0, none⟩ = some (.int .u16 x) ∧ w'.cell? ⟨B, 1, none⟩ = some (.int .u16 y) ∧ w'.cell? ⟨B, 2, none⟩ = some (.int .u16 c)) (first | exact ⟨d2, e0, e1, e2⟩ | exact K2.out)
    ((go_at_call 126; refine (D1.out.plot o hm hn x y c hx0 hy0 hc0 hc1).mono ?_; rintro e w2 ⟨rfl, G2, ha2, t2⟩; have K2 := Lib.hid (HKK.out _ _ ((Adv.refl (S3 i j q) w1 G1).drew.trans ha2)); have A2 := Lib.hid (A1.out.drew.trans ha2); have T2 := Lib.hid t2; clear ha2 t2))
  go_wp2_with fail
  go_end0
  exact ⟨rfl, G2, A2.out, T2.out⟩
/-- What the closure of a primitive of one cell, or two, holds. -/
def OpCl (k : Nat) (w : World) (G : Nat → Nat) (c : Array Value) : Prop := ∃ B, c = #[.pointer (some ⟨B, 0, none⟩)] ∧ w.cell? ⟨B, 0, none⟩ = some (.int .i64 k) ∧ G B = 0
theorem OpCl.adv {k : Nat} {S : Nat → Prop} {w w' : World} {G G' : Nat → Nat} {c : Array Value} (h : OpCl k w G c) (ha : Adv S w G w' G') (hs : ¬ S 0) : OpCl k w' G' c := by
  obtain ⟨B, h1, h2, h3⟩ := h
  exact ⟨B, h1, ha.cell_some h2 (by rw [h3]; exact hs), (ha.own _ (World.block_lt_of_cell? w _ h2)).trans h3⟩
theorem op_keeps (k : Nat) : Keeps (OpCl k) := fun _ _ _ _ _ _ h ha hs => h.adv ha hs
set_option maxRecDepth 100000 in
set_option maxHeartbeats 1000000 in
theorem one_act (k : Nat) (x y : Int) (B : Nat) (hu : ∀ w, Calls Tryd.prog 86 #[.int .i64 k, .int .u16 x] w fun e w' => e = .returned (.tuple #[.int .u16 y, .bool true]) ∧ w = w') (o : Own3 i j q) (hroom : b.length + 1 ≤ 256)
    (hB : w.cell? ⟨B, 0, none⟩ = some (.int .i64 k)) (hG : G B = 0) (h : Trio w G i j q D R M (b ++ [x]) r m) (hk : Desk w G K D R (some ⟨M, 0, none⟩)) :
    Calls Tryd.prog 100 #[.pointer (some ⟨K, 0, none⟩), .pointer (some ⟨B, 0, none⟩)] w (Left3 i j q D R M w G (b ++ [y]) r m (.tuple #[])) := by
  have HD := Lib.hid h.drew
  have HK := Lib.hid hk
  have HU := Lib.hid hu
  have HG := Lib.hid hG
  have c0 := hk.d
  clear h hk hu hG
  go_enter Tryd.func100, Tryd.ntmps100
  go_upto_region 0 with fail
  go_region_held3 (fun w' => w'.cell? ⟨K, 0, none⟩ = some (.pointer (some ⟨D, 0, none⟩)) ∧ w'.cell? ⟨B, 0, none⟩ = some (.int .i64 k)) (first | exact ⟨c0, hB⟩ | exact K1.out)
    (first | (go_at_call 24; refine (HD.out.pop o).mono ?_; rintro e w1 ⟨rfl, G1, ha1, t1⟩; have A1 := Lib.hid ((Adv.refl (S3 i j q) w G).drew.trans ha1); have T1 := Lib.hid t1; have K1 := Lib.hid (And.intro (HK.out.adv A1.out o.zero).d (A1.out.cell_some (p := ⟨B, 0, none⟩) hB (by show ¬ S3 i j q (G B); rw [HG.out]; exact o.zero))); clear ha1 t1) | (go_at_call 86; refine (HU.out _).mono ?_; rintro e w2 ⟨rfl, rfl⟩))
  obtain ⟨d0, -⟩ := K1.out
  go_wp2_with fail
  refine ((T1.out.alloc (.cells #[.int .u16 y] 41) 0).push o (l := [y]) _ 1 1 rfl hroom (Reads.new w1 (cellsU [y]) 41)).mono ?_
  rintro e w2 ⟨rfl, G2, ha2, t2⟩; have A2 := Lib.hid ((A1.out.alloc (.cells #[.int .u16 y] 41) 0).trans ha2); have T2 := Lib.hid t2; have K2 := Lib.hid ((HK.out.adv A2.out o.zero).dm); clear ha2 t2
  go_wp2_with fail
  go_end0
  exact ⟨rfl, G2, A2.out, T2.out⟩
set_option maxRecDepth 100000 in
set_option maxHeartbeats 1000000 in
theorem two_act (k : Nat) (x y z : Int) (B : Nat) (hu : ∀ w, Calls Tryd.prog 88 #[.int .i64 k, .int .u16 x, .int .u16 y] w fun e w' => e = .returned (.tuple #[.int .u16 z, .bool true]) ∧ w = w') (o : Own3 i j q) (hroom : b.length + 1 ≤ 256)
    (hB : w.cell? ⟨B, 0, none⟩ = some (.int .i64 k)) (hG : G B = 0) (h : Trio w G i j q D R M (b ++ [x, y]) r m) (hk : Desk w G K D R (some ⟨M, 0, none⟩)) :
    Calls Tryd.prog 103 #[.pointer (some ⟨K, 0, none⟩), .pointer (some ⟨B, 0, none⟩)] w (Left3 i j q D R M w G (b ++ [z]) r m (.tuple #[])) := by
  have HT := Lib.hid h
  have HK := Lib.hid hk
  have HU := Lib.hid hu
  have HG := Lib.hid hG
  have c0 := hk.d
  rw [show b ++ [x, y] = (b ++ [x]) ++ [y] from by simp] at HT
  clear h hk hu hG
  go_enter Tryd.func103, Tryd.ntmps103
  go_wp2_with fail
  refine (HT.out.pop o).mono ?_
  rintro e w1 ⟨rfl, G1, ha1, t1⟩
  have A1 := Lib.hid ha1
  have D1 := Lib.hid t1.drew
  have d0 := (HK.out.adv ha1 o.zero).d
  have hB1 := ha1.cell_some (p := ⟨B, 0, none⟩) hB (by show ¬ S3 i j q (G B); rw [HG.out]; exact o.zero)
  clear ha1 t1
  go_upto_region 1 with fail
  go_region_held3 (fun w' => w'.cell? ⟨K, 0, none⟩ = some (.pointer (some ⟨D, 0, none⟩)) ∧ w'.cell? ⟨B, 0, none⟩ = some (.int .i64 k)) (first | exact ⟨d0, hB1⟩ | exact K2.out)
    (first | (go_at_call 24; refine (D1.out.pop o).mono ?_; rintro e w2 ⟨rfl, G2, ha2, t2⟩; have A2 := Lib.hid (A1.out.drew.trans ha2); have T2 := Lib.hid t2; have K2 := Lib.hid (And.intro (HK.out.adv A2.out o.zero).d (A2.out.cell_some (p := ⟨B, 0, none⟩) hB (by show ¬ S3 i j q (G B); rw [HG.out]; exact o.zero))); clear ha2 t2) | (go_at_call 88; refine (HU.out _).mono ?_; rintro e w3 ⟨rfl, rfl⟩))
  clear d0
  obtain ⟨d0, -⟩ := K2.out
  go_wp2_with fail
  refine ((T2.out.alloc (.cells #[.int .u16 z] 41) 0).push o (l := [z]) _ 1 1 rfl hroom (Reads.new w2 (cellsU [z]) 41)).mono ?_
  rintro e w3 ⟨rfl, G3, ha3, t3⟩; have A3 := Lib.hid ((A2.out.alloc (.cells #[.int .u16 z] 41) 0).trans ha3); have T3 := Lib.hid t3; have K3 := Lib.hid ((HK.out.adv A3.out o.zero).dm); clear ha3 t3
  go_wp2_with fail
  go_end0
  exact ⟨rfl, G3, A3.out, T3.out⟩
theorem shuf_act (n : Nat) (ps : List Nat) (t : List Int) (c : Array Value) (hn : t.length = n) (h0 : 0 < n) (h4 : n ≤ 100) (hps : ∀ p ∈ ps, p < n) (o : Own3 i j q) (hroom : b.length + ps.length ≤ 256) (hc : ShufCl n ps w G c)
    (h : Trio w G i j q D R M (b ++ t) r m) (hk : Desk w G K D R (some ⟨M, 0, none⟩)) :
    Calls Tryd.prog 104 (#[.pointer (some ⟨K, 0, none⟩)] ++ c) w (Left3 i j q D R M w G (b ++ picks t ps) r m (.tuple #[])) := by
  obtain ⟨B1, B2, la, lc, hcs, hB1, hG1, hB2, hG2, hla, hGl⟩ := hc
  subst hcs
  refine (shuffle_any G i D K R (some ⟨M, 0, none⟩) b t n hn h0 h4 ps hps hroom o.i0 B1 B2 la lc w h.pu hk hB1 hG1 hB2 hG2 hla hGl).mono fun e w' k => ?_
  obtain ⟨k1, G', k2, k3⟩ := k
  exact ⟨k1, G', k2.mono fun _ e => .inl e, k3, h.pr.adv k2 (Ne.symm o.ij), h.pm.adv k2 (Ne.symm o.iq)⟩
end
end Go.Proofs.YtdnalhjdmlkbmaaDoor
namespace Go.Proofs.YtdnalhjdmlkbmaaDoor
open Go.RowKit

theorem opCl_new (w : World) (G : Nat → Nat) (k : Nat) : Adv (fun _ => False) w G (w.alloc (.cells #[.int .i64 k] 3)) (own1 w G 0) ∧ OpCl k (w.alloc (.cells #[.int .i64 k] 3)) (own1 w G 0) #[.pointer (some ⟨w.heap.size, 0, none⟩)] :=
  ⟨(Adv.refl _ w G).alloc _ 0, w.heap.size, rfl, block_cell (heap_alloc_new w _) 0 _ rfl, own1_new _ _ _⟩

set_option maxRecDepth 100000 in
theorem does_28 : DoesIs 28 100 (OpCl 28) := by
  intro G w
  have hmf : ∀ (fn : Fn) (first cap : Array Value) (w : World), (Instr.makeFunc fn first cap).run Tryd.prog w = .ok (.func fn first cap) w := fun _ _ _ _ => rfl
  go_enter Tryd.func79, Tryd.ntmps79
  go_wp2_with (first | (go_at_call 86; refine (unary_28 0 (by decide) (by decide) _).mono ?_; rintro e w' ⟨rfl, rfl⟩) | (go_at_call 87; go_in))
  go_ret
  obtain ⟨h1, h2⟩ := opCl_new w G 28
  exact ⟨_, _, rfl, h1, h2⟩
set_option maxRecDepth 100000 in
theorem does_29 : DoesIs 29 100 (OpCl 29) := by
  intro G w
  have hmf : ∀ (fn : Fn) (first cap : Array Value) (w : World), (Instr.makeFunc fn first cap).run Tryd.prog w = .ok (.func fn first cap) w := fun _ _ _ _ => rfl
  go_enter Tryd.func79, Tryd.ntmps79
  go_wp2_with (first | (go_at_call 86; refine (unary_29 0 (by decide) (by decide) _).mono ?_; rintro e w' ⟨rfl, rfl⟩) | (go_at_call 87; go_in))
  go_ret
  obtain ⟨h1, h2⟩ := opCl_new w G 29
  exact ⟨_, _, rfl, h1, h2⟩
set_option maxRecDepth 100000 in
theorem does_32 : DoesIs 32 100 (OpCl 32) := by
  intro G w
  have hmf : ∀ (fn : Fn) (first cap : Array Value) (w : World), (Instr.makeFunc fn first cap).run Tryd.prog w = .ok (.func fn first cap) w := fun _ _ _ _ => rfl
  go_enter Tryd.func79, Tryd.ntmps79
  go_wp2_with (first | (go_at_call 86; refine (unary_32 0 (by decide) (by decide) _).mono ?_; rintro e w' ⟨rfl, rfl⟩) | (go_at_call 87; go_in))
  go_ret
  obtain ⟨h1, h2⟩ := opCl_new w G 32
  exact ⟨_, _, rfl, h1, h2⟩
set_option maxRecDepth 100000 in
theorem does_33 : DoesIs 33 100 (OpCl 33) := by
  intro G w
  have hmf : ∀ (fn : Fn) (first cap : Array Value) (w : World), (Instr.makeFunc fn first cap).run Tryd.prog w = .ok (.func fn first cap) w := fun _ _ _ _ => rfl
  go_enter Tryd.func79, Tryd.ntmps79
  go_wp2_with (first | (go_at_call 86; refine (unary_33 0 (by decide) (by decide) _).mono ?_; rintro e w' ⟨rfl, rfl⟩) | (go_at_call 87; go_in))
  go_ret
  obtain ⟨h1, h2⟩ := opCl_new w G 33
  exact ⟨_, _, rfl, h1, h2⟩
set_option maxRecDepth 100000 in
theorem does_34 : DoesIs 34 100 (OpCl 34) := by
  intro G w
  have hmf : ∀ (fn : Fn) (first cap : Array Value) (w : World), (Instr.makeFunc fn first cap).run Tryd.prog w = .ok (.func fn first cap) w := fun _ _ _ _ => rfl
  go_enter Tryd.func79, Tryd.ntmps79
  go_wp2_with (first | (go_at_call 86; refine (unary_34 0 (by decide) (by decide) _).mono ?_; rintro e w' ⟨rfl, rfl⟩) | (go_at_call 87; go_in))
  go_ret
  obtain ⟨h1, h2⟩ := opCl_new w G 34
  exact ⟨_, _, rfl, h1, h2⟩
set_option maxRecDepth 100000 in
theorem does_35 : DoesIs 35 100 (OpCl 35) := by
  intro G w
  have hmf : ∀ (fn : Fn) (first cap : Array Value) (w : World), (Instr.makeFunc fn first cap).run Tryd.prog w = .ok (.func fn first cap) w := fun _ _ _ _ => rfl
  go_enter Tryd.func79, Tryd.ntmps79
  go_wp2_with (first | (go_at_call 86; refine (unary_35 0 (by decide) (by decide) _).mono ?_; rintro e w' ⟨rfl, rfl⟩) | (go_at_call 87; go_in))
  go_ret
  obtain ⟨h1, h2⟩ := opCl_new w G 35
  exact ⟨_, _, rfl, h1, h2⟩
set_option maxRecDepth 100000 in
theorem does_39 : DoesIs 39 100 (OpCl 39) := by
  intro G w
  have hmf : ∀ (fn : Fn) (first cap : Array Value) (w : World), (Instr.makeFunc fn first cap).run Tryd.prog w = .ok (.func fn first cap) w := fun _ _ _ _ => rfl
  go_enter Tryd.func79, Tryd.ntmps79
  go_wp2_with (first | (go_at_call 86; refine (unary_39 0 (by decide) (by decide) _).mono ?_; rintro e w' ⟨rfl, rfl⟩) | (go_at_call 87; go_in))
  go_ret
  obtain ⟨h1, h2⟩ := opCl_new w G 39
  exact ⟨_, _, rfl, h1, h2⟩
set_option maxRecDepth 100000 in
theorem does_48 : DoesIs 48 100 (OpCl 48) := by
  intro G w
  have hmf : ∀ (fn : Fn) (first cap : Array Value) (w : World), (Instr.makeFunc fn first cap).run Tryd.prog w = .ok (.func fn first cap) w := fun _ _ _ _ => rfl
  go_enter Tryd.func79, Tryd.ntmps79
  go_wp2_with (first | (go_at_call 86; refine (unary_48 0 (by decide) (by decide) _).mono ?_; rintro e w' ⟨rfl, rfl⟩) | (go_at_call 87; go_in))
  go_ret
  obtain ⟨h1, h2⟩ := opCl_new w G 48
  exact ⟨_, _, rfl, h1, h2⟩
set_option maxRecDepth 100000 in
theorem does_49 : DoesIs 49 100 (OpCl 49) := by
  intro G w
  have hmf : ∀ (fn : Fn) (first cap : Array Value) (w : World), (Instr.makeFunc fn first cap).run Tryd.prog w = .ok (.func fn first cap) w := fun _ _ _ _ => rfl
  go_enter Tryd.func79, Tryd.ntmps79
  go_wp2_with (first | (go_at_call 86; refine (unary_49 0 (by decide) (by decide) _).mono ?_; rintro e w' ⟨rfl, rfl⟩) | (go_at_call 87; go_in))
  go_ret
  obtain ⟨h1, h2⟩ := opCl_new w G 49
  exact ⟨_, _, rfl, h1, h2⟩
set_option maxRecDepth 100000 in
theorem does_21 : DoesIs 21 103 (OpCl 21) := by
  intro G w
  have hmf : ∀ (fn : Fn) (first cap : Array Value) (w : World), (Instr.makeFunc fn first cap).run Tryd.prog w = .ok (.func fn first cap) w := fun _ _ _ _ => rfl
  go_enter Tryd.func79, Tryd.ntmps79
  go_wp2_with (first | (go_at_call 86; refine (unary_no21 _ _).mono ?_; rintro e w' ⟨rfl, rfl⟩) | (go_at_call 88; refine (binary_21 0 0 (by decide) (by decide) (by decide) (by decide) _).mono ?_; rintro e w' ⟨rfl, rfl⟩) | (go_at_call 89; go_in))
  go_ret
  obtain ⟨h1, h2⟩ := opCl_new w G 21
  exact ⟨_, _, rfl, h1, h2⟩
set_option maxRecDepth 100000 in
theorem does_22 : DoesIs 22 103 (OpCl 22) := by
  intro G w
  have hmf : ∀ (fn : Fn) (first cap : Array Value) (w : World), (Instr.makeFunc fn first cap).run Tryd.prog w = .ok (.func fn first cap) w := fun _ _ _ _ => rfl
  go_enter Tryd.func79, Tryd.ntmps79
  go_wp2_with (first | (go_at_call 86; refine (unary_no22 _ _).mono ?_; rintro e w' ⟨rfl, rfl⟩) | (go_at_call 88; refine (binary_22 0 0 (by decide) (by decide) (by decide) (by decide) _).mono ?_; rintro e w' ⟨rfl, rfl⟩) | (go_at_call 89; go_in))
  go_ret
  obtain ⟨h1, h2⟩ := opCl_new w G 22
  exact ⟨_, _, rfl, h1, h2⟩
set_option maxRecDepth 100000 in
theorem does_23 : DoesIs 23 103 (OpCl 23) := by
  intro G w
  have hmf : ∀ (fn : Fn) (first cap : Array Value) (w : World), (Instr.makeFunc fn first cap).run Tryd.prog w = .ok (.func fn first cap) w := fun _ _ _ _ => rfl
  go_enter Tryd.func79, Tryd.ntmps79
  go_wp2_with (first | (go_at_call 86; refine (unary_no23 _ _).mono ?_; rintro e w' ⟨rfl, rfl⟩) | (go_at_call 88; refine (binary_23 0 0 (by decide) (by decide) (by decide) (by decide) _).mono ?_; rintro e w' ⟨rfl, rfl⟩) | (go_at_call 89; go_in))
  go_ret
  obtain ⟨h1, h2⟩ := opCl_new w G 23
  exact ⟨_, _, rfl, h1, h2⟩
set_option maxRecDepth 100000 in
theorem does_24 : DoesIs 24 103 (OpCl 24) := by
  intro G w
  have hmf : ∀ (fn : Fn) (first cap : Array Value) (w : World), (Instr.makeFunc fn first cap).run Tryd.prog w = .ok (.func fn first cap) w := fun _ _ _ _ => rfl
  go_enter Tryd.func79, Tryd.ntmps79
  go_wp2_with (first | (go_at_call 86; refine (unary_no24 _ _).mono ?_; rintro e w' ⟨rfl, rfl⟩) | (go_at_call 88; refine (binary_24 0 0 (by decide) (by decide) (by decide) (by decide) _).mono ?_; rintro e w' ⟨rfl, rfl⟩) | (go_at_call 89; go_in))
  go_ret
  obtain ⟨h1, h2⟩ := opCl_new w G 24
  exact ⟨_, _, rfl, h1, h2⟩
set_option maxRecDepth 100000 in
theorem does_25 : DoesIs 25 103 (OpCl 25) := by
  intro G w
  have hmf : ∀ (fn : Fn) (first cap : Array Value) (w : World), (Instr.makeFunc fn first cap).run Tryd.prog w = .ok (.func fn first cap) w := fun _ _ _ _ => rfl
  go_enter Tryd.func79, Tryd.ntmps79
  go_wp2_with (first | (go_at_call 86; refine (unary_no25 _ _).mono ?_; rintro e w' ⟨rfl, rfl⟩) | (go_at_call 88; refine (binary_25 0 0 (by decide) (by decide) (by decide) (by decide) _).mono ?_; rintro e w' ⟨rfl, rfl⟩) | (go_at_call 89; go_in))
  go_ret
  obtain ⟨h1, h2⟩ := opCl_new w G 25
  exact ⟨_, _, rfl, h1, h2⟩
set_option maxRecDepth 100000 in
theorem does_26 : DoesIs 26 103 (OpCl 26) := by
  intro G w
  have hmf : ∀ (fn : Fn) (first cap : Array Value) (w : World), (Instr.makeFunc fn first cap).run Tryd.prog w = .ok (.func fn first cap) w := fun _ _ _ _ => rfl
  go_enter Tryd.func79, Tryd.ntmps79
  go_wp2_with (first | (go_at_call 86; refine (unary_no26 _ _).mono ?_; rintro e w' ⟨rfl, rfl⟩) | (go_at_call 88; refine (binary_26 0 0 (by decide) (by decide) (by decide) (by decide) _).mono ?_; rintro e w' ⟨rfl, rfl⟩) | (go_at_call 89; go_in))
  go_ret
  obtain ⟨h1, h2⟩ := opCl_new w G 26
  exact ⟨_, _, rfl, h1, h2⟩
set_option maxRecDepth 100000 in
theorem does_27 : DoesIs 27 103 (OpCl 27) := by
  intro G w
  have hmf : ∀ (fn : Fn) (first cap : Array Value) (w : World), (Instr.makeFunc fn first cap).run Tryd.prog w = .ok (.func fn first cap) w := fun _ _ _ _ => rfl
  go_enter Tryd.func79, Tryd.ntmps79
  go_wp2_with (first | (go_at_call 86; refine (unary_no27 _ _).mono ?_; rintro e w' ⟨rfl, rfl⟩) | (go_at_call 88; refine (binary_27 0 0 (by decide) (by decide) (by decide) (by decide) _).mono ?_; rintro e w' ⟨rfl, rfl⟩) | (go_at_call 89; go_in))
  go_ret
  obtain ⟨h1, h2⟩ := opCl_new w G 27
  exact ⟨_, _, rfl, h1, h2⟩
set_option maxRecDepth 100000 in
theorem does_30 : DoesIs 30 103 (OpCl 30) := by
  intro G w
  have hmf : ∀ (fn : Fn) (first cap : Array Value) (w : World), (Instr.makeFunc fn first cap).run Tryd.prog w = .ok (.func fn first cap) w := fun _ _ _ _ => rfl
  go_enter Tryd.func79, Tryd.ntmps79
  go_wp2_with (first | (go_at_call 86; refine (unary_no30 _ _).mono ?_; rintro e w' ⟨rfl, rfl⟩) | (go_at_call 88; refine (binary_30 0 0 (by decide) (by decide) (by decide) (by decide) _).mono ?_; rintro e w' ⟨rfl, rfl⟩) | (go_at_call 89; go_in))
  go_ret
  obtain ⟨h1, h2⟩ := opCl_new w G 30
  exact ⟨_, _, rfl, h1, h2⟩
set_option maxRecDepth 100000 in
theorem does_31 : DoesIs 31 103 (OpCl 31) := by
  intro G w
  have hmf : ∀ (fn : Fn) (first cap : Array Value) (w : World), (Instr.makeFunc fn first cap).run Tryd.prog w = .ok (.func fn first cap) w := fun _ _ _ _ => rfl
  go_enter Tryd.func79, Tryd.ntmps79
  go_wp2_with (first | (go_at_call 86; refine (unary_no31 _ _).mono ?_; rintro e w' ⟨rfl, rfl⟩) | (go_at_call 88; refine (binary_31 0 0 (by decide) (by decide) (by decide) (by decide) _).mono ?_; rintro e w' ⟨rfl, rfl⟩) | (go_at_call 89; go_in))
  go_ret
  obtain ⟨h1, h2⟩ := opCl_new w G 31
  exact ⟨_, _, rfl, h1, h2⟩
set_option maxRecDepth 100000 in
theorem does_36 : DoesIs 36 103 (OpCl 36) := by
  intro G w
  have hmf : ∀ (fn : Fn) (first cap : Array Value) (w : World), (Instr.makeFunc fn first cap).run Tryd.prog w = .ok (.func fn first cap) w := fun _ _ _ _ => rfl
  go_enter Tryd.func79, Tryd.ntmps79
  go_wp2_with (first | (go_at_call 86; refine (unary_no36 _ _).mono ?_; rintro e w' ⟨rfl, rfl⟩) | (go_at_call 88; refine (binary_36 0 0 (by decide) (by decide) (by decide) (by decide) _).mono ?_; rintro e w' ⟨rfl, rfl⟩) | (go_at_call 89; go_in))
  go_ret
  obtain ⟨h1, h2⟩ := opCl_new w G 36
  exact ⟨_, _, rfl, h1, h2⟩
set_option maxRecDepth 100000 in
theorem does_37 : DoesIs 37 103 (OpCl 37) := by
  intro G w
  have hmf : ∀ (fn : Fn) (first cap : Array Value) (w : World), (Instr.makeFunc fn first cap).run Tryd.prog w = .ok (.func fn first cap) w := fun _ _ _ _ => rfl
  go_enter Tryd.func79, Tryd.ntmps79
  go_wp2_with (first | (go_at_call 86; refine (unary_no37 _ _).mono ?_; rintro e w' ⟨rfl, rfl⟩) | (go_at_call 88; refine (binary_37 0 0 (by decide) (by decide) (by decide) (by decide) _).mono ?_; rintro e w' ⟨rfl, rfl⟩) | (go_at_call 89; go_in))
  go_ret
  obtain ⟨h1, h2⟩ := opCl_new w G 37
  exact ⟨_, _, rfl, h1, h2⟩
set_option maxRecDepth 100000 in
theorem does_38 : DoesIs 38 103 (OpCl 38) := by
  intro G w
  have hmf : ∀ (fn : Fn) (first cap : Array Value) (w : World), (Instr.makeFunc fn first cap).run Tryd.prog w = .ok (.func fn first cap) w := fun _ _ _ _ => rfl
  go_enter Tryd.func79, Tryd.ntmps79
  go_wp2_with (first | (go_at_call 86; refine (unary_no38 _ _).mono ?_; rintro e w' ⟨rfl, rfl⟩) | (go_at_call 88; refine (binary_38 0 0 (by decide) (by decide) (by decide) (by decide) _).mono ?_; rintro e w' ⟨rfl, rfl⟩) | (go_at_call 89; go_in))
  go_ret
  obtain ⟨h1, h2⟩ := opCl_new w G 38
  exact ⟨_, _, rfl, h1, h2⟩
set_option maxRecDepth 100000 in
theorem does_40 : DoesIs 40 103 (OpCl 40) := by
  intro G w
  have hmf : ∀ (fn : Fn) (first cap : Array Value) (w : World), (Instr.makeFunc fn first cap).run Tryd.prog w = .ok (.func fn first cap) w := fun _ _ _ _ => rfl
  go_enter Tryd.func79, Tryd.ntmps79
  go_wp2_with (first | (go_at_call 86; refine (unary_no40 _ _).mono ?_; rintro e w' ⟨rfl, rfl⟩) | (go_at_call 88; refine (binary_40 0 0 (by decide) (by decide) (by decide) (by decide) _).mono ?_; rintro e w' ⟨rfl, rfl⟩) | (go_at_call 89; go_in))
  go_ret
  obtain ⟨h1, h2⟩ := opCl_new w G 40
  exact ⟨_, _, rfl, h1, h2⟩
set_option maxRecDepth 100000 in
theorem does_41 : DoesIs 41 103 (OpCl 41) := by
  intro G w
  have hmf : ∀ (fn : Fn) (first cap : Array Value) (w : World), (Instr.makeFunc fn first cap).run Tryd.prog w = .ok (.func fn first cap) w := fun _ _ _ _ => rfl
  go_enter Tryd.func79, Tryd.ntmps79
  go_wp2_with (first | (go_at_call 86; refine (unary_no41 _ _).mono ?_; rintro e w' ⟨rfl, rfl⟩) | (go_at_call 88; refine (binary_41 0 0 (by decide) (by decide) (by decide) (by decide) _).mono ?_; rintro e w' ⟨rfl, rfl⟩) | (go_at_call 89; go_in))
  go_ret
  obtain ⟨h1, h2⟩ := opCl_new w G 41
  exact ⟨_, _, rfl, h1, h2⟩
set_option maxRecDepth 100000 in
theorem does_42 : DoesIs 42 103 (OpCl 42) := by
  intro G w
  have hmf : ∀ (fn : Fn) (first cap : Array Value) (w : World), (Instr.makeFunc fn first cap).run Tryd.prog w = .ok (.func fn first cap) w := fun _ _ _ _ => rfl
  go_enter Tryd.func79, Tryd.ntmps79
  go_wp2_with (first | (go_at_call 86; refine (unary_no42 _ _).mono ?_; rintro e w' ⟨rfl, rfl⟩) | (go_at_call 88; refine (binary_42 0 0 (by decide) (by decide) (by decide) (by decide) _).mono ?_; rintro e w' ⟨rfl, rfl⟩) | (go_at_call 89; go_in))
  go_ret
  obtain ⟨h1, h2⟩ := opCl_new w G 42
  exact ⟨_, _, rfl, h1, h2⟩
set_option maxRecDepth 100000 in
theorem does_43 : DoesIs 43 103 (OpCl 43) := by
  intro G w
  have hmf : ∀ (fn : Fn) (first cap : Array Value) (w : World), (Instr.makeFunc fn first cap).run Tryd.prog w = .ok (.func fn first cap) w := fun _ _ _ _ => rfl
  go_enter Tryd.func79, Tryd.ntmps79
  go_wp2_with (first | (go_at_call 86; refine (unary_no43 _ _).mono ?_; rintro e w' ⟨rfl, rfl⟩) | (go_at_call 88; refine (binary_43 0 0 (by decide) (by decide) (by decide) (by decide) _).mono ?_; rintro e w' ⟨rfl, rfl⟩) | (go_at_call 89; go_in))
  go_ret
  obtain ⟨h1, h2⟩ := opCl_new w G 43
  exact ⟨_, _, rfl, h1, h2⟩
set_option maxRecDepth 100000 in
theorem does_44 : DoesIs 44 103 (OpCl 44) := by
  intro G w
  have hmf : ∀ (fn : Fn) (first cap : Array Value) (w : World), (Instr.makeFunc fn first cap).run Tryd.prog w = .ok (.func fn first cap) w := fun _ _ _ _ => rfl
  go_enter Tryd.func79, Tryd.ntmps79
  go_wp2_with (first | (go_at_call 86; refine (unary_no44 _ _).mono ?_; rintro e w' ⟨rfl, rfl⟩) | (go_at_call 88; refine (binary_44 0 0 (by decide) (by decide) (by decide) (by decide) _).mono ?_; rintro e w' ⟨rfl, rfl⟩) | (go_at_call 89; go_in))
  go_ret
  obtain ⟨h1, h2⟩ := opCl_new w G 44
  exact ⟨_, _, rfl, h1, h2⟩
set_option maxRecDepth 100000 in
theorem does_45 : DoesIs 45 103 (OpCl 45) := by
  intro G w
  have hmf : ∀ (fn : Fn) (first cap : Array Value) (w : World), (Instr.makeFunc fn first cap).run Tryd.prog w = .ok (.func fn first cap) w := fun _ _ _ _ => rfl
  go_enter Tryd.func79, Tryd.ntmps79
  go_wp2_with (first | (go_at_call 86; refine (unary_no45 _ _).mono ?_; rintro e w' ⟨rfl, rfl⟩) | (go_at_call 88; refine (binary_45 0 0 (by decide) (by decide) (by decide) (by decide) _).mono ?_; rintro e w' ⟨rfl, rfl⟩) | (go_at_call 89; go_in))
  go_ret
  obtain ⟨h1, h2⟩ := opCl_new w G 45
  exact ⟨_, _, rfl, h1, h2⟩
set_option maxRecDepth 100000 in
theorem does_46 : DoesIs 46 103 (OpCl 46) := by
  intro G w
  have hmf : ∀ (fn : Fn) (first cap : Array Value) (w : World), (Instr.makeFunc fn first cap).run Tryd.prog w = .ok (.func fn first cap) w := fun _ _ _ _ => rfl
  go_enter Tryd.func79, Tryd.ntmps79
  go_wp2_with (first | (go_at_call 86; refine (unary_no46 _ _).mono ?_; rintro e w' ⟨rfl, rfl⟩) | (go_at_call 88; refine (binary_46 0 0 (by decide) (by decide) (by decide) (by decide) _).mono ?_; rintro e w' ⟨rfl, rfl⟩) | (go_at_call 89; go_in))
  go_ret
  obtain ⟨h1, h2⟩ := opCl_new w G 46
  exact ⟨_, _, rfl, h1, h2⟩
set_option maxRecDepth 100000 in
theorem does_47 : DoesIs 47 103 (OpCl 47) := by
  intro G w
  have hmf : ∀ (fn : Fn) (first cap : Array Value) (w : World), (Instr.makeFunc fn first cap).run Tryd.prog w = .ok (.func fn first cap) w := fun _ _ _ _ => rfl
  go_enter Tryd.func79, Tryd.ntmps79
  go_wp2_with (first | (go_at_call 86; refine (unary_no47 _ _).mono ?_; rintro e w' ⟨rfl, rfl⟩) | (go_at_call 88; refine (binary_47 0 0 (by decide) (by decide) (by decide) (by decide) _).mono ?_; rintro e w' ⟨rfl, rfl⟩) | (go_at_call 89; go_in))
  go_ret
  obtain ⟨h1, h2⟩ := opCl_new w G 47
  exact ⟨_, _, rfl, h1, h2⟩
end Go.Proofs.YtdnalhjdmlkbmaaDoor
namespace Go.Proofs.YtdnalhjdmlkbmaaDoor
open Go.RowKit

set_option maxRecDepth 100000 in
/-- Too few cells, or no room for what is left. -/
theorem do_need (G : Nat → Nat) (k : Nat) (hk : k < 64) (hpl : plainB k = true) (f : Nat) (Cl : World → (Nat → Nat) → Array Value → Prop) (hd : DoesIs k f Cl) (hcl : Keeps Cl)
    (i D : Nat) (R M : Addr) (l : List Int) (hl : l.length ≤ 256) (hneed : (needF l.length (takesN k) (leavesN k) != 0) = true) (w : World) (ht : Tabs w G) (hp : PU w G i D l) :
    Calls Tryd.prog 21 #[.int .i64 k, .pointer (some ⟨D, 0, none⟩), .pointer (some R), .pointer (some M)] w fun e w' => e = .returned (.int .i64 (needF l.length (takesN k) (leavesN k))) ∧ ∃ G', Adv (fun _ => False) w G w' G' := by
  have b1 := takes_le k hk
  have b2 := leaves_le k hk
  have HPL := Lib.hid hpl
  have HT := Lib.hid ht
  have HP := Lib.hid hp
  have HCL := Lib.hid hcl
  clear ht hp hcl hpl
  obtain ⟨F, hF⟩ : ∃ F, F = needF l.length (takesN k) (leavesN k) := ⟨_, rfl⟩
  rw [← hF] at hneed ⊢
  have HF := Lib.hid hF
  clear hF
  go_enter Tryd.func21, Tryd.ntmps21
  go_wp2_with fail
  refine (plain_any k _).mono ?_
  rintro e w' ⟨rfl, rfl⟩
  rw [HPL.out]
  go_wp2_with fail
  refine (entry_any G k hk f Cl hd HCL.out _ HT.out).mono ?_
  rintro e w1 ⟨c, G1, rfl, ha1, hc1⟩
  unfold entryV
  have HA2 := Lib.hid (ha1.alloc (.cells #[.int .i64 k, .string (nameB k), .int .i64 (takesN k), .int .i64 (leavesN k), .int .i64 (costsN k), .bool (operandB k), .func (.func f) #[] c] 117) 1000)
  have HP2 := Lib.hid (HP.out.adv HA2.out id)
  clear ha1 hc1
  go_wp2_with fail
  refine (needPU _ i D l (takesN k) (leavesN k) _ HP2.out (by omega) (by omega) (by omega)).mono ?_
  rintro e w' ⟨rfl, rfl⟩
  rw [← HF.out]
  go_wp2_with fail
  go_ret
  exact ⟨rfl, _, HA2.out⟩
set_option maxRecDepth 100000 in
/-- The return stack does not hold what the primitive looks at. -/
theorem do_looks (G : Nat → Nat) (k : Nat) (hk : k < 64) (hpl : plainB k = true) (f : Nat) (Cl : World → (Nat → Nat) → Array Value → Prop) (hd : DoesIs k f Cl) (hcl : Keeps Cl)
    (i j D R : Nat) (M : Addr) (l : List Int) (rl : List (Int × Int)) (hl : l.length ≤ 256) (hrl : rl.length ≤ 128) (hneed : needF l.length (takesN k) (leavesN k) = 0) (hlooks : (looksF k rl != 0) = true) (w : World) (ht : Tabs w G) (hp : PU w G i D l) (hr : PR w G j R rl) :
    Calls Tryd.prog 21 #[.int .i64 k, .pointer (some ⟨D, 0, none⟩), .pointer (some ⟨R, 0, none⟩), .pointer (some M)] w fun e w' => e = .returned (.int .i64 (looksF k rl)) ∧ ∃ G', Adv (fun _ => False) w G w' G' := by
  have b1 := takes_le k hk
  have b2 := leaves_le k hk
  have HPL := Lib.hid hpl
  have HT := Lib.hid ht
  have HP := Lib.hid hp
  have HR := Lib.hid hr
  have HN := Lib.hid hneed
  have HCL := Lib.hid hcl
  clear ht hp hr hcl hpl hneed
  obtain ⟨F, hF⟩ : ∃ F, F = looksF k rl := ⟨_, rfl⟩
  rw [← hF] at hlooks ⊢
  have HF := Lib.hid hF
  clear hF
  go_enter Tryd.func21, Tryd.ntmps21
  go_wp2_with fail
  refine (plain_any k _).mono ?_
  rintro e w' ⟨rfl, rfl⟩
  rw [HPL.out]
  go_wp2_with fail
  refine (entry_any G k hk f Cl hd HCL.out _ HT.out).mono ?_
  rintro e w1 ⟨c, G1, rfl, ha1, hc1⟩
  unfold entryV
  have HA2 := Lib.hid (ha1.alloc (.cells #[.int .i64 k, .string (nameB k), .int .i64 (takesN k), .int .i64 (leavesN k), .int .i64 (costsN k), .bool (operandB k), .func (.func f) #[] c] 117) 1000)
  have HP2 := Lib.hid (HP.out.adv HA2.out id)
  have HR2 := Lib.hid (HR.out.adv HA2.out id)
  clear ha1 hc1
  go_wp2_with fail
  refine (needPU _ i D l (takesN k) (leavesN k) _ HP2.out (by omega) (by omega) (by omega)).mono ?_
  rintro e w' ⟨rfl, rfl⟩
  rw [HN.out]
  go_wp2_with fail
  refine (looks_any _ j R rl k _ HR2.out (by omega)).mono ?_
  rintro e w' ⟨rfl, d, rfl⟩
  rw [← HF.out]
  go_wp2_with fail
  go_ret
  exact ⟨rfl, _, HA2.out.drewN d⟩
set_option maxRecDepth 100000 in
/-- No room on the return stack. -/
theorem do_full (G : Nat → Nat) (k : Nat) (hk : k < 64) (hpl : plainB k = true) (f : Nat) (Cl : World → (Nat → Nat) → Array Value → Prop) (hd : DoesIs k f Cl) (hcl : Keeps Cl)
    (i j D R : Nat) (M : Addr) (l : List Int) (rl : List (Int × Int)) (hl : l.length ≤ 256) (hrl : rl.length ≤ 128) (hneed : needF l.length (takesN k) (leavesN k) = 0) (hlooks : looksF k rl = 0) (hadds : 128 < (rl.length : Int) + addsF k) (w : World) (ht : Tabs w G) (hp : PU w G i D l) (hr : PR w G j R rl) :
    Calls Tryd.prog 21 #[.int .i64 k, .pointer (some ⟨D, 0, none⟩), .pointer (some ⟨R, 0, none⟩), .pointer (some M)] w fun e w' => e = .returned (.int .i64 4) ∧ ∃ G', Adv (fun _ => False) w G w' G' := by
  have b1 := takes_le k hk
  have b2 := leaves_le k hk
  have HPL := Lib.hid hpl
  have HT := Lib.hid ht
  have HP := Lib.hid hp
  have HR := Lib.hid hr
  have HN := Lib.hid hneed
  have HL := Lib.hid hlooks
  have HAD := Lib.hid hadds
  have HCL := Lib.hid hcl
  clear ht hp hr hcl hpl hneed hlooks hadds
  go_enter Tryd.func21, Tryd.ntmps21
  go_wp2_with fail
  refine (plain_any k _).mono ?_
  rintro e w' ⟨rfl, rfl⟩
  rw [HPL.out]
  go_wp2_with fail
  refine (entry_any G k hk f Cl hd HCL.out _ HT.out).mono ?_
  rintro e w1 ⟨c, G1, rfl, ha1, hc1⟩
  unfold entryV
  have HA2 := Lib.hid (ha1.alloc (.cells #[.int .i64 k, .string (nameB k), .int .i64 (takesN k), .int .i64 (leavesN k), .int .i64 (costsN k), .bool (operandB k), .func (.func f) #[] c] 117) 1000)
  have HP2 := Lib.hid (HP.out.adv HA2.out id)
  have HR2 := Lib.hid (HR.out.adv HA2.out id)
  clear ha1 hc1
  go_wp2_with fail
  refine (needPU _ i D l (takesN k) (leavesN k) _ HP2.out (by omega) (by omega) (by omega)).mono ?_
  rintro e w' ⟨rfl, rfl⟩
  rw [HN.out]
  go_wp2_with fail
  refine (looks_any _ j R rl k _ HR2.out (by omega)).mono ?_
  rintro e w' ⟨rfl, d, rfl⟩
  rw [HL.out]
  go_wp2_with fail
  refine (lenPR _ j R rl _ (HR2.out.drewN d)).mono ?_
  rintro e w' ⟨rfl, rfl⟩
  go_wp2_with fail
  refine (adds_any k _).mono ?_
  rintro e w' ⟨rfl, rfl⟩
  have hadd := HAD.out
  have hadd0 : 0 ≤ addsF k ∧ addsF k ≤ 2 := by unfold addsF; constructor <;> (repeat' split) <;> omega
  have hgt : decide (128 < (rl.length : Int) + addsF k) = true := by simp; omega
  go_wp2_with fail
  go_ret
  exact ⟨rfl, _, HA2.out.drewN d⟩
set_option maxRecDepth 100000 in
/-- No plain primitive, whatever the stacks. -/
theorem do_odd (x : Int) (hpl : plainB x = false) (d r m : Value) (w : World) :
    Calls Tryd.prog 21 #[.int .i64 x, d, r, m] w fun e w' => e = .returned (.int .i64 6) ∧ w = w' := by
  have HPL := Lib.hid hpl
  clear hpl
  go_enter Tryd.func21, Tryd.ntmps21
  go_wp2_with fail
  refine (plain_any x _).mono ?_
  rintro e w' ⟨rfl, rfl⟩
  rw [HPL.out]
  go_wp2_with fail
  go_ret
  exact ⟨rfl, rfl⟩
end Go.Proofs.YtdnalhjdmlkbmaaDoor
namespace Go.Proofs.YtdnalhjdmlkbmaaDoor
open Go.RowKit

def shufP (k : Nat) : List Nat :=
  match k with
  | 12 => [0, 0] | 14 => [1, 0] | 15 => [0, 1, 0] | 16 => [1, 2, 0] | 17 => [1] | 18 => [1, 0, 1] | 19 => [0, 1, 0, 1] | _ => []
/-- What a plain primitive does with the cells x that it has taken, b those below. -/
def actF (k : Nat) (b x : List Int) (r : List (Int × Int)) (m : MemS) : List Int × List (Int × Int) × MemS :=
  match k with
  | 6 => (b, r ++ [(2, x.getD 0 0), (3, x.getD 1 0)], m)
  | 9 => (b, r, m)
  | 12 => (b ++ picks x (shufP 12), r, m)
  | 13 => (b ++ picks x (shufP 13), r, m)
  | 14 => (b ++ picks x (shufP 14), r, m)
  | 15 => (b ++ picks x (shufP 15), r, m)
  | 16 => (b ++ picks x (shufP 16), r, m)
  | 17 => (b ++ picks x (shufP 17), r, m)
  | 18 => (b ++ picks x (shufP 18), r, m)
  | 19 => (b ++ picks x (shufP 19), r, m)
  | 20 => (b ++ picks x (shufP 20), r, m)
  | 21 => (b ++ [binF 21 (x.getD 0 0) (x.getD 1 0)], r, m)
  | 22 => (b ++ [binF 22 (x.getD 0 0) (x.getD 1 0)], r, m)
  | 23 => (b ++ [binF 23 (x.getD 0 0) (x.getD 1 0)], r, m)
  | 24 => (b ++ [binF 24 (x.getD 0 0) (x.getD 1 0)], r, m)
  | 25 => (b ++ [binF 25 (x.getD 0 0) (x.getD 1 0)], r, m)
  | 26 => (b ++ [binF 26 (x.getD 0 0) (x.getD 1 0)], r, m)
  | 27 => (b ++ [binF 27 (x.getD 0 0) (x.getD 1 0)], r, m)
  | 28 => (b ++ [unF 28 (x.getD 0 0)], r, m)
  | 29 => (b ++ [unF 29 (x.getD 0 0)], r, m)
  | 30 => (b ++ [binF 30 (x.getD 0 0) (x.getD 1 0)], r, m)
  | 31 => (b ++ [binF 31 (x.getD 0 0) (x.getD 1 0)], r, m)
  | 32 => (b ++ [unF 32 (x.getD 0 0)], r, m)
  | 33 => (b ++ [unF 33 (x.getD 0 0)], r, m)
  | 34 => (b ++ [unF 34 (x.getD 0 0)], r, m)
  | 35 => (b ++ [unF 35 (x.getD 0 0)], r, m)
  | 36 => (b ++ [binF 36 (x.getD 0 0) (x.getD 1 0)], r, m)
  | 37 => (b ++ [binF 37 (x.getD 0 0) (x.getD 1 0)], r, m)
  | 38 => (b ++ [binF 38 (x.getD 0 0) (x.getD 1 0)], r, m)
  | 39 => (b ++ [unF 39 (x.getD 0 0)], r, m)
  | 40 => (b ++ [binF 40 (x.getD 0 0) (x.getD 1 0)], r, m)
  | 41 => (b ++ [binF 41 (x.getD 0 0) (x.getD 1 0)], r, m)
  | 42 => (b ++ [binF 42 (x.getD 0 0) (x.getD 1 0)], r, m)
  | 43 => (b ++ [binF 43 (x.getD 0 0) (x.getD 1 0)], r, m)
  | 44 => (b ++ [binF 44 (x.getD 0 0) (x.getD 1 0)], r, m)
  | 45 => (b ++ [binF 45 (x.getD 0 0) (x.getD 1 0)], r, m)
  | 46 => (b ++ [binF 46 (x.getD 0 0) (x.getD 1 0)], r, m)
  | 47 => (b ++ [binF 47 (x.getD 0 0) (x.getD 1 0)], r, m)
  | 48 => (b ++ [unF 48 (x.getD 0 0)], r, m)
  | 49 => (b ++ [unF 49 (x.getD 0 0)], r, m)
  | 50 => (b ++ [cellF m (x.getD 0 0)], r, m)
  | 51 => (b, r, setCellF m (x.getD 1 0) (x.getD 0 0))
  | 52 => (b ++ [loadF m (x.getD 0 0)], r, m)
  | 53 => (b, r, storeF m (x.getD 1 0) (x.getD 0 0 % 256))
  | 54 => (b, r, setCellF m (x.getD 1 0) ((cellF m (x.getD 1 0) + x.getD 0 0) % 65536))
  | 55 => (b, r ++ [(4, x.getD 0 0)], m)
  | 56 => (b ++ [atV r 0 4], r.dropLast, m)
  | 57 => (b ++ [atV r 0 4], r, m)
  | 58 => (b ++ [atV r 0 3], r, m)
  | 59 => (b ++ [atV r 2 3], r, m)
  | 60 => (b, r, plotF m (x.getD 0 0) (x.getD 1 0) (x.getD 2 0))
  | 61 => (b ++ [m.pad], r, m)
  | 62 => (b, r, playF m (x.getD 0 0) (x.getD 1 0 % 256))
  | 63 => (b, r, storeF m 65280 (x.getD 0 0 % 256))
  | _ => (b, r, m)
/-- The fault of a primitive; 0: there is none. -/
def faultF (k : Nat) (d : List Int) (r : List (Int × Int)) : Int :=
  if needF d.length (takesN k) (leavesN k) ≠ 0 then needF d.length (takesN k) (leavesN k)
  else if looksF k r ≠ 0 then looksF k r else if 128 < (r.length : Int) + addsF k then 4 else 0
/-- Do, of a plain primitive. -/
def doF (k : Nat) (d : List Int) (r : List (Int × Int)) (m : MemS) : List Int × List (Int × Int) × MemS :=
  if faultF k d r ≠ 0 then (d, r, m) else actF k (d.take (d.length - (takesN k).toNat)) (d.drop (d.length - (takesN k).toNat)) r m
/-- Stacks and a memory that may be. -/
structure Good3 (d : List Int) (r : List (Int × Int)) (m : MemS) : Prop where
  d16 : D16 d
  r16 : R16 r
  dl : d.length ≤ 256
  rl : r.length ≤ 128
  mo : MemOk m
  mr : MemR m
theorem needF_ok {d : List Int} {p q : Int} (h : needF d.length p q = 0) (hp : 0 ≤ p) (hq : 0 ≤ q) : p ≤ d.length ∧ (d.length : Int) - p + q ≤ 256 := by
  unfold needF at h
  split at h
  · exact absurd h (by decide)
  · split at h
    · exact absurd h (by decide)
    · omega
theorem takes_len {d : List Int} {k : Nat} (hk : k < 64) (h : needF d.length (takesN k) (leavesN k) = 0) : (d.drop (d.length - (takesN k).toNat)).length = (takesN k).toNat ∧ ((d.take (d.length - (takesN k).toNat)).length : Int) + leavesN k ≤ 256 := by
  have h1 := takes_le k hk
  have h2 := leaves_le k hk
  have h3 := needF_ok h h1.1 h2.1
  rw [List.length_drop, List.length_take]
  omega
theorem atV_rng {r : List (Int × Int)} (h : R16 r) (n kind : Int) : 0 ≤ atV r n kind ∧ atV r n kind < 65536 := by
  unfold atV
  repeat' split
  · rename_i h1 _
    have hl : r.length - 1 - n.toNat < r.length := by omega
    have hm : r.getD (r.length - 1 - n.toNat) (0, 0) ∈ r := by rw [List.getD_eq_getElem?_getD, List.getElem?_eq_getElem hl]; exact List.getElem_mem hl
    exact h _ hm
  · exact ⟨Int.le_refl _, by decide⟩
  · exact ⟨Int.le_refl _, by decide⟩
theorem picks_rng {t : List Int} (h : D16 t) (ps : List Nat) : D16 (picks t ps) := by
  intro x hx
  unfold picks at hx
  obtain ⟨p, _, rfl⟩ := List.mem_map.1 hx
  rw [List.getD_eq_getElem?_getD]
  cases e : t[p]? with
  | none => exact ⟨Int.le_refl _, by decide⟩
  | some y => exact h y (List.mem_of_getElem? e)
theorem D16.getD {t : List Int} (h : D16 t) (k : Nat) : 0 ≤ t.getD k 0 ∧ t.getD k 0 < 65536 := by
  rw [List.getD_eq_getElem?_getD]
  cases e : t[k]? with
  | none => exact ⟨Int.le_refl _, by decide⟩
  | some y => exact h y (List.mem_of_getElem? e)
theorem D16.take {d : List Int} (h : D16 d) (n : Nat) : D16 (d.take n) := fun x hx => h x (List.mem_of_mem_take hx)
theorem D16.drop {d : List Int} (h : D16 d) (n : Nat) : D16 (d.drop n) := fun x hx => h x (List.mem_of_mem_drop hx)
theorem R16.init {r : List (Int × Int)} (h : R16 r) : R16 r.dropLast := fun x hx => h x (List.dropLast_subset _ hx)
theorem len1 {α : Type} {x : List α} (h : x.length = 1) : ∃ a, x = [a] := by
  match x, h with
  | [a], _ => exact ⟨a, rfl⟩
theorem len2 {α : Type} {x : List α} (h : x.length = 2) : ∃ a b, x = [a, b] := by
  match x, h with
  | [a, b], _ => exact ⟨a, b, rfl⟩
theorem len3 {α : Type} {x : List α} (h : x.length = 3) : ∃ a b c, x = [a, b, c] := by
  match x, h with
  | [a, b, c], _ => exact ⟨a, b, c, rfl⟩
theorem len0 {α : Type} {x : List α} (h : x.length = 0) : x = [] := List.eq_nil_of_length_eq_zero h
end Go.Proofs.YtdnalhjdmlkbmaaDoor
namespace Go.Proofs.YtdnalhjdmlkbmaaDoor
open Go.RowKit

/-- Do of this number is doF. -/
def DoIs (k : Nat) : Prop := ∀ (G : Nat → Nat) (i j q D R M : Nat) (d : List Int) (r : List (Int × Int)) (m : MemS) (_ : Own3 i j q) (_ : Good3 d r m) (_ : m.tones.length ≤ 99999) (w : World) (_ : Tabs w G) (_ : Trio w G i j q D R M d r m),
  Calls Tryd.prog 21 #[.int .i64 k, .pointer (some ⟨D, 0, none⟩), .pointer (some ⟨R, 0, none⟩), .pointer (some ⟨M, 0, none⟩)] w
    (Left3 i j q D R M w G (doF k d r m).1 (doF k d r m).2.1 (doF k d r m).2.2 (.int .i64 (faultF k d r)))
theorem nil_r {w : World} {G : Nat → Nat} {i j q D R M : Nat} {b : List Int} {r : List (Int × Int)} {m : MemS} (h : Trio w G i j q D R M (b ++ []) r m) : Trio w G i j q D R M b r m := by rw [List.append_nil] at h; exact h
/-- What stands on top, where At found it. -/
theorem top_of {r : List (Int × Int)} {kind : Int} (h : atE r 0 kind = 0) : ∃ r0 c, r = r0 ++ [(kind, c)] ∧ atV r 0 kind = c := by
  rcases List.eq_nil_or_concat r with rfl | ⟨r0, p, rfl⟩
  · exact absurd h (by rw [(at_out (by simp)).2]; decide)
  · rw [List.concat_eq_append] at h ⊢
    have hp : (r0 ++ [p])[r0.length]? = some p := by simp
    have h1 := atE_in (l := r0 ++ [p]) (j := 0) (k := r0.length) (kind := kind) (by simp) hp
    have h2 := atV_in (l := r0 ++ [p]) (j := 0) (k := r0.length) (kind := kind) (by simp) hp
    rw [show ((0 : Nat) : Int) = 0 from rfl] at h1 h2
    by_cases e : p.1 = kind
    · rw [if_pos e] at h2
      exact ⟨r0, p.2, by rw [← e], h2⟩
    · rw [if_neg e] at h1
      rw [h1] at h; exact absurd h (by decide)
/-- What the act of a primitive's function is to be. -/
def ActIs (k f : Nat) (Cl : World → (Nat → Nat) → Array Value → Prop) : Prop := ∀ (G : Nat → Nat) (i j q K D R M : Nat) (b x : List Int) (r : List (Int × Int)) (m : MemS) (c : Array Value) (_ : Own3 i j q) (_ : D16 x) (_ : R16 r) (_ : MemOk m) (_ : MemR m) (_ : m.tones.length ≤ 99999)
  (_ : x.length = (takesN k).toNat) (_ : (b.length : Int) + leavesN k ≤ 256) (_ : r.length ≤ 128) (_ : looksF k r = 0) (_ : (r.length : Int) + addsF k ≤ 128) (w : World) (_ : Cl w G c) (_ : Trio w G i j q D R M (b ++ x) r m) (_ : Desk w G K D R (some ⟨M, 0, none⟩)),
  Calls Tryd.prog f (#[.pointer (some ⟨K, 0, none⟩)] ++ c) w (Left3 i j q D R M w G (actF k b x r m).1 (actF k b x r m).2.1 (actF k b x r m).2.2 (.tuple #[]))
theorem do_is (k : Nat) (hk : k < 64) (hpl : plainB k = true) (f : Nat) (he : ∀ (args : Array Value) (w : World), (callFunc f args).run Tryd.prog w = .ok (.enter f args) w) (Cl : World → (Nat → Nat) → Array Value → Prop) (hd : DoesIs k f Cl) (hcl : Keeps Cl) (ha : ActIs k f Cl) : DoIs k := by
  intro G i j q D R M d r m o hg hn w ht h
  have hz := o.zero
  by_cases h1 : needF d.length (takesN k) (leavesN k) = 0
  · by_cases h2 : looksF k r = 0
    · by_cases h3 : 128 < (r.length : Int) + addsF k
      · have e : faultF k d r = 4 := by unfold faultF; rw [if_neg (by simpa using h1), if_neg (by simpa using h2), if_pos h3]
        have e2 : doF k d r m = (d, r, m) := by unfold doF; rw [if_pos (by rw [e]; decide)]
        rw [e, e2]
        refine (do_full G k hk hpl f Cl hd hcl i j D R ⟨M, 0, none⟩ d r hg.dl hg.rl h1 h2 h3 w ht h.pu h.pr).mono fun e w' k => ?_
        obtain ⟨k1, G', k2⟩ := k
        exact ⟨k1, G', k2.mono fun _ h => h.elim, h.still k2⟩
      · have e : faultF k d r = 0 := by unfold faultF; rw [if_neg (by simpa using h1), if_neg (by simpa using h2), if_neg h3]
        have e2 : doF k d r m = actF k (d.take (d.length - (takesN k).toNat)) (d.drop (d.length - (takesN k).toNat)) r m := by unfold doF; rw [if_neg (by rw [e]; simp)]
        have hl := takes_len hk h1
        rw [e, e2]
        refine do_ok G k hk hpl f he Cl hd hcl i j D R ⟨M, 0, none⟩ d r o.i0 o.j0 (S3 i j q) _ hg.dl hg.rl h1 h2 (by omega) w ht h.pu h.pr ?_
        intro w1 G1 K c a1 c1 k1
        refine ha G1 i j q K D R M _ _ r m c o (hg.d16.drop _) hg.r16 hg.mo hg.mr hn hl.1 hl.2 hg.rl h2 (by omega) w1 c1 ?_ k1
        rw [List.take_append_drop]
        exact h.still a1
    · have e : faultF k d r = looksF k r := by unfold faultF; rw [if_neg (by simpa using h1), if_pos h2]
      have e2 : doF k d r m = (d, r, m) := by unfold doF; rw [if_pos (by rw [e]; exact h2)]
      rw [e, e2]
      refine (do_looks G k hk hpl f Cl hd hcl i j D R ⟨M, 0, none⟩ d r hg.dl hg.rl h1 (by simpa using h2) w ht h.pu h.pr).mono fun e w' k => ?_
      obtain ⟨k1, G', k2⟩ := k
      exact ⟨k1, G', k2.mono fun _ h => h.elim, h.still k2⟩
  · have e : faultF k d r = needF d.length (takesN k) (leavesN k) := by unfold faultF; rw [if_pos h1]
    have e2 : doF k d r m = (d, r, m) := by unfold doF; rw [if_pos (by rw [e]; exact h1)]
    rw [e, e2]
    refine (do_need G k hk hpl f Cl hd hcl i D ⟨R, 0, none⟩ ⟨M, 0, none⟩ d hg.dl (by simpa using h1) w ht h.pu).mono fun e w' k => ?_
    obtain ⟨k1, G', k2⟩ := k
    exact ⟨k1, G', k2.mono fun _ h => h.elim, h.still k2⟩

theorem act_6 : ActIs 6 106 (fun _ _ c => c = #[]) := by
  intro G i j q K D R M b x r m c o hd hr hm hR hn hx hb hl hlook hadd w hc h hk
  subst hc
  obtain ⟨x, y, rfl⟩ := len2 hx
  have h0 := hd x (by simp)
  have h1 := hd y (by simp)
  exact doDo_act x y o (by have ha' : (r.length : Int) + 2 ≤ 128 := hadd; omega) h hk
theorem do_6 : DoIs 6 := do_is 6 (by decide) (by decide) 106 (enters_of Tryd.func106 (by kernel_rfl) rfl) (fun _ _ c => c = #[]) (fun G w => (does_6 w).mono fun e w' h => ⟨#[], G, h.1, by rw [← h.2]; exact Adv.refl _ _ _, rfl⟩) (fun _ _ _ _ _ _ h _ _ => h) act_6
theorem act_9 : ActIs 9 90 (fun _ _ c => c = #[]) := by
  intro G i j q K D R M b x r m c o hd hr hm hR hn hx hb hl hlook hadd w hc h hk
  subst hc
  obtain rfl := len0 hx
  exact doNothing_act o (nil_r h) hk
theorem do_9 : DoIs 9 := do_is 9 (by decide) (by decide) 90 (enters_of Tryd.func90 (by kernel_rfl) rfl) (fun _ _ c => c = #[]) (fun G w => (does_9 w).mono fun e w' h => ⟨#[], G, h.1, by rw [← h.2]; exact Adv.refl _ _ _, rfl⟩) (fun _ _ _ _ _ _ h _ _ => h) act_9
theorem act_50 : ActIs 50 107 (fun _ _ c => c = #[]) := by
  intro G i j q K D R M b x r m c o hd hr hm hR hn hx hb hl hlook hadd w hc h hk
  subst hc
  obtain ⟨x, rfl⟩ := len1 hx
  have h0 := hd x (by simp)
  exact doFetch_act x o hm h0.1 h0.2 (by have hb' : (b.length : Int) + 1 ≤ 256 := hb; omega) h hk
theorem do_50 : DoIs 50 := do_is 50 (by decide) (by decide) 107 (enters_of Tryd.func107 (by kernel_rfl) rfl) (fun _ _ c => c = #[]) (fun G w => (does_50 w).mono fun e w' h => ⟨#[], G, h.1, by rw [← h.2]; exact Adv.refl _ _ _, rfl⟩) (fun _ _ _ _ _ _ h _ _ => h) act_50
theorem act_51 : ActIs 51 108 (fun _ _ c => c = #[]) := by
  intro G i j q K D R M b x r m c o hd hr hm hR hn hx hb hl hlook hadd w hc h hk
  subst hc
  obtain ⟨x, y, rfl⟩ := len2 hx
  have h0 := hd x (by simp)
  have h1 := hd y (by simp)
  exact doStore_act x y o hm hn h1.1 h1.2 h hk
theorem do_51 : DoIs 51 := do_is 51 (by decide) (by decide) 108 (enters_of Tryd.func108 (by kernel_rfl) rfl) (fun _ _ c => c = #[]) (fun G w => (does_51 w).mono fun e w' h => ⟨#[], G, h.1, by rw [← h.2]; exact Adv.refl _ _ _, rfl⟩) (fun _ _ _ _ _ _ h _ _ => h) act_51
theorem act_52 : ActIs 52 109 (fun _ _ c => c = #[]) := by
  intro G i j q K D R M b x r m c o hd hr hm hR hn hx hb hl hlook hadd w hc h hk
  subst hc
  obtain ⟨x, rfl⟩ := len1 hx
  have h0 := hd x (by simp)
  exact doByte_act x o hm hR h0.1 h0.2 (by have hb' : (b.length : Int) + 1 ≤ 256 := hb; omega) h hk
theorem do_52 : DoIs 52 := do_is 52 (by decide) (by decide) 109 (enters_of Tryd.func109 (by kernel_rfl) rfl) (fun _ _ c => c = #[]) (fun G w => (does_52 w).mono fun e w' h => ⟨#[], G, h.1, by rw [← h.2]; exact Adv.refl _ _ _, rfl⟩) (fun _ _ _ _ _ _ h _ _ => h) act_52
theorem act_53 : ActIs 53 110 (fun _ _ c => c = #[]) := by
  intro G i j q K D R M b x r m c o hd hr hm hR hn hx hb hl hlook hadd w hc h hk
  subst hc
  obtain ⟨x, y, rfl⟩ := len2 hx
  have h0 := hd x (by simp)
  have h1 := hd y (by simp)
  exact doPut_act x y o hm hn h1.1 h1.2 h0.1 h0.2 h hk
theorem do_53 : DoIs 53 := do_is 53 (by decide) (by decide) 110 (enters_of Tryd.func110 (by kernel_rfl) rfl) (fun _ _ c => c = #[]) (fun G w => (does_53 w).mono fun e w' h => ⟨#[], G, h.1, by rw [← h.2]; exact Adv.refl _ _ _, rfl⟩) (fun _ _ _ _ _ _ h _ _ => h) act_53
theorem act_54 : ActIs 54 111 (fun _ _ c => c = #[]) := by
  intro G i j q K D R M b x r m c o hd hr hm hR hn hx hb hl hlook hadd w hc h hk
  subst hc
  obtain ⟨x, y, rfl⟩ := len2 hx
  have h0 := hd x (by simp)
  have h1 := hd y (by simp)
  exact doMore_act x y o hm hn h1.1 h1.2 h hk
theorem do_54 : DoIs 54 := do_is 54 (by decide) (by decide) 111 (enters_of Tryd.func111 (by kernel_rfl) rfl) (fun _ _ c => c = #[]) (fun G w => (does_54 w).mono fun e w' h => ⟨#[], G, h.1, by rw [← h.2]; exact Adv.refl _ _ _, rfl⟩) (fun _ _ _ _ _ _ h _ _ => h) act_54
theorem act_55 : ActIs 55 112 (fun _ _ c => c = #[]) := by
  intro G i j q K D R M b x r m c o hd hr hm hR hn hx hb hl hlook hadd w hc h hk
  subst hc
  obtain ⟨x, rfl⟩ := len1 hx
  have h0 := hd x (by simp)
  exact doSave_act x o (by have ha' : (r.length : Int) + 1 ≤ 128 := hadd; omega) h hk
theorem do_55 : DoIs 55 := do_is 55 (by decide) (by decide) 112 (enters_of Tryd.func112 (by kernel_rfl) rfl) (fun _ _ c => c = #[]) (fun G w => (does_55 w).mono fun e w' h => ⟨#[], G, h.1, by rw [← h.2]; exact Adv.refl _ _ _, rfl⟩) (fun _ _ _ _ _ _ h _ _ => h) act_55
theorem act_56 : ActIs 56 113 (fun _ _ c => c = #[]) := by
  intro G i j q K D R M b x r m c o hd hr hm hR hn hx hb hl hlook hadd w hc h hk
  subst hc
  obtain rfl := len0 hx
  obtain ⟨r0, c, rfl, e⟩ := top_of (show atE r 0 4 = 0 from hlook)
  show Calls _ _ _ _ (Left3 _ _ _ _ _ _ _ _ (b ++ [atV (r0 ++ [(4, c)]) 0 4]) (r0 ++ [(4, c)]).dropLast m _)
  rw [e, List.dropLast_concat]
  exact doBack_act c o (by simp at hl; omega) (by have hb' : (b.length : Int) + 1 ≤ 256 := hb; omega) (nil_r h) hk
theorem do_56 : DoIs 56 := do_is 56 (by decide) (by decide) 113 (enters_of Tryd.func113 (by kernel_rfl) rfl) (fun _ _ c => c = #[]) (fun G w => (does_56 w).mono fun e w' h => ⟨#[], G, h.1, by rw [← h.2]; exact Adv.refl _ _ _, rfl⟩) (fun _ _ _ _ _ _ h _ _ => h) act_56
theorem act_57 : ActIs 57 114 (fun _ _ c => c = #[]) := by
  intro G i j q K D R M b x r m c o hd hr hm hR hn hx hb hl hlook hadd w hc h hk
  subst hc
  obtain rfl := len0 hx
  exact doSee_act o hl (by have hb' : (b.length : Int) + 1 ≤ 256 := hb; omega) (nil_r h) hk
theorem do_57 : DoIs 57 := do_is 57 (by decide) (by decide) 114 (enters_of Tryd.func114 (by kernel_rfl) rfl) (fun _ _ c => c = #[]) (fun G w => (does_57 w).mono fun e w' h => ⟨#[], G, h.1, by rw [← h.2]; exact Adv.refl _ _ _, rfl⟩) (fun _ _ _ _ _ _ h _ _ => h) act_57
theorem act_58 : ActIs 58 115 (fun _ _ c => c = #[]) := by
  intro G i j q K D R M b x r m c o hd hr hm hR hn hx hb hl hlook hadd w hc h hk
  subst hc
  obtain rfl := len0 hx
  exact doIndex_act o hl (by have hb' : (b.length : Int) + 1 ≤ 256 := hb; omega) (nil_r h) hk
theorem do_58 : DoIs 58 := do_is 58 (by decide) (by decide) 115 (enters_of Tryd.func115 (by kernel_rfl) rfl) (fun _ _ c => c = #[]) (fun G w => (does_58 w).mono fun e w' h => ⟨#[], G, h.1, by rw [← h.2]; exact Adv.refl _ _ _, rfl⟩) (fun _ _ _ _ _ _ h _ _ => h) act_58
theorem act_59 : ActIs 59 116 (fun _ _ c => c = #[]) := by
  intro G i j q K D R M b x r m c o hd hr hm hR hn hx hb hl hlook hadd w hc h hk
  subst hc
  obtain rfl := len0 hx
  exact doOuter_act o hl (by have hb' : (b.length : Int) + 1 ≤ 256 := hb; omega) (nil_r h) hk
theorem do_59 : DoIs 59 := do_is 59 (by decide) (by decide) 116 (enters_of Tryd.func116 (by kernel_rfl) rfl) (fun _ _ c => c = #[]) (fun G w => (does_59 w).mono fun e w' h => ⟨#[], G, h.1, by rw [← h.2]; exact Adv.refl _ _ _, rfl⟩) (fun _ _ _ _ _ _ h _ _ => h) act_59
theorem act_60 : ActIs 60 117 (fun _ _ c => c = #[]) := by
  intro G i j q K D R M b x r m c o hd hr hm hR hn hx hb hl hlook hadd w hc h hk
  subst hc
  obtain ⟨x, y, z, rfl⟩ := len3 hx
  have h0 := hd x (by simp)
  have h1 := hd y (by simp)
  have h2 := hd z (by simp)
  exact doPlot_act x y z o hm hn h0.1 h1.1 h2.1 h2.2 h hk
theorem do_60 : DoIs 60 := do_is 60 (by decide) (by decide) 117 (enters_of Tryd.func117 (by kernel_rfl) rfl) (fun _ _ c => c = #[]) (fun G w => (does_60 w).mono fun e w' h => ⟨#[], G, h.1, by rw [← h.2]; exact Adv.refl _ _ _, rfl⟩) (fun _ _ _ _ _ _ h _ _ => h) act_60
theorem act_61 : ActIs 61 118 (fun _ _ c => c = #[]) := by
  intro G i j q K D R M b x r m c o hd hr hm hR hn hx hb hl hlook hadd w hc h hk
  subst hc
  obtain rfl := len0 hx
  exact doPad_act o hm hR (by have hb' : (b.length : Int) + 1 ≤ 256 := hb; omega) (nil_r h) hk
theorem do_61 : DoIs 61 := do_is 61 (by decide) (by decide) 118 (enters_of Tryd.func118 (by kernel_rfl) rfl) (fun _ _ c => c = #[]) (fun G w => (does_61 w).mono fun e w' h => ⟨#[], G, h.1, by rw [← h.2]; exact Adv.refl _ _ _, rfl⟩) (fun _ _ _ _ _ _ h _ _ => h) act_61
theorem act_62 : ActIs 62 119 (fun _ _ c => c = #[]) := by
  intro G i j q K D R M b x r m c o hd hr hm hR hn hx hb hl hlook hadd w hc h hk
  subst hc
  obtain ⟨x, y, rfl⟩ := len2 hx
  have h0 := hd x (by simp)
  have h1 := hd y (by simp)
  exact doTone_act x y o hm hn h0.1 h0.2 h1.1 h1.2 h hk
theorem do_62 : DoIs 62 := do_is 62 (by decide) (by decide) 119 (enters_of Tryd.func119 (by kernel_rfl) rfl) (fun _ _ c => c = #[]) (fun G w => (does_62 w).mono fun e w' h => ⟨#[], G, h.1, by rw [← h.2]; exact Adv.refl _ _ _, rfl⟩) (fun _ _ _ _ _ _ h _ _ => h) act_62
theorem act_63 : ActIs 63 120 (fun _ _ c => c = #[]) := by
  intro G i j q K D R M b x r m c o hd hr hm hR hn hx hb hl hlook hadd w hc h hk
  subst hc
  obtain ⟨x, rfl⟩ := len1 hx
  have h0 := hd x (by simp)
  exact doBank_act x o hm hn h0.1 h0.2 h hk
theorem do_63 : DoIs 63 := do_is 63 (by decide) (by decide) 120 (enters_of Tryd.func120 (by kernel_rfl) rfl) (fun _ _ c => c = #[]) (fun G w => (does_63 w).mono fun e w' h => ⟨#[], G, h.1, by rw [← h.2]; exact Adv.refl _ _ _, rfl⟩) (fun _ _ _ _ _ _ h _ _ => h) act_63
theorem act_12 : ActIs 12 104 (ShufCl 1 [0, 0]) := by
  intro G i j q K D R M b x r m c o hd hr hm hR hn hx hb hl hlook hadd w hc h hk
  exact shuf_act 1 [0, 0] x c hx (by decide) (by decide) (by decide) o (by have hb' : (b.length : Int) + 2 ≤ 256 := hb; simp; omega) hc h hk
theorem do_12 : DoIs 12 := do_is 12 (by decide) (by decide) 104 (enters_of Tryd.func104 (by kernel_rfl) rfl) (ShufCl 1 [0, 0]) (shuf_is 12 1 [0, 0] does_12) (shuf_keeps 1 [0, 0]) act_12
theorem act_13 : ActIs 13 104 (ShufCl 1 []) := by
  intro G i j q K D R M b x r m c o hd hr hm hR hn hx hb hl hlook hadd w hc h hk
  exact shuf_act 1 [] x c hx (by decide) (by decide) (by decide) o (by have hb' : (b.length : Int) + 0 ≤ 256 := hb; simp; omega) hc h hk
theorem do_13 : DoIs 13 := do_is 13 (by decide) (by decide) 104 (enters_of Tryd.func104 (by kernel_rfl) rfl) (ShufCl 1 []) (shuf_is 13 1 [] does_13) (shuf_keeps 1 []) act_13
theorem act_14 : ActIs 14 104 (ShufCl 2 [1, 0]) := by
  intro G i j q K D R M b x r m c o hd hr hm hR hn hx hb hl hlook hadd w hc h hk
  exact shuf_act 2 [1, 0] x c hx (by decide) (by decide) (by decide) o (by have hb' : (b.length : Int) + 2 ≤ 256 := hb; simp; omega) hc h hk
theorem do_14 : DoIs 14 := do_is 14 (by decide) (by decide) 104 (enters_of Tryd.func104 (by kernel_rfl) rfl) (ShufCl 2 [1, 0]) (shuf_is 14 2 [1, 0] does_14) (shuf_keeps 2 [1, 0]) act_14
theorem act_15 : ActIs 15 104 (ShufCl 2 [0, 1, 0]) := by
  intro G i j q K D R M b x r m c o hd hr hm hR hn hx hb hl hlook hadd w hc h hk
  exact shuf_act 2 [0, 1, 0] x c hx (by decide) (by decide) (by decide) o (by have hb' : (b.length : Int) + 3 ≤ 256 := hb; simp; omega) hc h hk
theorem do_15 : DoIs 15 := do_is 15 (by decide) (by decide) 104 (enters_of Tryd.func104 (by kernel_rfl) rfl) (ShufCl 2 [0, 1, 0]) (shuf_is 15 2 [0, 1, 0] does_15) (shuf_keeps 2 [0, 1, 0]) act_15
theorem act_16 : ActIs 16 104 (ShufCl 3 [1, 2, 0]) := by
  intro G i j q K D R M b x r m c o hd hr hm hR hn hx hb hl hlook hadd w hc h hk
  exact shuf_act 3 [1, 2, 0] x c hx (by decide) (by decide) (by decide) o (by have hb' : (b.length : Int) + 3 ≤ 256 := hb; simp; omega) hc h hk
theorem do_16 : DoIs 16 := do_is 16 (by decide) (by decide) 104 (enters_of Tryd.func104 (by kernel_rfl) rfl) (ShufCl 3 [1, 2, 0]) (shuf_is 16 3 [1, 2, 0] does_16) (shuf_keeps 3 [1, 2, 0]) act_16
theorem act_17 : ActIs 17 104 (ShufCl 2 [1]) := by
  intro G i j q K D R M b x r m c o hd hr hm hR hn hx hb hl hlook hadd w hc h hk
  exact shuf_act 2 [1] x c hx (by decide) (by decide) (by decide) o (by have hb' : (b.length : Int) + 1 ≤ 256 := hb; simp; omega) hc h hk
theorem do_17 : DoIs 17 := do_is 17 (by decide) (by decide) 104 (enters_of Tryd.func104 (by kernel_rfl) rfl) (ShufCl 2 [1]) (shuf_is 17 2 [1] does_17) (shuf_keeps 2 [1]) act_17
theorem act_18 : ActIs 18 104 (ShufCl 2 [1, 0, 1]) := by
  intro G i j q K D R M b x r m c o hd hr hm hR hn hx hb hl hlook hadd w hc h hk
  exact shuf_act 2 [1, 0, 1] x c hx (by decide) (by decide) (by decide) o (by have hb' : (b.length : Int) + 3 ≤ 256 := hb; simp; omega) hc h hk
theorem do_18 : DoIs 18 := do_is 18 (by decide) (by decide) 104 (enters_of Tryd.func104 (by kernel_rfl) rfl) (ShufCl 2 [1, 0, 1]) (shuf_is 18 2 [1, 0, 1] does_18) (shuf_keeps 2 [1, 0, 1]) act_18
theorem act_19 : ActIs 19 104 (ShufCl 2 [0, 1, 0, 1]) := by
  intro G i j q K D R M b x r m c o hd hr hm hR hn hx hb hl hlook hadd w hc h hk
  exact shuf_act 2 [0, 1, 0, 1] x c hx (by decide) (by decide) (by decide) o (by have hb' : (b.length : Int) + 4 ≤ 256 := hb; simp; omega) hc h hk
theorem do_19 : DoIs 19 := do_is 19 (by decide) (by decide) 104 (enters_of Tryd.func104 (by kernel_rfl) rfl) (ShufCl 2 [0, 1, 0, 1]) (shuf_is 19 2 [0, 1, 0, 1] does_19) (shuf_keeps 2 [0, 1, 0, 1]) act_19
theorem act_20 : ActIs 20 104 (ShufCl 2 []) := by
  intro G i j q K D R M b x r m c o hd hr hm hR hn hx hb hl hlook hadd w hc h hk
  exact shuf_act 2 [] x c hx (by decide) (by decide) (by decide) o (by have hb' : (b.length : Int) + 0 ≤ 256 := hb; simp; omega) hc h hk
theorem do_20 : DoIs 20 := do_is 20 (by decide) (by decide) 104 (enters_of Tryd.func104 (by kernel_rfl) rfl) (ShufCl 2 []) (shuf_is 20 2 [] does_20) (shuf_keeps 2 []) act_20
theorem act_28 : ActIs 28 100 (OpCl 28) := by
  intro G i j q K D R M b x r m c o hd hr hm hR hn hx hb hl hlook hadd w hc h hk
  obtain ⟨x, rfl⟩ := len1 hx
  have h0 := hd x (by simp)
  obtain ⟨B, rfl, hB, hG⟩ := hc
  exact one_act 28 x (unF 28 x) B (fun w => unary_28 x h0.1 h0.2 w) o (by have hb' : (b.length : Int) + 1 ≤ 256 := hb; omega) hB hG h hk
theorem do_28 : DoIs 28 := do_is 28 (by decide) (by decide) 100 (enters_of Tryd.func100 (by kernel_rfl) rfl) (OpCl 28) does_28 (op_keeps 28) act_28
theorem act_29 : ActIs 29 100 (OpCl 29) := by
  intro G i j q K D R M b x r m c o hd hr hm hR hn hx hb hl hlook hadd w hc h hk
  obtain ⟨x, rfl⟩ := len1 hx
  have h0 := hd x (by simp)
  obtain ⟨B, rfl, hB, hG⟩ := hc
  exact one_act 29 x (unF 29 x) B (fun w => unary_29 x h0.1 h0.2 w) o (by have hb' : (b.length : Int) + 1 ≤ 256 := hb; omega) hB hG h hk
theorem do_29 : DoIs 29 := do_is 29 (by decide) (by decide) 100 (enters_of Tryd.func100 (by kernel_rfl) rfl) (OpCl 29) does_29 (op_keeps 29) act_29
theorem act_32 : ActIs 32 100 (OpCl 32) := by
  intro G i j q K D R M b x r m c o hd hr hm hR hn hx hb hl hlook hadd w hc h hk
  obtain ⟨x, rfl⟩ := len1 hx
  have h0 := hd x (by simp)
  obtain ⟨B, rfl, hB, hG⟩ := hc
  exact one_act 32 x (unF 32 x) B (fun w => unary_32 x h0.1 h0.2 w) o (by have hb' : (b.length : Int) + 1 ≤ 256 := hb; omega) hB hG h hk
theorem do_32 : DoIs 32 := do_is 32 (by decide) (by decide) 100 (enters_of Tryd.func100 (by kernel_rfl) rfl) (OpCl 32) does_32 (op_keeps 32) act_32
theorem act_33 : ActIs 33 100 (OpCl 33) := by
  intro G i j q K D R M b x r m c o hd hr hm hR hn hx hb hl hlook hadd w hc h hk
  obtain ⟨x, rfl⟩ := len1 hx
  have h0 := hd x (by simp)
  obtain ⟨B, rfl, hB, hG⟩ := hc
  exact one_act 33 x (unF 33 x) B (fun w => unary_33 x h0.1 h0.2 w) o (by have hb' : (b.length : Int) + 1 ≤ 256 := hb; omega) hB hG h hk
theorem do_33 : DoIs 33 := do_is 33 (by decide) (by decide) 100 (enters_of Tryd.func100 (by kernel_rfl) rfl) (OpCl 33) does_33 (op_keeps 33) act_33
theorem act_34 : ActIs 34 100 (OpCl 34) := by
  intro G i j q K D R M b x r m c o hd hr hm hR hn hx hb hl hlook hadd w hc h hk
  obtain ⟨x, rfl⟩ := len1 hx
  have h0 := hd x (by simp)
  obtain ⟨B, rfl, hB, hG⟩ := hc
  exact one_act 34 x (unF 34 x) B (fun w => unary_34 x h0.1 h0.2 w) o (by have hb' : (b.length : Int) + 1 ≤ 256 := hb; omega) hB hG h hk
theorem do_34 : DoIs 34 := do_is 34 (by decide) (by decide) 100 (enters_of Tryd.func100 (by kernel_rfl) rfl) (OpCl 34) does_34 (op_keeps 34) act_34
theorem act_35 : ActIs 35 100 (OpCl 35) := by
  intro G i j q K D R M b x r m c o hd hr hm hR hn hx hb hl hlook hadd w hc h hk
  obtain ⟨x, rfl⟩ := len1 hx
  have h0 := hd x (by simp)
  obtain ⟨B, rfl, hB, hG⟩ := hc
  exact one_act 35 x (unF 35 x) B (fun w => unary_35 x h0.1 h0.2 w) o (by have hb' : (b.length : Int) + 1 ≤ 256 := hb; omega) hB hG h hk
theorem do_35 : DoIs 35 := do_is 35 (by decide) (by decide) 100 (enters_of Tryd.func100 (by kernel_rfl) rfl) (OpCl 35) does_35 (op_keeps 35) act_35
theorem act_39 : ActIs 39 100 (OpCl 39) := by
  intro G i j q K D R M b x r m c o hd hr hm hR hn hx hb hl hlook hadd w hc h hk
  obtain ⟨x, rfl⟩ := len1 hx
  have h0 := hd x (by simp)
  obtain ⟨B, rfl, hB, hG⟩ := hc
  exact one_act 39 x (unF 39 x) B (fun w => unary_39 x h0.1 h0.2 w) o (by have hb' : (b.length : Int) + 1 ≤ 256 := hb; omega) hB hG h hk
theorem do_39 : DoIs 39 := do_is 39 (by decide) (by decide) 100 (enters_of Tryd.func100 (by kernel_rfl) rfl) (OpCl 39) does_39 (op_keeps 39) act_39
theorem act_48 : ActIs 48 100 (OpCl 48) := by
  intro G i j q K D R M b x r m c o hd hr hm hR hn hx hb hl hlook hadd w hc h hk
  obtain ⟨x, rfl⟩ := len1 hx
  have h0 := hd x (by simp)
  obtain ⟨B, rfl, hB, hG⟩ := hc
  exact one_act 48 x (unF 48 x) B (fun w => unary_48 x h0.1 h0.2 w) o (by have hb' : (b.length : Int) + 1 ≤ 256 := hb; omega) hB hG h hk
theorem do_48 : DoIs 48 := do_is 48 (by decide) (by decide) 100 (enters_of Tryd.func100 (by kernel_rfl) rfl) (OpCl 48) does_48 (op_keeps 48) act_48
theorem act_49 : ActIs 49 100 (OpCl 49) := by
  intro G i j q K D R M b x r m c o hd hr hm hR hn hx hb hl hlook hadd w hc h hk
  obtain ⟨x, rfl⟩ := len1 hx
  have h0 := hd x (by simp)
  obtain ⟨B, rfl, hB, hG⟩ := hc
  exact one_act 49 x (unF 49 x) B (fun w => unary_49 x h0.1 h0.2 w) o (by have hb' : (b.length : Int) + 1 ≤ 256 := hb; omega) hB hG h hk
theorem do_49 : DoIs 49 := do_is 49 (by decide) (by decide) 100 (enters_of Tryd.func100 (by kernel_rfl) rfl) (OpCl 49) does_49 (op_keeps 49) act_49
theorem act_21 : ActIs 21 103 (OpCl 21) := by
  intro G i j q K D R M b x r m c o hd hr hm hR hn hx hb hl hlook hadd w hc h hk
  obtain ⟨x, y, rfl⟩ := len2 hx
  have h0 := hd x (by simp)
  have h1 := hd y (by simp)
  obtain ⟨B, rfl, hB, hG⟩ := hc
  exact two_act 21 x y (binF 21 x y) B (fun w => binary_21 x y h0.1 h0.2 h1.1 h1.2 w) o (by have hb' : (b.length : Int) + 1 ≤ 256 := hb; omega) hB hG h hk
theorem do_21 : DoIs 21 := do_is 21 (by decide) (by decide) 103 (enters_of Tryd.func103 (by kernel_rfl) rfl) (OpCl 21) does_21 (op_keeps 21) act_21
theorem act_22 : ActIs 22 103 (OpCl 22) := by
  intro G i j q K D R M b x r m c o hd hr hm hR hn hx hb hl hlook hadd w hc h hk
  obtain ⟨x, y, rfl⟩ := len2 hx
  have h0 := hd x (by simp)
  have h1 := hd y (by simp)
  obtain ⟨B, rfl, hB, hG⟩ := hc
  exact two_act 22 x y (binF 22 x y) B (fun w => binary_22 x y h0.1 h0.2 h1.1 h1.2 w) o (by have hb' : (b.length : Int) + 1 ≤ 256 := hb; omega) hB hG h hk
theorem do_22 : DoIs 22 := do_is 22 (by decide) (by decide) 103 (enters_of Tryd.func103 (by kernel_rfl) rfl) (OpCl 22) does_22 (op_keeps 22) act_22
theorem act_23 : ActIs 23 103 (OpCl 23) := by
  intro G i j q K D R M b x r m c o hd hr hm hR hn hx hb hl hlook hadd w hc h hk
  obtain ⟨x, y, rfl⟩ := len2 hx
  have h0 := hd x (by simp)
  have h1 := hd y (by simp)
  obtain ⟨B, rfl, hB, hG⟩ := hc
  exact two_act 23 x y (binF 23 x y) B (fun w => binary_23 x y h0.1 h0.2 h1.1 h1.2 w) o (by have hb' : (b.length : Int) + 1 ≤ 256 := hb; omega) hB hG h hk
theorem do_23 : DoIs 23 := do_is 23 (by decide) (by decide) 103 (enters_of Tryd.func103 (by kernel_rfl) rfl) (OpCl 23) does_23 (op_keeps 23) act_23
theorem act_24 : ActIs 24 103 (OpCl 24) := by
  intro G i j q K D R M b x r m c o hd hr hm hR hn hx hb hl hlook hadd w hc h hk
  obtain ⟨x, y, rfl⟩ := len2 hx
  have h0 := hd x (by simp)
  have h1 := hd y (by simp)
  obtain ⟨B, rfl, hB, hG⟩ := hc
  exact two_act 24 x y (binF 24 x y) B (fun w => binary_24 x y h0.1 h0.2 h1.1 h1.2 w) o (by have hb' : (b.length : Int) + 1 ≤ 256 := hb; omega) hB hG h hk
theorem do_24 : DoIs 24 := do_is 24 (by decide) (by decide) 103 (enters_of Tryd.func103 (by kernel_rfl) rfl) (OpCl 24) does_24 (op_keeps 24) act_24
theorem act_25 : ActIs 25 103 (OpCl 25) := by
  intro G i j q K D R M b x r m c o hd hr hm hR hn hx hb hl hlook hadd w hc h hk
  obtain ⟨x, y, rfl⟩ := len2 hx
  have h0 := hd x (by simp)
  have h1 := hd y (by simp)
  obtain ⟨B, rfl, hB, hG⟩ := hc
  exact two_act 25 x y (binF 25 x y) B (fun w => binary_25 x y h0.1 h0.2 h1.1 h1.2 w) o (by have hb' : (b.length : Int) + 1 ≤ 256 := hb; omega) hB hG h hk
theorem do_25 : DoIs 25 := do_is 25 (by decide) (by decide) 103 (enters_of Tryd.func103 (by kernel_rfl) rfl) (OpCl 25) does_25 (op_keeps 25) act_25
theorem act_26 : ActIs 26 103 (OpCl 26) := by
  intro G i j q K D R M b x r m c o hd hr hm hR hn hx hb hl hlook hadd w hc h hk
  obtain ⟨x, y, rfl⟩ := len2 hx
  have h0 := hd x (by simp)
  have h1 := hd y (by simp)
  obtain ⟨B, rfl, hB, hG⟩ := hc
  exact two_act 26 x y (binF 26 x y) B (fun w => binary_26 x y h0.1 h0.2 h1.1 h1.2 w) o (by have hb' : (b.length : Int) + 1 ≤ 256 := hb; omega) hB hG h hk
theorem do_26 : DoIs 26 := do_is 26 (by decide) (by decide) 103 (enters_of Tryd.func103 (by kernel_rfl) rfl) (OpCl 26) does_26 (op_keeps 26) act_26
theorem act_27 : ActIs 27 103 (OpCl 27) := by
  intro G i j q K D R M b x r m c o hd hr hm hR hn hx hb hl hlook hadd w hc h hk
  obtain ⟨x, y, rfl⟩ := len2 hx
  have h0 := hd x (by simp)
  have h1 := hd y (by simp)
  obtain ⟨B, rfl, hB, hG⟩ := hc
  exact two_act 27 x y (binF 27 x y) B (fun w => binary_27 x y h0.1 h0.2 h1.1 h1.2 w) o (by have hb' : (b.length : Int) + 1 ≤ 256 := hb; omega) hB hG h hk
theorem do_27 : DoIs 27 := do_is 27 (by decide) (by decide) 103 (enters_of Tryd.func103 (by kernel_rfl) rfl) (OpCl 27) does_27 (op_keeps 27) act_27
theorem act_30 : ActIs 30 103 (OpCl 30) := by
  intro G i j q K D R M b x r m c o hd hr hm hR hn hx hb hl hlook hadd w hc h hk
  obtain ⟨x, y, rfl⟩ := len2 hx
  have h0 := hd x (by simp)
  have h1 := hd y (by simp)
  obtain ⟨B, rfl, hB, hG⟩ := hc
  exact two_act 30 x y (binF 30 x y) B (fun w => binary_30 x y h0.1 h0.2 h1.1 h1.2 w) o (by have hb' : (b.length : Int) + 1 ≤ 256 := hb; omega) hB hG h hk
theorem do_30 : DoIs 30 := do_is 30 (by decide) (by decide) 103 (enters_of Tryd.func103 (by kernel_rfl) rfl) (OpCl 30) does_30 (op_keeps 30) act_30
theorem act_31 : ActIs 31 103 (OpCl 31) := by
  intro G i j q K D R M b x r m c o hd hr hm hR hn hx hb hl hlook hadd w hc h hk
  obtain ⟨x, y, rfl⟩ := len2 hx
  have h0 := hd x (by simp)
  have h1 := hd y (by simp)
  obtain ⟨B, rfl, hB, hG⟩ := hc
  exact two_act 31 x y (binF 31 x y) B (fun w => binary_31 x y h0.1 h0.2 h1.1 h1.2 w) o (by have hb' : (b.length : Int) + 1 ≤ 256 := hb; omega) hB hG h hk
theorem do_31 : DoIs 31 := do_is 31 (by decide) (by decide) 103 (enters_of Tryd.func103 (by kernel_rfl) rfl) (OpCl 31) does_31 (op_keeps 31) act_31
theorem act_36 : ActIs 36 103 (OpCl 36) := by
  intro G i j q K D R M b x r m c o hd hr hm hR hn hx hb hl hlook hadd w hc h hk
  obtain ⟨x, y, rfl⟩ := len2 hx
  have h0 := hd x (by simp)
  have h1 := hd y (by simp)
  obtain ⟨B, rfl, hB, hG⟩ := hc
  exact two_act 36 x y (binF 36 x y) B (fun w => binary_36 x y h0.1 h0.2 h1.1 h1.2 w) o (by have hb' : (b.length : Int) + 1 ≤ 256 := hb; omega) hB hG h hk
theorem do_36 : DoIs 36 := do_is 36 (by decide) (by decide) 103 (enters_of Tryd.func103 (by kernel_rfl) rfl) (OpCl 36) does_36 (op_keeps 36) act_36
theorem act_37 : ActIs 37 103 (OpCl 37) := by
  intro G i j q K D R M b x r m c o hd hr hm hR hn hx hb hl hlook hadd w hc h hk
  obtain ⟨x, y, rfl⟩ := len2 hx
  have h0 := hd x (by simp)
  have h1 := hd y (by simp)
  obtain ⟨B, rfl, hB, hG⟩ := hc
  exact two_act 37 x y (binF 37 x y) B (fun w => binary_37 x y h0.1 h0.2 h1.1 h1.2 w) o (by have hb' : (b.length : Int) + 1 ≤ 256 := hb; omega) hB hG h hk
theorem do_37 : DoIs 37 := do_is 37 (by decide) (by decide) 103 (enters_of Tryd.func103 (by kernel_rfl) rfl) (OpCl 37) does_37 (op_keeps 37) act_37
theorem act_38 : ActIs 38 103 (OpCl 38) := by
  intro G i j q K D R M b x r m c o hd hr hm hR hn hx hb hl hlook hadd w hc h hk
  obtain ⟨x, y, rfl⟩ := len2 hx
  have h0 := hd x (by simp)
  have h1 := hd y (by simp)
  obtain ⟨B, rfl, hB, hG⟩ := hc
  exact two_act 38 x y (binF 38 x y) B (fun w => binary_38 x y h0.1 h0.2 h1.1 h1.2 w) o (by have hb' : (b.length : Int) + 1 ≤ 256 := hb; omega) hB hG h hk
theorem do_38 : DoIs 38 := do_is 38 (by decide) (by decide) 103 (enters_of Tryd.func103 (by kernel_rfl) rfl) (OpCl 38) does_38 (op_keeps 38) act_38
theorem act_40 : ActIs 40 103 (OpCl 40) := by
  intro G i j q K D R M b x r m c o hd hr hm hR hn hx hb hl hlook hadd w hc h hk
  obtain ⟨x, y, rfl⟩ := len2 hx
  have h0 := hd x (by simp)
  have h1 := hd y (by simp)
  obtain ⟨B, rfl, hB, hG⟩ := hc
  exact two_act 40 x y (binF 40 x y) B (fun w => binary_40 x y h0.1 h0.2 h1.1 h1.2 w) o (by have hb' : (b.length : Int) + 1 ≤ 256 := hb; omega) hB hG h hk
theorem do_40 : DoIs 40 := do_is 40 (by decide) (by decide) 103 (enters_of Tryd.func103 (by kernel_rfl) rfl) (OpCl 40) does_40 (op_keeps 40) act_40
theorem act_41 : ActIs 41 103 (OpCl 41) := by
  intro G i j q K D R M b x r m c o hd hr hm hR hn hx hb hl hlook hadd w hc h hk
  obtain ⟨x, y, rfl⟩ := len2 hx
  have h0 := hd x (by simp)
  have h1 := hd y (by simp)
  obtain ⟨B, rfl, hB, hG⟩ := hc
  exact two_act 41 x y (binF 41 x y) B (fun w => binary_41 x y h0.1 h0.2 h1.1 h1.2 w) o (by have hb' : (b.length : Int) + 1 ≤ 256 := hb; omega) hB hG h hk
theorem do_41 : DoIs 41 := do_is 41 (by decide) (by decide) 103 (enters_of Tryd.func103 (by kernel_rfl) rfl) (OpCl 41) does_41 (op_keeps 41) act_41
theorem act_42 : ActIs 42 103 (OpCl 42) := by
  intro G i j q K D R M b x r m c o hd hr hm hR hn hx hb hl hlook hadd w hc h hk
  obtain ⟨x, y, rfl⟩ := len2 hx
  have h0 := hd x (by simp)
  have h1 := hd y (by simp)
  obtain ⟨B, rfl, hB, hG⟩ := hc
  exact two_act 42 x y (binF 42 x y) B (fun w => binary_42 x y h0.1 h0.2 h1.1 h1.2 w) o (by have hb' : (b.length : Int) + 1 ≤ 256 := hb; omega) hB hG h hk
theorem do_42 : DoIs 42 := do_is 42 (by decide) (by decide) 103 (enters_of Tryd.func103 (by kernel_rfl) rfl) (OpCl 42) does_42 (op_keeps 42) act_42
theorem act_43 : ActIs 43 103 (OpCl 43) := by
  intro G i j q K D R M b x r m c o hd hr hm hR hn hx hb hl hlook hadd w hc h hk
  obtain ⟨x, y, rfl⟩ := len2 hx
  have h0 := hd x (by simp)
  have h1 := hd y (by simp)
  obtain ⟨B, rfl, hB, hG⟩ := hc
  exact two_act 43 x y (binF 43 x y) B (fun w => binary_43 x y h0.1 h0.2 h1.1 h1.2 w) o (by have hb' : (b.length : Int) + 1 ≤ 256 := hb; omega) hB hG h hk
theorem do_43 : DoIs 43 := do_is 43 (by decide) (by decide) 103 (enters_of Tryd.func103 (by kernel_rfl) rfl) (OpCl 43) does_43 (op_keeps 43) act_43
theorem act_44 : ActIs 44 103 (OpCl 44) := by
  intro G i j q K D R M b x r m c o hd hr hm hR hn hx hb hl hlook hadd w hc h hk
  obtain ⟨x, y, rfl⟩ := len2 hx
  have h0 := hd x (by simp)
  have h1 := hd y (by simp)
  obtain ⟨B, rfl, hB, hG⟩ := hc
  exact two_act 44 x y (binF 44 x y) B (fun w => binary_44 x y h0.1 h0.2 h1.1 h1.2 w) o (by have hb' : (b.length : Int) + 1 ≤ 256 := hb; omega) hB hG h hk
theorem do_44 : DoIs 44 := do_is 44 (by decide) (by decide) 103 (enters_of Tryd.func103 (by kernel_rfl) rfl) (OpCl 44) does_44 (op_keeps 44) act_44
theorem act_45 : ActIs 45 103 (OpCl 45) := by
  intro G i j q K D R M b x r m c o hd hr hm hR hn hx hb hl hlook hadd w hc h hk
  obtain ⟨x, y, rfl⟩ := len2 hx
  have h0 := hd x (by simp)
  have h1 := hd y (by simp)
  obtain ⟨B, rfl, hB, hG⟩ := hc
  exact two_act 45 x y (binF 45 x y) B (fun w => binary_45 x y h0.1 h0.2 h1.1 h1.2 w) o (by have hb' : (b.length : Int) + 1 ≤ 256 := hb; omega) hB hG h hk
theorem do_45 : DoIs 45 := do_is 45 (by decide) (by decide) 103 (enters_of Tryd.func103 (by kernel_rfl) rfl) (OpCl 45) does_45 (op_keeps 45) act_45
theorem act_46 : ActIs 46 103 (OpCl 46) := by
  intro G i j q K D R M b x r m c o hd hr hm hR hn hx hb hl hlook hadd w hc h hk
  obtain ⟨x, y, rfl⟩ := len2 hx
  have h0 := hd x (by simp)
  have h1 := hd y (by simp)
  obtain ⟨B, rfl, hB, hG⟩ := hc
  exact two_act 46 x y (binF 46 x y) B (fun w => binary_46 x y h0.1 h0.2 h1.1 h1.2 w) o (by have hb' : (b.length : Int) + 1 ≤ 256 := hb; omega) hB hG h hk
theorem do_46 : DoIs 46 := do_is 46 (by decide) (by decide) 103 (enters_of Tryd.func103 (by kernel_rfl) rfl) (OpCl 46) does_46 (op_keeps 46) act_46
theorem act_47 : ActIs 47 103 (OpCl 47) := by
  intro G i j q K D R M b x r m c o hd hr hm hR hn hx hb hl hlook hadd w hc h hk
  obtain ⟨x, y, rfl⟩ := len2 hx
  have h0 := hd x (by simp)
  have h1 := hd y (by simp)
  obtain ⟨B, rfl, hB, hG⟩ := hc
  exact two_act 47 x y (binF 47 x y) B (fun w => binary_47 x y h0.1 h0.2 h1.1 h1.2 w) o (by have hb' : (b.length : Int) + 1 ≤ 256 := hb; omega) hB hG h hk
theorem do_47 : DoIs 47 := do_is 47 (by decide) (by decide) 103 (enters_of Tryd.func103 (by kernel_rfl) rfl) (OpCl 47) does_47 (op_keeps 47) act_47
theorem do_any (k : Nat) (hk : k < 64) (hpl : plainB k = true) : DoIs k := by
  match k, hk, hpl with
  | 0, _, hpl => exact absurd hpl (by decide)
  | 1, _, hpl => exact absurd hpl (by decide)
  | 2, _, hpl => exact absurd hpl (by decide)
  | 3, _, hpl => exact absurd hpl (by decide)
  | 4, _, hpl => exact absurd hpl (by decide)
  | 5, _, hpl => exact absurd hpl (by decide)
  | 6, _, _ => exact do_6
  | 7, _, hpl => exact absurd hpl (by decide)
  | 8, _, hpl => exact absurd hpl (by decide)
  | 9, _, _ => exact do_9
  | 10, _, hpl => exact absurd hpl (by decide)
  | 11, _, hpl => exact absurd hpl (by decide)
  | 12, _, _ => exact do_12
  | 13, _, _ => exact do_13
  | 14, _, _ => exact do_14
  | 15, _, _ => exact do_15
  | 16, _, _ => exact do_16
  | 17, _, _ => exact do_17
  | 18, _, _ => exact do_18
  | 19, _, _ => exact do_19
  | 20, _, _ => exact do_20
  | 21, _, _ => exact do_21
  | 22, _, _ => exact do_22
  | 23, _, _ => exact do_23
  | 24, _, _ => exact do_24
  | 25, _, _ => exact do_25
  | 26, _, _ => exact do_26
  | 27, _, _ => exact do_27
  | 28, _, _ => exact do_28
  | 29, _, _ => exact do_29
  | 30, _, _ => exact do_30
  | 31, _, _ => exact do_31
  | 32, _, _ => exact do_32
  | 33, _, _ => exact do_33
  | 34, _, _ => exact do_34
  | 35, _, _ => exact do_35
  | 36, _, _ => exact do_36
  | 37, _, _ => exact do_37
  | 38, _, _ => exact do_38
  | 39, _, _ => exact do_39
  | 40, _, _ => exact do_40
  | 41, _, _ => exact do_41
  | 42, _, _ => exact do_42
  | 43, _, _ => exact do_43
  | 44, _, _ => exact do_44
  | 45, _, _ => exact do_45
  | 46, _, _ => exact do_46
  | 47, _, _ => exact do_47
  | 48, _, _ => exact do_48
  | 49, _, _ => exact do_49
  | 50, _, _ => exact do_50
  | 51, _, _ => exact do_51
  | 52, _, _ => exact do_52
  | 53, _, _ => exact do_53
  | 54, _, _ => exact do_54
  | 55, _, _ => exact do_55
  | 56, _, _ => exact do_56
  | 57, _, _ => exact do_57
  | 58, _, _ => exact do_58
  | 59, _, _ => exact do_59
  | 60, _, _ => exact do_60
  | 61, _, _ => exact do_61
  | 62, _, _ => exact do_62
  | 63, _, _ => exact do_63
  | k + 64, hk, _ => exact absurd hk (by omega)
end Go.Proofs.YtdnalhjdmlkbmaaDoor
