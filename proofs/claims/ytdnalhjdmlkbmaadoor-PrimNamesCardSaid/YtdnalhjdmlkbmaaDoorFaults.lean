/- Do, where it says no. -/
import Derived.Test.YtdnalhjdmlkbmaaDoorDo
namespace Go.Proofs.YtdnalhjdmlkbmaaDoor
open Go.RowKit

set_option maxRecDepth 100000 in
/-- Too few cells, or no room for what is left. -/
theorem do_need (G : Nat → Nat) (k : Nat) (hk : k < 64) (hpl : plainB k = true) (f : Nat) (Cl : World → (Nat → Nat) → Array Value → Prop) (hd : DoesIs k f Cl) (hcl : Keeps Cl)
    (i D : Nat) (R M : Addr) (l : List Int) (hl : l.length ≤ 256) (hneed : (needF l.length (takesN k) (leavesN k) != 0) = true) (w : World) (ht : Tabs w G) (hp : PU w G i D l) :
    Calls Tryd.prog 21 #[.int .i64 k, .pointer (some ⟨D, 0, none⟩), .pointer (some R), .pointer (some M)] w fun e w' => e = .returned (.int .i64 (needF l.length (takesN k) (leavesN k))) ∧ ∃ G', Adv (fun _ => False) w G w' G' := by
  have b1 := takes_le k hk
  have b2 := leaves_le k hk
  have HPL := Lib.hid hpl
  have HT := Lib.hid ht
  have HP := Lib.hid hp
  have HCL := Lib.hid hcl
  clear ht hp hcl hpl
  obtain ⟨F, hF⟩ : ∃ F, F = needF l.length (takesN k) (leavesN k) := ⟨_, rfl⟩
  rw [← hF] at hneed ⊢
  have HF := Lib.hid hF
  clear hF
  go_enter Tryd.func21, Tryd.ntmps21
  go_wp2_with fail
  refine (plain_any k _).mono ?_
  rintro e w' ⟨rfl, rfl⟩
  rw [HPL.out]
  go_wp2_with fail
  refine (entry_any G k hk f Cl hd HCL.out _ HT.out).mono ?_
  rintro e w1 ⟨c, G1, rfl, ha1, hc1⟩
  unfold entryV
  have HA2 := Lib.hid (ha1.alloc (.cells #[.int .i64 k, .string (nameB k), .int .i64 (takesN k), .int .i64 (leavesN k), .int .i64 (costsN k), .bool (operandB k), .func (.func f) #[] c] 117) 1000)
  have HP2 := Lib.hid (HP.out.adv HA2.out id)
  clear ha1 hc1
  go_wp2_with fail
  refine (needPU _ i D l (takesN k) (leavesN k) _ HP2.out (by omega) (by omega) (by omega)).mono ?_
  rintro e w' ⟨rfl, rfl⟩
  rw [← HF.out]
  go_wp2_with fail
  go_ret
  exact ⟨rfl, _, HA2.out⟩
set_option maxRecDepth 100000 in
/-- The return stack does not hold what the primitive looks at. -/
theorem do_looks (G : Nat → Nat) (k : Nat) (hk : k < 64) (hpl : plainB k = true) (f : Nat) (Cl : World → (Nat → Nat) → Array Value → Prop) (hd : DoesIs k f Cl) (hcl : Keeps Cl)
    (i j D R : Nat) (M : Addr) (l : List Int) (rl : List (Int × Int)) (hl : l.length ≤ 256) (hrl : rl.length ≤ 128) (hneed : needF l.length (takesN k) (leavesN k) = 0) (hlooks : (looksF k rl != 0) = true) (w : World) (ht : Tabs w G) (hp : PU w G i D l) (hr : PR w G j R rl) :
    Calls Tryd.prog 21 #[.int .i64 k, .pointer (some ⟨D, 0, none⟩), .pointer (some ⟨R, 0, none⟩), .pointer (some M)] w fun e w' => e = .returned (.int .i64 (looksF k rl)) ∧ ∃ G', Adv (fun _ => False) w G w' G' := by
  have b1 := takes_le k hk
  have b2 := leaves_le k hk
  have HPL := Lib.hid hpl
  have HT := Lib.hid ht
  have HP := Lib.hid hp
  have HR := Lib.hid hr
  have HN := Lib.hid hneed
  have HCL := Lib.hid hcl
  clear ht hp hr hcl hpl hneed
  obtain ⟨F, hF⟩ : ∃ F, F = looksF k rl := ⟨_, rfl⟩
  rw [← hF] at hlooks ⊢
  have HF := Lib.hid hF
  clear hF
  go_enter Tryd.func21, Tryd.ntmps21
  go_wp2_with fail
  refine (plain_any k _).mono ?_
  rintro e w' ⟨rfl, rfl⟩
  rw [HPL.out]
  go_wp2_with fail
  refine (entry_any G k hk f Cl hd HCL.out _ HT.out).mono ?_
  rintro e w1 ⟨c, G1, rfl, ha1, hc1⟩
  unfold entryV
  have HA2 := Lib.hid (ha1.alloc (.cells #[.int .i64 k, .string (nameB k), .int .i64 (takesN k), .int .i64 (leavesN k), .int .i64 (costsN k), .bool (operandB k), .func (.func f) #[] c] 117) 1000)
  have HP2 := Lib.hid (HP.out.adv HA2.out id)
  have HR2 := Lib.hid (HR.out.adv HA2.out id)
  clear ha1 hc1
  go_wp2_with fail
  refine (needPU _ i D l (takesN k) (leavesN k) _ HP2.out (by omega) (by omega) (by omega)).mono ?_
  rintro e w' ⟨rfl, rfl⟩
  rw [HN.out]
  go_wp2_with fail
  refine (looks_any _ j R rl k _ HR2.out (by omega)).mono ?_
  rintro e w' ⟨rfl, d, rfl⟩
  rw [← HF.out]
  go_wp2_with fail
  go_ret
  exact ⟨rfl, _, HA2.out.drewN d⟩
set_option maxRecDepth 100000 in
/-- No room on the return stack. -/
theorem do_full (G : Nat → Nat) (k : Nat) (hk : k < 64) (hpl : plainB k = true) (f : Nat) (Cl : World → (Nat → Nat) → Array Value → Prop) (hd : DoesIs k f Cl) (hcl : Keeps Cl)
    (i j D R : Nat) (M : Addr) (l : List Int) (rl : List (Int × Int)) (hl : l.length ≤ 256) (hrl : rl.length ≤ 128) (hneed : needF l.length (takesN k) (leavesN k) = 0) (hlooks : looksF k rl = 0) (hadds : 128 < (rl.length : Int) + addsF k) (w : World) (ht : Tabs w G) (hp : PU w G i D l) (hr : PR w G j R rl) :
    Calls Tryd.prog 21 #[.int .i64 k, .pointer (some ⟨D, 0, none⟩), .pointer (some ⟨R, 0, none⟩), .pointer (some M)] w fun e w' => e = .returned (.int .i64 4) ∧ ∃ G', Adv (fun _ => False) w G w' G' := by
  have b1 := takes_le k hk
  have b2 := leaves_le k hk
  have HPL := Lib.hid hpl
  have HT := Lib.hid ht
  have HP := Lib.hid hp
  have HR := Lib.hid hr
  have HN := Lib.hid hneed
  have HL := Lib.hid hlooks
  have HAD := Lib.hid hadds
  have HCL := Lib.hid hcl
  clear ht hp hr hcl hpl hneed hlooks hadds
  go_enter Tryd.func21, Tryd.ntmps21
  go_wp2_with fail
  refine (plain_any k _).mono ?_
  rintro e w' ⟨rfl, rfl⟩
  rw [HPL.out]
  go_wp2_with fail
  refine (entry_any G k hk f Cl hd HCL.out _ HT.out).mono ?_
  rintro e w1 ⟨c, G1, rfl, ha1, hc1⟩
  unfold entryV
  have HA2 := Lib.hid (ha1.alloc (.cells #[.int .i64 k, .string (nameB k), .int .i64 (takesN k), .int .i64 (leavesN k), .int .i64 (costsN k), .bool (operandB k), .func (.func f) #[] c] 117) 1000)
  have HP2 := Lib.hid (HP.out.adv HA2.out id)
  have HR2 := Lib.hid (HR.out.adv HA2.out id)
  clear ha1 hc1
  go_wp2_with fail
  refine (needPU _ i D l (takesN k) (leavesN k) _ HP2.out (by omega) (by omega) (by omega)).mono ?_
  rintro e w' ⟨rfl, rfl⟩
  rw [HN.out]
  go_wp2_with fail
  refine (looks_any _ j R rl k _ HR2.out (by omega)).mono ?_
  rintro e w' ⟨rfl, d, rfl⟩
  rw [HL.out]
  go_wp2_with fail
  refine (lenPR _ j R rl _ (HR2.out.drewN d)).mono ?_
  rintro e w' ⟨rfl, rfl⟩
  go_wp2_with fail
  refine (adds_any k _).mono ?_
  rintro e w' ⟨rfl, rfl⟩
  have hadd := HAD.out
  have hadd0 : 0 ≤ addsF k ∧ addsF k ≤ 2 := by unfold addsF; constructor <;> (repeat' split) <;> omega
  have hgt : decide (128 < (rl.length : Int) + addsF k) = true := by simp; omega
  go_wp2_with fail
  go_ret
  exact ⟨rfl, _, HA2.out.drewN d⟩
set_option maxRecDepth 100000 in
/-- No plain primitive, whatever the stacks. -/
theorem do_odd (x : Int) (hpl : plainB x = false) (d r m : Value) (w : World) :
    Calls Tryd.prog 21 #[.int .i64 x, d, r, m] w fun e w' => e = .returned (.int .i64 6) ∧ w = w' := by
  have HPL := Lib.hid hpl
  clear hpl
  go_enter Tryd.func21, Tryd.ntmps21
  go_wp2_with fail
  refine (plain_any x _).mono ?_
  rintro e w' ⟨rfl, rfl⟩
  rw [HPL.out]
  go_wp2_with fail
  go_ret
  exact ⟨rfl, rfl⟩
end Go.Proofs.YtdnalhjdmlkbmaaDoor
