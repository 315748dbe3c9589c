/- Do, whatever the primitive. -/
import Derived.Test.YtdnalhjdmlkbmaaDoorEntry
namespace Go.Proofs.YtdnalhjdmlkbmaaDoor
open Go.RowKit

set_option maxRecDepth 100000 in
set_option maxHeartbeats 1000000 in
/-- Do, where nothing is missing: what the primitive's function does on a desk is what Do does. -/
theorem do_ok (G : Nat → Nat) (k : Nat) (hk : k < 64) (hpl : plainB k = true) (f : Nat) (he : ∀ (args : Array Value) (w : World), (callFunc f args).run Tryd.prog w = .ok (.enter f args) w) (Cl : World → (Nat → Nat) → Array Value → Prop) (hd : DoesIs k f Cl) (hcl : Keeps Cl)
    (i j D R : Nat) (M : Addr) (l : List Int) (rl : List (Int × Int)) (hi : i ≠ 0) (hj : j ≠ 0) (S : Nat → Prop) (Post : World → (Nat → Nat) → Prop) (hl : l.length ≤ 256) (hrl : rl.length ≤ 128)
    (hneed : needF l.length (takesN k) (leavesN k) = 0) (hlooks : looksF k rl = 0) (hadds : (rl.length : Int) + addsF k ≤ 128) (w : World) (ht : Tabs w G) (hp : PU w G i D l) (hr : PR w G j R rl)
    (hf : ∀ (w1 : World) (G1 : Nat → Nat) (K : Nat) (c : Array Value), Adv (fun _ => False) w G w1 G1 → Cl w1 G1 c → Desk w1 G1 K D R (some M) →
      Calls Tryd.prog f (#[.pointer (some ⟨K, 0, none⟩)] ++ c) w1 fun e w' => e = .returned (.tuple #[]) ∧ ∃ G', Adv S w1 G1 w' G' ∧ Post w' G') :
    Calls Tryd.prog 21 #[.int .i64 k, .pointer (some ⟨D, 0, none⟩), .pointer (some ⟨R, 0, none⟩), .pointer (some M)] w fun e w' => e = .returned (.int .i64 0) ∧ ∃ G', Adv S w G w' G' ∧ Post w' G' := by
  have b1 := takes_le k hk
  have b2 := leaves_le k hk
  have HPL := Lib.hid hpl
  have HT := Lib.hid ht
  have HP := Lib.hid hp
  have HR := Lib.hid hr
  have HF := Lib.hid hf
  have HN := Lib.hid hneed
  have HL := Lib.hid hlooks
  have HAD := Lib.hid hadds
  have HCL := Lib.hid hcl
  clear ht hp hr hf hneed hlooks hadds hcl hpl
  go_enter Tryd.func21, Tryd.ntmps21
  go_wp2_with fail
  refine (plain_any k _).mono ?_
  rintro e w' ⟨rfl, rfl⟩
  rw [HPL.out]
  go_wp2_with fail
  refine (entry_any G k hk f Cl hd HCL.out _ HT.out).mono ?_
  rintro e w1 ⟨c, G1, rfl, ha1, hc1⟩
  unfold entryV
  have hA2 := ha1.alloc (.cells #[.int .i64 k, .string (nameB k), .int .i64 (takesN k), .int .i64 (leavesN k), .int .i64 (costsN k), .bool (operandB k), .func (.func f) #[] c] 117) 1000
  have HC2 := Lib.hid (HCL.out _ _ _ _ _ _ hc1 ((Adv.refl (fun _ => False) w1 G1).alloc (.cells #[.int .i64 k, .string (nameB k), .int .i64 (takesN k), .int .i64 (leavesN k), .int .i64 (costsN k), .bool (operandB k), .func (.func f) #[] c] 117) 1000) id)
  have HP2 := Lib.hid (HP.out.adv hA2 id)
  have HR2 := Lib.hid (HR.out.adv hA2 id)
  have HA2 := Lib.hid hA2
  clear ha1 hc1 hA2
  go_wp2_with fail
  refine (needPU _ i D l (takesN k) (leavesN k) _ HP2.out (by omega) (by omega) (by omega)).mono ?_
  rintro e w' ⟨rfl, rfl⟩
  rw [HN.out]
  go_wp2_with fail
  refine (looks_any _ j R rl k _ HR2.out (by omega)).mono ?_
  rintro e w' ⟨rfl, d, rfl⟩
  rw [HL.out]
  go_wp2_with fail
  refine (lenPR _ j R rl _ (HR2.out.drewN d)).mono ?_
  rintro e w' ⟨rfl, rfl⟩
  go_wp2_with fail
  refine (adds_any k _).mono ?_
  rintro e w' ⟨rfl, rfl⟩
  have hadd := HAD.out
  have hadd0 : 0 ≤ addsF k ∧ addsF k ≤ 2 := by unfold addsF; constructor <;> (repeat' split) <;> omega
  have hgt : decide (128 < (rl.length : Int) + addsF k) = false := by simp; omega
  go_wp2_with fail
  have hA3 := (HA2.out.drewN d).alloc (.cells #[.pointer (some ⟨D, 0, none⟩), .pointer (some ⟨R, 0, none⟩), .pointer (some M)] 123) 0
  have hC3 := HCL.out (fun _ => False) _ _ _ _ _ HC2.out (((Adv.refl (fun _ => False) _ _).drewN d).alloc (.cells #[.pointer (some ⟨D, 0, none⟩), .pointer (some ⟨R, 0, none⟩), .pointer (some M)] 123) 0) id
  trace_state
  refine (HF.out _ _ (w1.heap.size + 1) c hA3 hC3 ⟨heap_at _ _ _ (by simp), by simp [own1]⟩).mono ?_
  rintro e w2 ⟨rfl, G2, ha2, hpost⟩
  have HE := Lib.hid (And.intro (hA3.mono (T := S) (fun _ h => h.elim) |>.trans ha2) hpost)
  clear hA3 hC3 ha2 hpost
  go_wp2
  go_ret
  exact ⟨rfl, G2, HE.out.1, HE.out.2⟩
end Go.Proofs.YtdnalhjdmlkbmaaDoor
