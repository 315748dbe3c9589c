/- The statements' own closed check: it answers true. -/
import Derived.Test.YtgpimonjdhbdmaaStacks
namespace Go.Proofs.Ytgpimonjdhbdmaa
open Go.RowKit

set_option maxHeartbeats 400000 in
theorem fixed_any (G : Nat → Nat) (w : World) : Calls Try.prog 8 #[] w fun e w' => e = .returned (.bool true) ∧ ∃ G', Adv (fun _ => False) w G w' G' := by
  have hx := (Reads.new w [.int .u16 1, .int .u16 2, .int .u16 3] 32).alloc (.cells #[.int .i64 2, .int .u16 9, .int .i64 3, .int .u16 4] 43)
  have hy := Reads.new (w.alloc (.cells #[.int .u16 1, .int .u16 2, .int .u16 3] 32)) [.int .i64 2, .int .u16 9, .int .i64 3, .int .u16 4] 43
  rw [show (w.alloc (.cells #[.int .u16 1, .int .u16 2, .int .u16 3] 32)).heap.size = w.heap.size + 1 from by simp] at hy
  obtain ⟨G0, hA⟩ : ∃ G0, Adv (fun _ => False) w (fun _ => 0) ((w.alloc (.cells #[.int .u16 1, .int .u16 2, .int .u16 3] 32)).alloc (.cells #[.int .i64 2, .int .u16 9, .int .i64 3, .int .u16 4] 43)) G0 := ⟨_, ((Adv.refl (fun _ => False) w (fun _ => 0)).alloc (.cells #[.int .u16 1, .int .u16 2, .int .u16 3] 32) 0).alloc (.cells #[.int .i64 2, .int .u16 9, .int .i64 3, .int .u16 4] 43) 0⟩
  have HX := Lib.hid hx
  have HY := Lib.hid hy
  have HA := Lib.hid hA
  clear hx hy hA
  go_enter Try.func8, Try.ntmps8
  go_wp2_with fail
  refine (stacks_ok G0 1 2 (some ⟨w.heap.size, 0, none⟩) 3 3 [.int .u16 1, .int .u16 2, .int .u16 3] (some ⟨w.heap.size + 1, 0, none⟩) 2 2 [(2, 9), (3, 4)] _ (by omega) rfl HX.out (by decide) (by omega) rfl HY.out (by decide)).mono ?_
  rintro e w1 ⟨D, R, G1, vd, vr, rfl, ha, hD, hR⟩
  have HA1 := Lib.hid (HA.out.trans ha)
  obtain ⟨a1, c1, rfl⟩ := hD.slice
  obtain ⟨a2, c2, rfl⟩ := hR.slice
  have hcR := hR.cell
  have HD := Lib.hid hD
  have HR := Lib.hid hR
  clear ha hD hR
  go_wp2_with fail
  refine (atR_any 40 G1 2 R a2 2 c2 [(2, 9), (3, 4)] 1 2 _ HR.out (by omega)).mono ?_
  rintro e w' ⟨rfl, d1, rfl⟩
  rw [show atV [(2, 9), (3, 4)] 1 2 = 9 from by decide, show atE [(2, 9), (3, 4)] 1 2 = 0 from by decide]
  go_wp2_with fail
  refine (atR_any 40 G1 2 R a2 2 c2 [(2, 9), (3, 4)] 0 2 _ (HR.out.drewN d1) (by omega)).mono ?_
  rintro e w' ⟨rfl, d2, rfl⟩
  rw [show atV [(2, 9), (3, 4)] 0 2 = 0 from by decide, show atE [(2, 9), (3, 4)] 0 2 = 5 from by decide]
  go_wp2_with fail
  refine (atR_any 40 G1 2 R a2 2 c2 [(2, 9), (3, 4)] 2 2 _ (HR.out.drewN _) (by omega)).mono ?_
  rintro e w' ⟨rfl, d3, rfl⟩
  rw [show atV [(2, 9), (3, 4)] 2 2 = 0 from by decide, show atE [(2, 9), (3, 4)] 2 2 = 3 from by decide]
  go_wp2_with fail
  refine (popU_some 58 G1 1 D a1 2 c1 [.int .u16 1, .int .u16 2] 3 _ (HD.out.drewN _)).mono ?_
  rintro e w' ⟨rfl, ha, hD⟩
  have hcD := hD.cell
  have hR := (HR.out.drewN _).adv ha (by omega)
  have hcR := hR.cell
  have HA2 := Lib.hid ((HA1.out.drewN _).mono (T := fun i => i = 1) (fun _ h => h.elim) |>.trans ha)
  clear ha hD hR
  go_wp2_with (first | (go_at_call 10; refine (lenU_any D a1 2 c1 _ hcD).mono ?_; rintro e w' ⟨rfl, rfl⟩) | (go_at_call 17; refine (lenR_any R a2 2 c2 _ hcR).mono ?_; rintro e w' ⟨rfl, rfl⟩))
  go_ret
  exact ⟨rfl, named w G G1 0 0, HA2.out.relabel (fun _ _ => by omega) (fun _ hb => named_old hb)⟩
end Go.Proofs.Ytgpimonjdhbdmaa
