/- The walk of StackKinds. -/
import Derived.Test.YtgpimonjdhbdmaaKindsRest
namespace Go.Proofs.Ytgpimonjdhbdmaa
open Go.RowKit

set_option maxHeartbeats 1000000 in
set_option maxRecDepth 100000 in
theorem stackKinds_walk (xa : Option Addr) (n c : Nat) (xs : List (Int × Int)) (kind p x : Int) (w : World)
    (hn : xs.length = n) (hx : Reads w xa (cellsR xs)) (hnc : n ≤ c) (hcb : c ≤ 100000000000000) (hp0 : -9223372036854775808 ≤ p) (hp : p ≤ 9223372036854775807) :
    Calls Try.prog 4 #[.slice xa n c, .int .i64 kind, .int .i64 p, .int .u16 x] w fun e w' => e = .returned (.bool true) ∧ Below w.heap.size w w' := by
  have HN := Lib.hid hn
  have HX := Lib.hid hx
  clear hn hx
  go_enter Try.func4, Try.ntmps4
  go_upto_if 31 with fail
  go_cut [0] (fun s0 wx => w = wx ∧ ∃ c', s0 = .slice xa (min n 128) c' ∧ c' ≤ 100000000000000)
  case first =>
    by_cases h : n ≤ 128
    · go_wp2
      go_meet
      exact ⟨rfl, c, by rw [Nat.min_eq_left h], hcb⟩
    · go_wp2
      go_meet
      exact ⟨rfl, c, by rw [Nat.min_eq_right (by omega)], hcb⟩
  case rest =>
  obtain ⟨rfl, c', rfl, hc'⟩ := hcut
  obtain ⟨N, hN⟩ : ∃ N, N = min n 128 := ⟨_, rfl⟩
  rw [← hN]
  have hN128 : N ≤ 128 := by omega
  obtain ⟨L, hL, hLr⟩ : ∃ L : List (Int × Int), L.length = N ∧ Reads w xa (cellsR L) := ⟨xs.take N, by rw [List.length_take, HN.out]; omega, HX.out.takeR N⟩
  have HL := Lib.hid hL
  have HLR := Lib.hid hLr
  have hP1 : PR (w.alloc (.cells #[.slice none 0 0] 40)) (own1 w (fun _ => 0) 2) 2 w.heap.size [] := ⟨_, Pile.made w (fun _ => 0) 43 40 2 2⟩
  have hA1 := (Adv.refl (fun i => i = 2) w (fun _ => 0)).alloc (.cells #[.slice none 0 0] 40) 2
  obtain ⟨G1, hG1⟩ : ∃ G1, G1 = own1 w (fun _ => 0) 2 := ⟨_, rfl⟩
  rw [← hG1] at hP1 hA1
  have HP1 := Lib.hid hP1
  have HA1 := Lib.hid hA1
  clear hL hLr hN hP1 hA1 hG1
  go_wp2_with fail
  refine (pushPR G1 2 w.heap.size [] L xa N c' _ HP1.out HL.out (by simpa using hN128) (HLR.out.adv HA1.out (fun _ _ => by omega))).mono ?_
  rintro e w1 ⟨rfl, G2, ha, hp'⟩
  rw [List.nil_append] at hp'
  have HA2 := Lib.hid (HA1.out.trans ha)
  have HP2 := Lib.hid hp'
  clear ha hp'
  go_wp2_with fail
  refine (fixed_any G2 _).mono ?_
  rintro e w2 ⟨rfl, G3, ha⟩
  have HA3 := Lib.hid (HA2.out.trans (ha.mono (fun _ h => h.elim)))
  have HP3 := Lib.hid (HP2.out.adv ha id)
  clear ha
  have hlen : L.length ≤ 100000 := by rw [HL.out]; omega
  go_upto_block 0 with fail
  go_cut [] (fun wx => ∃ G, Adv (· = 2) w (fun _ => 0) wx G ∧ PR wx G 2 w.heap.size L)
  case rest =>
    obtain ⟨G, h1, h2⟩ := hcut
    rename_i a0
    exact a0 _ _ (stackKinds_rest w wc G xa N c' w.heap.size kind p x L HL HLR hN128 hp0 hp h1 h2)
  case first =>
  go_wp2_with fail
  go_loopw [10] (fun s10 wr => ∃ i : Nat, i ≤ N ∧ s10 = .int .i64 i ∧ ∃ G, Adv (· = 2) w (fun _ => 0) wr G ∧ PR wr G 2 w.heap.size L) (fun s10 _ => N - (intOf s10).toNat)
  case atStart => exact ⟨0, by omega, rfl, G3, HA3.out, HP3.out⟩
  case round =>
    obtain ⟨i, hi, rfl, G, har, hpr⟩ := hrel
    have HAR := Lib.hid har
    have HPR := Lib.hid hpr
    clear har hpr
    by_cases hlt : i < N
    · obtain ⟨j, hj⟩ : ∃ j, i + j + 1 = N := ⟨N - i - 1, by omega⟩
      obtain ⟨y, hy⟩ : ∃ y, L[j]? = some y := ⟨L[j]'(by rw [HL.out]; omega), by simp⟩
      obtain ⟨b, o, rfl, hc1, hc2, hb⟩ := (HLR.out.adv HAR.out (fun _ _ => by omega)).atR j y hy
      have hidx : (N : Int) - 1 - (i : Int) = (j : Int) := by omega
      have hj0 : (0 : Int) ≤ (j : Int) := Int.natCast_nonneg _
      have hj1 : (j : Int) < (N : Int) := by omega
      have HO := Lib.hid (at_own hj HL.out hy)
      have HNO := Lib.hid (at_not (k := wrap64 (y.1 + 1)) hj HL.out hy (wrap_ne _))
      have hAb := HAR.out.alloc (.cells #[.int .i64 y.1, .int .u16 y.2] 43) 0
      have hPb := HPR.out.alloc (.cells #[.int .i64 y.1, .int .u16 y.2] 43) 0
      obtain ⟨Gb, hGb⟩ : ∃ Gb, Gb = own1 wr G 0 := ⟨_, rfl⟩
      rw [← hGb] at hAb hPb
      have HAB := Lib.hid hAb
      have HPB := Lib.hid hPb
      clear hy hj hAb hPb hGb
      go_wp2_with fail
      refine (atPR Gb 2 w.heap.size L i y.1 _ HPB.out hlen).mono ?_
      rintro e w' ⟨rfl, d1, rfl⟩
      rw [HO.out.1, HO.out.2]
      go_wp2_with fail
      refine (atPR Gb 2 w.heap.size L i (wrap64 (y.1 + 1)) _ (HPB.out.drewN _) hlen).mono ?_
      rintro e w' ⟨rfl, d2, rfl⟩
      rw [HNO.out.1, HNO.out.2]
      go_wp2_with fail
      go_roundw
      case rel => exact ⟨i + 1, by omega, by go_num, Gb, HAB.out.drewN _, HPB.out.drewN _⟩
      case measure => simp [intOf]; omega
    · go_wp2
      go_meet
      exact ⟨G, HAR.out, HPR.out⟩
end Go.Proofs.Ytgpimonjdhbdmaa
