/- The walk of StackNeeds. -/
import Derived.Test.YtgpimonjdhbdmaaNeedsRest
import Derived.Deep.RegionHeld3
import Derived.Deep.DeepCutAuto
import Derived.Deep.CutBlock
import Derived.Deep.LoopGhost
namespace Go.Proofs.Ytgpimonjdhbdmaa
open Go.RowKit

set_option maxHeartbeats 1000000 in
set_option maxRecDepth 100000 in
theorem stackNeeds_walk (xa : Option Addr) (n c : Nat) (xs : List Int) (p q : Int) (ya : Option Addr) (m c2 : Nat) (ys : List Int) (w : World)
    (hn : xs.length = n) (hx : Reads w xa (cellsU xs)) (hm : ys.length = m) (hy : Reads w ya (cellsU ys)) (hnc : n ≤ c) (hcb : c ≤ 100000000000000) (hmc : m ≤ c2) (hc2b : c2 ≤ 100000000000000)
    (hp : p ≤ 9223372036854775807) (hq : q ≤ 9223372036854775807) :
    Calls Try.prog 3 #[.slice xa n c, .int .i64 p, .int .i64 q, .slice ya m c2] w fun e w' => e = .returned (.bool true) ∧ Below w.heap.size w w' := by
  obtain ⟨A, hA, hA2⟩ : ∃ A : Nat, (A : Int) = max p 0 ∧ A ≤ 9223372036854775807 := ⟨p.toNat, by omega, by omega⟩
  obtain ⟨B, hB, hB2⟩ : ∃ B : Nat, (B : Int) = max q 0 ∧ B ≤ 9223372036854775807 := ⟨q.toNat, by omega, by omega⟩
  have HA := Lib.hid hA
  have HB := Lib.hid hB
  clear hA hB
  have HN := Lib.hid hn
  have HM := Lib.hid hm
  have HX := Lib.hid hx
  have HY := Lib.hid hy
  clear hn hm hx hy
  go_enter Try.func3, Try.ntmps3
  go_upto_if 23 with fail
  go_cut [0] (fun s0 wx => w = wx ∧ ∃ c', s0 = .slice xa (min n 256) c' ∧ c' ≤ 100000000000000)
  case first =>
    by_cases h : n ≤ 256
    · go_wp2
      go_meet
      exact ⟨rfl, c, by rw [Nat.min_eq_left h], hcb⟩
    · go_wp2
      go_meet
      exact ⟨rfl, c, by rw [Nat.min_eq_right (by omega)], hcb⟩
  case rest =>
    obtain ⟨rfl, c', rfl, hc'⟩ := hcut
    obtain ⟨N, hN⟩ : ∃ N, N = min n 256 := ⟨_, rfl⟩
    rw [← hN]
    have hN256 : N ≤ 256 := by omega
    obtain ⟨L, hL, hLx, hLr⟩ : ∃ L : List Int, L.length = N ∧ L = xs.take N ∧ Reads w xa (cellsU L) := ⟨xs.take N, by rw [List.length_take, HN.out]; omega, rfl, HX.out.takeU N⟩
    have HL := Lib.hid hL
    have HLR := Lib.hid hLr
    clear hL hLr hLx hN
    go_wp2_with fail
    refine (stacksP (fun _ => 0) 1 2 xa N c' L none 0 0 [] _ HL.out hN256 HLR.out rfl (by omega) (.inl rfl) (by simp)).mono ?_
    rintro e w1 ⟨D, R, G1, rfl, ha, hD, hR⟩
    have HA1 := Lib.hid ha
    have HD1 := Lib.hid hD
    clear ha hD hR
    go_wp2_with fail
    refine (fixed_any G1 _).mono ?_
    rintro e w2 ⟨rfl, G2, ha⟩
    have HA2 := Lib.hid ((HA1.out.trans ha).mono (T := fun i => i = 1) (fun _ h => h.elim))
    have HD2 := Lib.hid (HD1.out.adv ha id)
    clear ha
    go_wp2_with fail
    refine (needPU G2 1 D L p q _ HD2.out (by rw [HL.out]; omega) hp hq).mono ?_
    rintro e w3 ⟨rfl, rfl⟩
    rw [HL.out]
    go_wp2_with fail
    refine (lenPU G2 1 D L _ HD2.out).mono ?_
    rintro e w3 ⟨rfl, rfl⟩
    rw [HL.out]
    rw [show needF N p q = needF N A B from by unfold needF; rw [← HA.out, ← HB.out, show max (A : Int) 0 = A from by omega, show max (B : Int) 0 = B from by omega]]
    go_upto_region 9 with fail
    go_cut [1, 2] (fun s1 s2 wx => w2 = wx ∧ s1 = .int .i64 A ∧ s2 = .int .i64 B)
    case first =>
      go_wp2
      all_goals
        go_meet
        refine ⟨rfl, ?_, ?_⟩ <;> (have h1 := HA.out; have h2 := HB.out; congr 1; omega)
    case rest =>
    obtain ⟨rfl, rfl, rfl⟩ := hcut
    by_cases hin : N < A
    · have hd : decide ((N : Int) < A) = true := by simpa using hin
      have hneed : needF N A B = 1 := by unfold needF; rw [if_pos (by omega)]
      have hneed0 : needF N A 0 = 1 := by unfold needF; rw [if_pos (by omega)]
      rw [hneed]
      have HNE := Lib.hid hneed0
      clear hneed0 hneed
      go_wp2_with (go_at_call 9; refine (needPU G2 1 D L A 0 _ HD2.out (by rw [HL.out]; omega) (by omega) (by omega)).mono ?_; rintro e w3 ⟨rfl, rfl⟩; rw [HL.out, HNE.out])
      go_ret
      exact ⟨rfl, HA2.out.below (Nat.le_refl _) (fun _ _ => by omega)⟩
    · have hd : decide ((N : Int) < A) = false := by simp; omega
      have HIN : Hid (A ≤ N) := by show A ≤ N; omega
      go_wp2_with fail
      go_loopw [13] (fun s13 wr => ∃ k : Nat, k ≤ A ∧ s13 = .int .i64 k ∧ ∃ Gr, Adv (· = 1) w (fun _ => 0) wr Gr ∧ PU wr Gr 1 D (L.take (N - k))) (fun s13 _ => A - (intOf s13).toNat)
      case atStart => exact ⟨0, by omega, rfl, G2, HA2.out, by rw [Nat.sub_zero, List.take_of_length_le (by rw [HL.out]; omega)]; exact HD2.out⟩
      case round =>
        obtain ⟨k, hk, rfl, Gr, har, hpr⟩ := hrel
        have HAR := Lib.hid har
        have HPR := Lib.hid hpr
        clear har hpr
        by_cases hlt : k < A
        · obtain ⟨j, hj⟩ : ∃ j, j + k + 1 = N := ⟨N - k - 1, by have := HIN.out; omega⟩
          obtain ⟨x, hxj⟩ : ∃ x, L[j]? = some x := ⟨L[j]'(by rw [HL.out]; omega), by simp⟩
          obtain ⟨b, o, rfl, hcell0, hb0⟩ := HLR.out.atU j x hxj
          have hcell := HAR.out.cell_some hcell0 (by show ¬ (0 = 1); omega)
          have hb : b < wr.heap.size := Nat.lt_of_lt_of_le hb0 HAR.out.size
          have hgb : Gr b ≠ 1 := by rw [HAR.out.own b hb0]; omega
          clear hcell0
          have hpop : PU wr Gr 1 D (L.take j ++ [x]) := by
            have h := HPR.out
            rw [show N - k = j + 1 from by omega, List.take_add_one, hxj] at h
            exact h
          have hj0 : (0 : Int) ≤ (j : Int) := Int.natCast_nonneg _
          have hj1 : (j : Int) < (N : Int) := by omega
          have hw1 : IntKind.i64.wrap ((N : Int) - 1) = (N : Int) - 1 := IntWalk.i64_in _ (by omega)
          have hw2 : IntKind.i64.wrap ((N : Int) - 1 - (k : Int)) = (j : Int) := by
            rw [IntWalk.i64_in _ (by omega)]; omega
          have HPOP := Lib.hid hpop
          have HJ := Lib.hid hj
          have HXJ := Lib.hid hxj
          clear hpop hj hxj
          go_wp2_with fail
          go_region_held3 (fun w' => w'.cell? ⟨b, o + j, none⟩ = some (.int .u16 x)) (first | go_keep | exact HK.out) (((go_at_call 11; refine (popPU Gr 1 D (L.take j) x _ HPOP.out.drew).mono ?_; rintro e w' ⟨rfl, ha, hp⟩; have HK := Lib.hid ((ha.cell (p := ⟨b, o + j, none⟩) hb hgb).trans hcell); have HAJ := Lib.hid ha; have HPJ := Lib.hid hp; clear ha hp)))
          go_wp2
          go_roundw
          case rel => exact ⟨k + 1, by omega, by go_num, Gr, (HAR.out.drew).trans HAJ.out, by rw [show N - (k + 1) = j from by have := HJ.out; omega]; exact HPJ.out⟩
          case measure => simp [intOf]; omega
        · have hkA : k = A := by omega
          subst hkA
          obtain ⟨F, hF⟩ : ∃ F, F + k = N := ⟨N - k, by have := HIN.out; omega⟩
          have hsub : (N : Int) - (k : Int) = (F : Int) := by omega
          obtain ⟨M, hM⟩ : ∃ M : Nat, (M : Int) = min (B : Int) 300 := ⟨min B 300, by omega⟩
          have HF := Lib.hid hF
          have HMM := Lib.hid hM
          clear hF hM
          have HPR2 : Hid (PU wr Gr 1 D (L.take F)) := by show PU wr Gr 1 D (L.take F); have h := HPR.out; rw [show N - k = F from by have := HF.out; omega] at h; exact h
          clear HPR
          go_upto_region 18 with fail
          go_cut [15] (fun s15 wx => ∃ g G', s15 = .slice (some ⟨g, 0, none⟩) M M ∧ Adv (· = 1) w (fun _ => 0) wx G' ∧ PU wx G' 1 D (L.take F) ∧ Reads wx (some ⟨g, 0, none⟩) (cellsU (List.replicate M 0)) ∧ G' g ≠ 1)
          case first =>
            by_cases hB3 : (300 : Int) < B
            · have hmk := run_makeU wr 300 (by omega)
              rw [show ((300 : Nat) : Int) = 300 from rfl] at hmk
              have hM3 : M = 300 := by have := HMM.out; omega
              go_wp2
              go_meet
              subst hM3
              exact ⟨wr.heap.size, own1 wr Gr 0, rfl, HAR.out.alloc _ 0, HPR2.out.alloc _ 0, Reads.new wr _ 32, by rw [own1_new]; omega⟩
            · have hMB : M = B := by have := HMM.out; omega
              have hmk := run_makeU wr B (by omega)
              go_wp2
              go_meet
              subst hMB
              exact ⟨wr.heap.size, own1 wr Gr 0, rfl, HAR.out.alloc _ 0, HPR2.out.alloc _ 0, Reads.new wr _ 32, by rw [own1_new]; omega⟩
          case rest =>
          obtain ⟨g, G3, rfl, h1, h2, h3, h4⟩ := hcut
          have HA4 := Lib.hid h1
          have HP4 := Lib.hid h2
          have HR4 := Lib.hid h3
          have HG4 := Lib.hid h4
          clear h1 h2 h3 h4 HG4
          rename_i a0
          exact a0 _ _ (stackNeeds_rest w wc G3 xa ya N c' k B m c2 D F g M L ys HL HLR HM HY hmc hc2b hN256 HF HMM HA4 HP4 HR4 hB2)
end Go.Proofs.Ytgpimonjdhbdmaa
