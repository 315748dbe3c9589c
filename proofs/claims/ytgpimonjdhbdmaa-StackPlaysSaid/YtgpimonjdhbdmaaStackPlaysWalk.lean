/- The walk of StackPlays. -/
import Derived.Test.YtgpimonjdhbdmaaStart
namespace Go.Proofs.Ytgpimonjdhbdmaa
open Go.RowKit

/-- The script's calls, as the memory holds them. -/
def OpsIn (w : World) (sa : Option Addr) (N : Nat) : Prop := ∀ i, i < N → ∃ (b o : Nat) (K A B : Int) (la : Option Addr) (lc : Nat) (xs : List Int) (ma : Option Addr) (mc : Nat) (ys : List (Int × Int)), sa = some ⟨b, o, none⟩ ∧
  w.cell? ⟨b, o + i * 5, none⟩ = some (.int .i64 K) ∧ w.cell? ⟨b, o + i * 5 + 1, none⟩ = some (.int .i64 A) ∧ w.cell? ⟨b, o + i * 5 + 2, none⟩ = some (.int .i64 B) ∧
  w.cell? ⟨b, o + i * 5 + 3, none⟩ = some (.slice la xs.length lc) ∧ w.cell? ⟨b, o + i * 5 + 4, none⟩ = some (.slice ma ys.length mc) ∧ xs.length ≤ lc ∧ lc ≤ 70368744175616 ∧ ys.length ≤ mc ∧ mc ≤ 8796093021952 ∧
  Reads w la (cellsU xs) ∧ Reads w ma (cellsR ys) ∧ A ≤ 9223372036854775807 ∧ B ≤ 9223372036854775807
theorem reads_zero {w w' : World} {G : Nat → Nat} {S : Nat → Prop} {a : Option Addr} {xs : List Value} (h : Reads w a xs) (ha : Adv S w (fun _ => 0) w' G) (hne : xs ≠ []) {ad : Addr} (e : a = some ad) : ad.block < w'.heap.size ∧ G ad.block = 0 := by
  obtain ⟨b, o, rfl, _, hb⟩ := h.some hne
  cases e
  exact ⟨Nat.lt_of_lt_of_le hb ha.size, ha.own b hb⟩
theorem cellsU_ne {xs : List Int} (h : xs ≠ []) : cellsU xs ≠ [] := by simpa [cellsU] using h
theorem cellsR_ne {xs : List (Int × Int)} (h : xs ≠ []) : cellsR xs ≠ [] := fun e => h (List.eq_nil_of_length_eq_zero (by have := congrArg List.length e; rw [cellsR_length] at this; simp only [List.length_nil] at this; omega))

theorem same_st (G : Nat → Nat) (P n : Nat) (w : World) (hS : StandsA w G P n) (hn : n ≤ 900) :
    Calls Try.prog 23 #[.pointer (some ⟨P, 0, none⟩)] w fun e w' => e = .returned (.bool true) ∧ ∃ G', Moves w G w' G' ∧ StandsA w' G' P (n + 2) := by
  obtain ⟨hf, D, R, E, Q, gv, gr, l, m, h⟩ := hS
  exact same_any G P n D R E Q gv gr l m w hf h hn
theorem still_st (G : Nat → Nat) (P n : Nat) (w : World) (hS : StandsA w G P n) (hn : n ≤ 1000) : Calls Try.prog 24 #[.pointer (some ⟨P, 0, none⟩)] w fun e w' => e = .returned (.bool true) ∧ w = w' := by
  obtain ⟨hf, D, R, E, Q, gv, gr, l, m, h⟩ := hS
  exact still_any G (fun o => o = 6) P D R E Q gv gr n w h.pair h.gu h.gr hn

set_option maxHeartbeats 4000000 in
set_option maxRecDepth 100000 in
theorem stackPlays_walk (sa : Option Addr) (N sc : Nat) (w : World) (hop : OpsIn w sa N) :
    Calls Try.prog 6 #[.slice sa N sc] w fun e w' => e = .returned (.bool true) ∧ Below w.heap.size w w' := by
  have HOP := Lib.hid hop
  clear hop
  go_enter Try.func6, Try.ntmps6
  go_upto_region 1 with fail
  go_cut [3] (fun s3 wx => ∃ P G, s3 = .pointer (some ⟨P, 0, none⟩) ∧ Adv (fun o => o ≠ 0) w (fun _ => 0) wx G ∧ StandsA wx G P 0)
  case first =>
    go_wp2_with fail
    go_meet
    obtain ⟨G, h1, h2⟩ := start_any w
    exact ⟨w.heap.size + 4, G, rfl, h1.mono (fun _ h => h.elim), h2⟩
  case rest =>
  obtain ⟨P, G0, rfl, h1, h2⟩ := hcut
  have HA0 := Lib.hid h1
  have HS0 := Lib.hid h2
  clear h1 h2
  go_upto_block 0 with fail
  go_cut [] (fun wx => ∃ G nn, nn ≤ 600 ∧ Adv (fun o => o ≠ 0) w (fun _ => 0) wx G ∧ StandsA wx G P nn)
  case first =>
    go_wp2_with fail
    go_loopw [4] (fun s4 wr => ∃ i : Nat, i ≤ N ∧ i ≤ 300 ∧ s4 = .int .i64 i ∧ ∃ G nn, nn ≤ 2 * i ∧ Adv (fun o => o ≠ 0) w (fun _ => 0) wr G ∧ StandsA wr G P nn) (fun s4 _ => N - (intOf s4).toNat)
    case atStart => exact ⟨0, by omega, by omega, rfl, G0, 0, by omega, HA0.out, HS0.out⟩
    case round =>
      obtain ⟨i, hi, hi3, rfl, G, nn, hnn, h1, h2⟩ := hrel
      have HA := Lib.hid h1
      have HS := Lib.hid h2
      clear h1 h2
      by_cases hlt : i < N
      · by_cases h300 : i < 300
        · obtain ⟨b, o, K, A, B, la, lc, xs, ma, mc, ys, hsa, c0, c1, c2, c3, c4, b1, b2, b3, b4, r1, r2, a1, a2⟩ := HOP.out i hlt
          have HX := Lib.hid (r1.adv HA.out (fun _ _ h => h rfl))
          have HY := Lib.hid (r2.adv HA.out (fun _ _ h => h rfl))
          have HXO := Lib.hid (show xs ≠ [] → ∀ ad, la = some ad → ad.block < wr.heap.size ∧ G ad.block = 0 from fun h ad e => reads_zero r1 HA.out (cellsU_ne h) e)
          have HYO := Lib.hid (show ys ≠ [] → ∀ ad, ma = some ad → ad.block < wr.heap.size ∧ G ad.block = 0 from fun h ad e => reads_zero r2 HA.out (cellsR_ne h) e)
          have d0 := HA.out.cell_some (p := ⟨b, o + i * 5, none⟩) c0 (fun h => h rfl)
          have d1 := HA.out.cell_some (p := ⟨b, o + i * 5 + 1, none⟩) c1 (fun h => h rfl)
          have d2 := HA.out.cell_some (p := ⟨b, o + i * 5 + 2, none⟩) c2 (fun h => h rfl)
          have d3 := HA.out.cell_some (p := ⟨b, o + i * 5 + 3, none⟩) c3 (fun h => h rfl)
          have d4 := HA.out.cell_some (p := ⟨b, o + i * 5 + 4, none⟩) c4 (fun h => h rfl)
          rw [hsa]
          clear c1 c2 c3 c4 r1 r2
          go_wp2_with fail
          refine (plays_any G P nn K A B la xs.length lc xs ma ys.length mc ys wr HS.out.1 HS.out rfl b1 b2 rfl b3 b4 HX.out HY.out HXO.out HYO.out a1 a2).mono ?_
          rintro e w1 ⟨rfl, G1, h1, h2⟩
          have HA1 := Lib.hid (HA.out.trans h1)
          have HS1 := Lib.hid h2
          have e0 := HA1.out.cell_some (p := ⟨b, o + i * 5, none⟩) c0 (fun h => h rfl)
          clear h1 h2 d0 d1 d2 d3 d4 c0
          have ht : (i : Int).tmod 8 = ((i % 8 : Nat) : Int) := rfl
          have hcall := same_st G1 P nn w1 HS1.out (by omega)
          by_cases h8 : i % 8 = 0
          · have hb : ((i : Int).tmod 8 == 0) = true := by rw [ht, h8]; rfl
            go_wp2_with fail
            refine hcall.mono ?_
            rintro e w2 ⟨rfl, G2, h1, h2⟩
            have HA2 := Lib.hid (HA1.out.trans h1)
            have HS2 := Lib.hid h2
            clear h1 h2
            go_wp2_with fail
            go_roundw
            case rel => exact ⟨i + 1, by omega, by omega, by go_num, G2, nn + 2, by omega, HA2.out, HS2.out⟩
            case measure => simp [intOf]; omega
          · have hb : ((i : Int).tmod 8 == 0) = false := by rw [ht]; simp; omega
            by_cases h4 : K = 4
            · subst h4
              go_wp2_with fail
              refine hcall.mono ?_
              rintro e w2 ⟨rfl, G2, h1, h2⟩
              have HA2 := Lib.hid (HA1.out.trans h1)
              have HS2 := Lib.hid h2
              clear h1 h2
              go_wp2_with fail
              go_roundw
              case rel => exact ⟨i + 1, by omega, by omega, by go_num, G2, nn + 2, by omega, HA2.out, HS2.out⟩
              case measure => simp [intOf]; omega
            · have hb4 : (K == 4) = false := by simp; omega
              by_cases h9 : K = 9
              · subst h9
                go_wp2_with fail
                refine hcall.mono ?_
                rintro e w2 ⟨rfl, G2, h1, h2⟩
                have HA2 := Lib.hid (HA1.out.trans h1)
                have HS2 := Lib.hid h2
                clear h1 h2
                go_wp2_with fail
                go_roundw
                case rel => exact ⟨i + 1, by omega, by omega, by go_num, G2, nn + 2, by omega, HA2.out, HS2.out⟩
                case measure => simp [intOf]; omega
              · have hb9 : (K == 9) = false := by simp; omega
                clear hcall
                go_wp2_with fail
                go_roundw
                case rel => exact ⟨i + 1, by omega, by omega, by go_num, G1, nn, by omega, HA1.out, HS1.out⟩
                case measure => simp [intOf]; omega
        · go_wp2_with fail
          go_meet
          exact ⟨G, nn, by omega, HA.out, HS.out⟩
      · go_wp2_with fail
        go_meet
        exact ⟨G, nn, by omega, HA.out, HS.out⟩
  case rest =>
  obtain ⟨G, nn, hnn, h1, h2⟩ := hcut
  have HA := Lib.hid h1
  have HS := Lib.hid h2
  clear h1 h2
  go_wp2_with fail
  refine (same_st G P nn _ HS.out (by omega)).mono ?_
  rintro e w1 ⟨rfl, G1, h1, h2⟩
  have HA1 := Lib.hid (HA.out.trans h1)
  have HS1 := Lib.hid h2
  clear h1 h2
  go_wp2_with fail
  refine (still_st G1 P (nn + 2) _ HS1.out (by omega)).mono ?_
  rintro e w2 ⟨rfl, rfl⟩
  go_wp2_with fail
  refine (same_st G1 P (nn + 2) _ HS1.out (by omega)).mono ?_
  rintro e w3 ⟨rfl, G3, h1, h2⟩
  have HA3 := Lib.hid (HA1.out.trans h1)
  clear h1 h2
  go_wp2_with fail
  refine (fixed_any G3 _).mono ?_
  rintro e w4 ⟨rfl, G4, h1⟩
  have HA4 := Lib.hid (HA3.out.trans (h1.mono fun _ h => h.elim))
  clear h1
  go_wp2_with fail
  go_ret
  exact ⟨rfl, HA4.out.below (Nat.le_refl _) (fun _ _ h => h rfl)⟩
end Go.Proofs.Ytgpimonjdhbdmaa
