/- made, whole. -/
import Derived.Test.YtgpimonjdhbdmaaMadeTail
namespace Go.Proofs.Ytgpimonjdhbdmaa
open Go.RowKit

theorem made_stacks (H : Nat → Nat) (g n cap : Nat) (l : List Int) (g2 k cap2 : Nat) (m : List (Int × Int)) (w : World) (hl : l.length = n) (hn : n ≤ 70368744175616) (hm : m.length = k) (hk : k ≤ 8796093021952)
    (hx : Reads w (some ⟨g, 0, none⟩) (cellsU l)) (hy : Reads w (some ⟨g2, 0, none⟩) (cellsR m)) :
    Calls Try.prog 7 #[.slice (some ⟨g, 0, none⟩) n cap, .slice (some ⟨g2, 0, none⟩) k cap2] w fun e w' => ∃ s9 s10 s11 H', e = .returned (.tuple #[s9, s10, s11]) ∧ Adv (fun _ => False) w H w' H' ∧ Out (mayB n m) l m s9 s10 s11 w' H' := by
  cases hb : mayB n m with
  | true =>
    obtain ⟨h1, h2, h3⟩ := mayB_yes hb
    refine (stacksP H 1 2 _ n cap l _ k cap2 m w hl h1 hx hm (by omega) hy h3).mono ?_
    rintro e w' ⟨D, R, H', rfl, ha, hD, hR⟩
    exact ⟨_, _, _, H', rfl, ha, .inl ⟨rfl, D, R, rfl, rfl, rfl, hD, hR⟩⟩
  | false =>
    refine (stacksP_no H _ n cap l _ k cap2 m w hl (by omega) hx hm (by omega) hy (by rw [← hm]; exact mayB_no hb)).mono ?_
    rintro e w' ⟨rfl, H', ha⟩
    exact ⟨_, _, _, H', rfl, ha, .inr ⟨rfl, rfl, rfl, rfl⟩⟩

set_option maxHeartbeats 2000000 in
set_option maxRecDepth 100000 in
theorem made_any (G : Nat → Nat) (P D R E Q : Nat) (gv gr : Value) (la : Option Addr) (n lc : Nat) (l : List Int) (ma : Option Addr) (k mc : Nat) (m : List (Int × Int)) (w : World) (hA : MadeArgs w G (fun b => if b = P then 5 else 0) P D R E Q gv gr la n l ma k m) :
    Calls Try.prog 45 #[.pointer (some ⟨P, 0, none⟩), .slice la n lc, .slice ma k mc] w fun e w' => e = .returned (.bool true) ∧ MadeOut w G P gv gr (mayB n m) l m w' := by
  have hn := hA.hn
  have hk := hA.hk
  obtain ⟨G0, hG0⟩ : ∃ G0, G0 = (fun b => if b = P then 5 else 0) := ⟨_, rfl⟩
  rw [← hG0] at hA
  have HA := Lib.hid hA
  clear hA hG0
  go_enter Try.func45, Try.ntmps45
  go_wp2_with fail
  refine (ownCells_any G0 7 la n lc l w HA.out.hl hn HA.out.hx).mono ?_
  rintro e w1 ⟨g, cap, G1, rfl, ha1, hr1⟩
  have HA1 := Lib.hid ha1
  have HR1 := Lib.hid hr1
  clear ha1 hr1
  go_wp2_with fail
  refine (ownRet_any G1 8 ma k mc m w1 HA.out.hm hk (HA.out.yr HA1.out id)).mono ?_
  rintro e w2 ⟨g2, cap2, G2, rfl, ha2, hr2⟩
  have HA2 := Lib.hid (HA1.out.trans ha2)
  have HR1 := Lib.hid (HR1.out.adv ha2 id)
  have HR2 := Lib.hid hr2
  clear ha2 hr2
  go_wp2_with fail
  refine (made_stacks G2 g n cap l g2 k cap2 m w2 HA.out.hl hn HA.out.hm hk ?_ ?_).mono ?_
  · have h := HR1.out.takeU n; rwa [← HA.out.hl, List.take_left] at h
  · have h := HR2.out.reads.takeR k; rwa [← HA.out.hm, List.take_left] at h
  rintro e w3 ⟨s9, s10, s11, G3, rfl, ha3, ho⟩
  have HO := Lib.hid ho
  have HA3 := Lib.hid (HA2.out.trans ha3)
  have HR1 := Lib.hid (HR1.out.adv ha3 id)
  have HR2 := Lib.hid (HR2.out.adv ha3 id)
  clear ha3 ho
  go_wp2_with fail
  refine (whole_any G3 7 8 g n cap la lc l g2 k cap2 ma mc m w3 HA.out.hl hn HA.out.hm hk HR1.out HR2.out (HA.out.xr HA3.out id) (HA.out.yr HA3.out id)).mono ?_
  rintro e w4 ⟨rfl, q, rfl⟩
  have HM : Hid (Mid w G0 g n cap g2 k cap2 (mayB n m) l m s9 s10 s11 (w3.drewN q)) := Lib.hid (Mid.drewN ⟨G3, HA3.out.mono (fun _ h => h.elim), ⟨_, HR1.out⟩, ⟨_, HR2.out⟩, HO.out⟩ q)
  clear HO HA3 HR1 HR2 HA2 HA1
  go_upto_block 0 with fail
  go_cut [] (fun wx => Mid w G0 g n cap g2 k cap2 (mayB n m) l m s9 s10 s11 wx)
  case first =>
    go_wp2_with fail
    go_loopw [13] (fun s13 wr => ∃ i : Nat, i ≤ n ∧ s13 = .int .i64 i ∧ Mid w G0 g n cap g2 k cap2 (mayB n m) l m s9 s10 s11 wr) (fun s13 _ => n - (intOf s13).toNat)
    case atStart => exact ⟨0, by omega, rfl, HM.out⟩
    case round =>
      obtain ⟨i, hi, rfl, hmid⟩ := hrel
      by_cases hlt : i < n
      · obtain ⟨u, c1, c2, c3, c4⟩ := hmid.atU i hlt
        have HMI := Lib.hid hmid
        clear hmid
        go_wp2_with fail
        go_roundw
        case rel => exact ⟨i + 1, by omega, by go_num, HMI.out.storeU i hlt _⟩
        case measure => simp [intOf]; omega
      · have HMI := Lib.hid hmid
        clear hmid
        go_wp2_with fail
        go_meet
        exact HMI.out
  case rest =>
  have HM2 := Lib.hid hcut
  clear hcut HM
  go_upto_block 2 with fail
  go_cut [] (fun wx => Mid w G0 g n cap g2 k cap2 (mayB n m) l m s9 s10 s11 wx)
  case first =>
    go_wp2_with fail
    go_loopw [14] (fun s14 wr => ∃ i : Nat, i ≤ k ∧ s14 = .int .i64 i ∧ Mid w G0 g n cap g2 k cap2 (mayB n m) l m s9 s10 s11 wr) (fun s14 _ => k - (intOf s14).toNat)
    case atStart => exact ⟨0, by omega, rfl, HM2.out⟩
    case round =>
      obtain ⟨i, hi, rfl, hmid⟩ := hrel
      by_cases hlt : i < k
      · obtain ⟨u, v, c1, c2, c3, c4, c5, c6⟩ := hmid.atR i hlt
        have HMI := Lib.hid hmid
        clear hmid
        go_wp2_with fail
        go_roundw
        case rel => exact ⟨i + 1, by omega, by go_num, (HMI.out.storeR (i * 2) (by omega) _).storeR (i * 2 + 1) (by omega) _⟩
        case measure => simp [intOf]; omega
      · have HMI := Lib.hid hmid
        clear hmid
        go_wp2_with fail
        go_meet
        exact HMI.out
  case rest =>
  obtain ⟨H, ha, h1, h2, h3⟩ := hcut
  have HMA := Lib.hid ha
  have HMO := Lib.hid h3
  clear ha h1 h2 h3 HM2
  go_wp2_with fail
  refine (may_any la ma n lc k mc m _ HA.out.hm (by omega) (by omega) (HA.out.yr HMA.out (by omega))).mono ?_
  rintro e wz ⟨rfl, rfl⟩
  go_upto_if 53 with fail
  go_cut [] (fun wx => mayB n m = true ∧ wc = wx)
  case first =>
    cases hb : mayB n m with
    | true =>
      go_wp2_with fail
      go_meet
      exact ⟨hb, rfl⟩
    | false =>
      obtain ⟨e9, e10, e11⟩ : s9 = .pointer none ∧ s10 = .pointer none ∧ s11 = .int .i64 2 := by
        rcases HMO.out with h | h
        · rw [hb] at h; cases h.1
        · exact h.2
      rw [e9, e10, e11]
      clear e9 e10 e11
      go_wp2_with fail
      go_ret
      exact ⟨rfl, _, .inr ⟨hb, HA.out.fin0 HMA.out (by omega) (by omega)⟩⟩
  case rest =>
  obtain ⟨hb, rfl⟩ := hcut
  obtain ⟨D1, R1, e9, e10, e11, hD, hR⟩ : ∃ D R, s9 = .pointer (some ⟨D, 0, none⟩) ∧ s10 = .pointer (some ⟨R, 0, none⟩) ∧ s11 = .int .i64 0 ∧ PU wc H 1 D l ∧ PR wc H 2 R m := by
    rcases HMO.out with h | h
    · exact h.2
    · rw [hb] at h; cases h.1
  rw [e9, e10, e11]
  rename_i a0
  exact a0 _ _ (made_tail w wc G G0 H P D R E Q D1 R1 gv gr la n lc l ma k mc m HA.out HMA.out hD hR hb)
end Go.Proofs.Ytgpimonjdhbdmaa
