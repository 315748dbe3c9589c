/- VmExact: the walk; What is known of an argument that can be read as data: by its type; A cart, bytes, numbers that come in as arguments; VmExact, its arguments opened. -/
import Derived.Laws.BytesArg
import Derived.ProofKit
import Derived.SizedLaws
import Derived.Deep.Slices
import Derived.OpenShut
import Derived.ChangeMaps5
import Derived.Test.YtdnalhjdmlkbmaaDoorVmExactU1
import Derived.Test.YtdnalhjdmlkbmaaDoorVmExactU2
import Derived.Test.YtdnalhjdmlkbmaaDoorVmExactU3
import Derived.Test.YtdnalhjdmlkbmaaDoorVmExactU4
import Derived.Test.YtdnalhjdmlkbmaaDoorVmExactU5
import Derived.Test.YtdnalhjdmlkbmaaDoorVmExactU6
import Derived.Test.YtdnalhjdmlkbmaaDoorVmExactU7
set_option linter.unusedVariables false
set_option linter.unusedSimpArgs false
set_option linter.unnecessarySimpa false
namespace Go.Proofs.YtdnalhjdmlkbmaaDoor
open Go.RowKit
set_option linter.unusedVariables false
theorem mayGo_len : ∀ (l : List (Int × List Int)) (last : Int), last ≤ 15 → mayGo last l = true → (l.length : Int) + last ≤ 15
  | [], last, h0, _ => by simpa using h0
  | a :: l, last, h0, h => by
    simp only [mayGo, Bool.and_eq_true, decide_eq_true_eq] at h
    have := mayGo_len l a.1 (by omega) h.2
    simp only [List.length_cons]
    omega
theorem primW_agg (k : Nat) : ∃ x0 x1 x2 x3 x4 x5, primW k = .agg #[.int .i64 x0, .string x1, .int .i64 x2, .int .i64 x3, .int .i64 x4, .bool x5] := by
  unfold primW
  split
  · exact ⟨_, _, _, _, _, _, rfl⟩
  · exact ⟨_, _, _, _, _, _, rfl⟩
section
variable {w0 w : World} {G : Nat → Nat} {b : Nat} {T : TypeId}
theorem Mine.put7 {u0 u1 u2 u3 u4 u5 u6 : Value} (h : Mine w0 w G b #[u0, u1, u2, u3, u4, u5, u6] T) (v0 v1 v2 v3 v4 v5 v6 : Value) : Mine w0 (((((((w.setCell ⟨b, 0, none⟩ v0).setCell ⟨b, 1, none⟩ v1).setCell ⟨b, 2, none⟩ v2).setCell ⟨b, 3, none⟩ v3).setCell ⟨b, 4, none⟩ v4).setCell ⟨b, 5, none⟩ v5).setCell ⟨b, 6, none⟩ v6) G b #[v0, v1, v2, v3, v4, v5, v6] T := by
  have x0 := (h.set 0 v0).2.sett (C' := #[v0, u1, u2, u3, u4, u5, u6]) rfl
  have x1 := (x0.set 1 v1).2.sett (C' := #[v0, v1, u2, u3, u4, u5, u6]) rfl
  have x2 := (x1.set 2 v2).2.sett (C' := #[v0, v1, v2, u3, u4, u5, u6]) rfl
  have x3 := (x2.set 3 v3).2.sett (C' := #[v0, v1, v2, v3, u4, u5, u6]) rfl
  have x4 := (x3.set 4 v4).2.sett (C' := #[v0, v1, v2, v3, v4, u5, u6]) rfl
  have x5 := (x4.set 5 v5).2.sett (C' := #[v0, v1, v2, v3, v4, v5, u6]) rfl
  have x6 := (x5.set 6 v6).2.sett (C' := #[v0, v1, v2, v3, v4, v5, v6]) rfl
  exact x6
end
theorem conv_reads {w : World} {a : Option Addr} {l : List Int} {n c : Nat} (h : Reads w a (u8s l)) (hl : l.length = n) (h0 : 0 < n) : (convert 70 9 (.slice a n c)).run Tryd.prog w = .ok (.string (strOfNums l)) w := by
  rcases h with hz | ⟨b, o, e, hh⟩
  · have := congrArg List.length hz
    rw [u8s_length, List.length_nil, hl] at this
    omega
  · subst e
    exact run_convert_bytes_arg w 70 5 Tryd.underlying70 Tryd.underlying5 b o n c l hl (fun i hi => hh i _ (by simp [u8s, List.getD_eq_getElem?_getD, List.getElem?_eq_getElem (show i < l.length by omega)])) 9 Tryd.underlying9
theorem readsMap {w : World} {a : Option Addr} {l : List Int} {f : Int → Value} (h : Reads w a (l.map f)) (k : Nat) (x : Int) (hk : l[k]? = some x) : ∃ b o, a = some ⟨b, o, none⟩ ∧ w.cell? ⟨b, o + k, none⟩ = some (f x) := by
  rcases h with hz | ⟨b, o, e, hh⟩
  · have := List.map_eq_nil_iff.1 hz
    subst this; cases hk
  · exact ⟨b, o, e, hh k (f x) (by simp [hk])⟩
set_option maxRecDepth 100000 in
set_option maxHeartbeats 8000000 in
theorem exact_any (G : Nat → Nat) (ca : Option Addr) (n cc : Nat) (entry : Int) (ea : Option Addr) (m ec : Nat) (ba : Option Addr) (k bc : Nat) (code : List Int) (effs : List (Int × Int × Int)) (banks : List (Int × List Int))
    (pa : Option Addr) (pn pc : Nat) (pl : List Int) (ga : Option Addr) (gn gc : Nat) (gl : List Int) (w : World)
    (ht : Tabs w (fun _ => 0)) (hn : code.length = n) (hm : effs.length = m) (hk : banks.length = k) (hc : CartIn w ca ea ba code effs banks) (bn : n ≤ 140737488351232) (bm : m * 24 ≤ 140737488351232) (bk : k * 32 ≤ 140737488351232) (bb : ∀ p ∈ banks, p.2.length ≤ 140737488351232)
    (hcb : B8 code) (hbb : ∀ p ∈ banks, B8 p.2) (e0 : 0 ≤ entry) (e1 : entry < 65536)
    (hp : Reads w pa (pl.map (.int .u8))) (hpl : pl.length = pn) (hp8 : B8 pl) (hg : Reads w ga (gl.map (.int .i64))) (hgl : gl.length = gn) (bp : pn ≤ 140737488351232) (bg : gn ≤ 140737488351232) :
    Calls Tryd.prog 7 #[cartV ca n cc entry ea m ec ba k bc, .slice pa pn pc, .slice ga gn gc] w (Looked w G (.bool true)) := by
  have n0 : ¬ S5k 4 1 2 3 0 := by unfold S5k S4 S3; decide
  have A0 := Lib.hid ((Adv.refl (S5k 4 1 2 3) w (fun _ => 0)).alloc (.cells #[.slice ca n cc, .int .u16 entry, .slice ea m ec, .slice ba k bc] 74) 1000)
  have C0 := Lib.hid (hc.adv A0.out n0)
  have HT := Lib.hid ht
  have HN := Lib.hid (And.intro hn (And.intro hm hk))
  have HBB := Lib.hid (And.intro bb (And.intro hcb hbb))
  have HP := Lib.hid (And.intro hp (And.intro hpl hp8))
  have HGG := Lib.hid (And.intro hg hgl)
  clear hc ht hn hm hk bb hcb hbb hp hpl hp8 hg hgl
  unfold cartV
  go_enter Tryd.func7, Tryd.ntmps7
  go_wp2_with fail
  refine (show Calls Tryd.prog 33 #[.agg #[.slice ca n cc, .int .u16 entry, .slice ea m ec, .slice ba k bc]] _ _ from ownCart_any (own1 w (fun _ => 0) 1000) ca n cc entry ea m ec ba k bc code effs banks _ HN.out.1 HN.out.2.1 HN.out.2.2 C0.out bn bm bk HBB.out.1).mono ?_
  rintro e w1 ⟨ca1, cc1, ea1, ec1, ba1, bc1, G1, rfl, a1, ci⟩
  have A1 := Lib.hid (A0.out.trans (a1.mono (T := S5k 4 1 2 3) fun _ h => h.elim))
  have C1 := Lib.hid ci
  clear a1 ci
  go_wp2_with fail
  have HCH := Lib.hid (show ∀ (w' : World) (G' : Nat → Nat), Adv (fun _ => False) w1 G1 w' G' → Calls Tryd.prog 67 #[cartV ca1 n cc1 entry ea1 m ec1 ba1 k bc1] w' (Looked w' G' (.int .i64 (checkF n effs banks))) from fun w' G' h =>
    check_any G' ca1 n cc1 entry ea1 m ec1 ba1 k bc1 effs banks w' HN.out.2.1 HN.out.2.2 (C1.out.effs.adv h (fun _ _ => id)) (C1.out.banks.keep h) bn bm bk HBB.out.1)
  by_cases hE : checkF n effs banks = 0
  · have hgd := Lib.hid (check_good hE)
    refine (vmNew_ok 4 1 2 3 own4123 G1 ca1 n cc1 entry e0 e1 ea1 m ec1 ba1 k bc1 code banks w1 HN.out.1 hgd.out.2.1 HBB.out.2.1 C1.out.code HN.out.2.2 (by have h1 := mayGo_len banks (-1) (by decide) hgd.out.2.2.1; have h2 := HN.out.2.2; omega) hgd.out.2.2.1 HBB.out.2.2 hgd.out.2.2.2 (fun w' G' h => C1.out.banks.keep h) (fun w' G' h => by have := HCH.out w' G' h; rw [hE] at this; exact this) (HT.out.adv A1.out n0)).mono ?_
    rintro e w2 ⟨P, D, R, M, G2, rfl, a2, v2⟩
    have A2 := Lib.hid (A1.out.trans (a2.mono (T := S5k 4 1 2 3) fun _ h => h.elim))
    have V2 := Lib.hid v2
    clear a2 v2 hE HCH C1
    go_wp2_with fail
    refine (awake_any G2 w2 ((HT.out.adv A2.out n0).relabel fun _ _ _ => rfl)).mono ?_
    rintro e w3 ⟨rfl, G3, a3⟩
    have A3 := Lib.hid (A2.out.trans (a3.mono (T := S5k 4 1 2 3) fun _ h => h.elim))
    have V3 := Lib.hid (V2.out.still a3)
    clear a3 V2
    go_wp2_with fail
    have A4 := Lib.hid (A3.out.alloc (.cells #[.int .i64 0, .int .i64 0, .int .i64 0, .int .i64 0, .int .i64 0, .slice none 0 0, .slice none 0 0] 81) 1000)
    have V4 := Lib.hid (V3.out.alloc (.cells #[.int .i64 0, .int .i64 0, .int .i64 0, .int .i64 0, .int .i64 0, .slice none 0 0, .slice none 0 0] 81) 1000)
    have O4 := Lib.hid (Mine.made w3 G3 w A3.out.size #[.int .i64 0, .int .i64 0, .int .i64 0, .int .i64 0, .int .i64 0, .slice none 0 0, .slice none 0 0] 81)
    obtain ⟨w4, hw4⟩ : ∃ v, v = w3.alloc (.cells #[.int .i64 0, .int .i64 0, .int .i64 0, .int .i64 0, .int .i64 0, .slice none 0 0, .slice none 0 0] 81) := ⟨_, rfl⟩
    obtain ⟨G4, hG4⟩ : ∃ v, v = own1 w3 G3 1000 := ⟨_, rfl⟩
    obtain ⟨bl, hbl⟩ : ∃ v, v = w3.heap.size := ⟨_, rfl⟩
    rw [← hw4] at A4 V4 O4 ⊢
    rw [← hG4] at A4 V4 O4
    rw [← hbl] at O4 ⊢
    clear hw4 hG4 hbl V3 A3 A2 A1 A0 C0 hgd
    go_loopw [9, 11] (fun vo vi wr => ∃ i : Nat, vi = .int .i64 i ∧ i ≤ 20 ∧ ∃ (s : VmS) (Gr : Nat → Nat) (a0 a1 a2 a3 a4 : Int) (lb : Option Addr) (ln lc : Nat) (tv : Value), vo = .bool (!(s.st == 1)) ∧ Adv (S5k 4 1 2 3) w (fun _ => 0) wr Gr ∧ VM wr Gr 4 1 2 3 P D R M code s ∧ StOk s ∧
        Mine w wr Gr bl #[.int .i64 a0, .int .i64 a1, .int .i64 a2, .int .i64 a3, .int .i64 a4, .slice lb ln lc, tv] 81 ∧ (s.st ≠ 1 → a0 = s.st ∧ a1 = s.ft ∧ ln = 3072 ∧ Reads wr lb (u8s s.m.screen) ∧ ∀ ad, lb = some ad → Gr ad.block = 0)) (fun _ vi _ => 20 - (intOf vi).toNat)
    case atStart => exact ⟨0, rfl, by omega, _, G4, 0, 0, 0, 0, 0, none, 0, 0, .slice none 0 0, rfl, A4.out, V4.out, start_st _ _, O4.out, fun h => absurd rfl h⟩
    case round =>
      obtain ⟨i, rfl, hi20, s, Gr, a0, a1, a2, a3, a4, lb, ln, lc, tv, rfl, ar, hv, hs, hl, hover⟩ := hrel
      have AR := Lib.hid ar
      have HV := Lib.hid hv
      have HS := Lib.hid hs
      have HL := Lib.hid hl
      have HO := Lib.hid hover
      clear ar hv hs hl hover A4 V4 O4
      by_cases h1 : i < pn
      · by_cases h2 : i < gn
        · by_cases h3 : i < 20
          · have d1 : decide ((i : Int) < (pn : Int)) = true := by simp; omega
            have d2 : decide ((i : Int) < (gn : Int)) = true := by simp; omega
            have d3 : decide ((i : Int) < 20) = true := by simp; omega
            have hpn := HP.out.2.1
            have hgn := HGG.out.2
            obtain ⟨x, hx⟩ : ∃ x, pl[i]? = some x := ⟨pl[i], List.getElem?_eq_getElem (by omega)⟩
            obtain ⟨y, hy⟩ : ∃ y, gl[i]? = some y := ⟨gl[i], List.getElem?_eq_getElem (by omega)⟩
            obtain ⟨xb, xo, ex, cx⟩ := readsMap (HP.out.1.adv AR.out (fun _ _ => n0)) i x hx
            obtain ⟨yb, yo, ey, cy⟩ := readsMap (HGG.out.1.adv AR.out (fun _ _ => n0)) i y hy
            have hx8 := HP.out.2.2 x (List.mem_of_getElem? hx)
            subst ex
            subst ey
            have hwi : IntKind.i64.wrap ((i : Int) + 1) = (i : Int) + 1 := IntWalk.i64_in _ (by omega)
            clear hpn hgn hx hy
            go_wp2_with fail
            refine (budget_any y wr).mono ?_
            rintro e w' ⟨rfl, rfl⟩
            have hbr := budget_rng y
            obtain ⟨bu, hbu⟩ : ∃ bu, bu = budgetF y := ⟨_, rfl⟩
            rw [← hbu] at hbr ⊢
            clear hbu
            go_wp2_with fail
            have hfr := frame_any own4123 far4123 x bu hx8.1 hx8.2 (by omega) (by omega) HV.out
            have ff := frameF_ok code x bu s HS.out hbr.1
            have fs := frameF_some code x bu s HS.out hbr.1
            have fo := frameF_over code x bu s
            obtain ⟨F, hF⟩ : ∃ F, F = frameF code x bu s := ⟨_, rfl⟩
            rw [← hF] at hfr ff fs fo
            obtain ⟨s', n', c'⟩ := F
            have FF := Lib.hid ff
            have FS := Lib.hid fs
            have FO := Lib.hid fo
            clear ff fs fo hF
            refine hfr.mono ?_
            rintro e w5 ⟨sb, ta, tc, G5, rfl, a5, v5, sr, tr⟩
            clear hfr
            dsimp only at v5 sr tr ⊢
            by_cases hs1 : s.st = 1
            · rw [show (!(s.st == 1)) = false from by simp [hs1]]
              rcases (show s'.st = 1 ∨ s'.st = 2 ∨ s'.st = 3 from FF.out.st.run) with hst | hst | hst
              · have A5 := Lib.hid (AR.out.trans (a5.mono (T := S5k 4 1 2 3) fun _ h => .inl h))
                have V5 := Lib.hid v5
                have HL5 := Lib.hid (HL.out.adv a5 far4123)
                have SR := Lib.hid sr
                clear a5 v5 sr tr
                have hft : s'.ft = 0 := by
                  apply Classical.byContradiction
                  intro hne
                  have := FF.out.st.ft.2 hne
                  dsimp only at this
                  omega
                have A6 := Lib.hid (A5.out.alloc (.cells #[.int .i64 1, .int .i64 0, .int .i64 n', .int .i64 c', .int .i64 (bu - c'), .slice (some ⟨sb, 0, none⟩) 3072 3072, .slice ta s'.m.tones.length tc] 81) 1000)
                have V6 := Lib.hid (V5.out.alloc (.cells #[.int .i64 1, .int .i64 0, .int .i64 n', .int .i64 c', .int .i64 (bu - c'), .slice (some ⟨sb, 0, none⟩) 3072 3072, .slice ta s'.m.tones.length tc] 81) 1000)
                have O6 := Lib.hid (Mine.made w5 G5 w A5.out.size #[.int .i64 1, .int .i64 0, .int .i64 n', .int .i64 c', .int .i64 (bu - c'), .slice (some ⟨sb, 0, none⟩) 3072 3072, .slice ta s'.m.tones.length tc] 81)
                have HL6 := Lib.hid (HL5.out.adv (S := fun _ => False) ((Adv.refl _ w5 G5).alloc (.cells #[.int .i64 1, .int .i64 0, .int .i64 n', .int .i64 c', .int .i64 (bu - c'), .slice (some ⟨sb, 0, none⟩) 3072 3072, .slice ta s'.m.tones.length tc] 81) 1000) id)
                have SR6 := Lib.hid (SR.out.2.1.adv (S := fun _ => False) ((Adv.refl _ w5 G5).alloc (.cells #[.int .i64 1, .int .i64 0, .int .i64 n', .int .i64 c', .int .i64 (bu - c'), .slice (some ⟨sb, 0, none⟩) 3072 3072, .slice ta s'.m.tones.length tc] 81) 1000) (fun _ _ => id))
                have g6 : own1 w5 G5 1000 sb = 0 := (own1_old SR.out.2.2.1).trans SR.out.1
                have LT6 : sb < (w5.alloc (.cells #[.int .i64 1, .int .i64 0, .int .i64 n', .int .i64 c', .int .i64 (bu - c'), .slice (some ⟨sb, 0, none⟩) 3072 3072, .slice ta s'.m.tones.length tc] 81)).heap.size := Nat.lt_of_lt_of_le SR.out.2.2.1 (by simp)
                have hscr : s'.m.screen.length = 3072 := V5.out.ok.gd.mo.screen
                rw [hscr, hst, hft]
                clear hscr
                go_upto_region 11 with fail
                obtain ⟨w6, hw6⟩ : ∃ v, v = w5.alloc (.cells #[.int .i64 1, .int .i64 0, .int .i64 n', .int .i64 c', .int .i64 (bu - c'), .slice (some ⟨sb, 0, none⟩) 3072 3072, .slice ta s'.m.tones.length tc] 81) := ⟨_, rfl⟩
                obtain ⟨G6, hG6⟩ : ∃ v, v = own1 w5 G5 1000 := ⟨_, rfl⟩
                obtain ⟨bo, hbo⟩ : ∃ v, v = w5.heap.size := ⟨_, rfl⟩
                rw [← hw6] at A6 V6 O6 HL6 SR6 LT6 ⊢
                rw [← hG6] at A6 V6 O6 HL6 g6
                rw [← hbo] at O6 ⊢
                clear hw6 hG6 hbo
                have q0 := O6.out.cell 0 (.int .i64 1) rfl
                have q1 := O6.out.cell 1 (.int .i64 0) rfl
                have q2 := O6.out.cell 2 (.int .i64 n') rfl
                have q3 := O6.out.cell 3 (.int .i64 c') rfl
                have q4 := O6.out.cell 4 (.int .i64 (bu - c')) rfl
                have q5 := O6.out.cell 5 (.slice (some ⟨sb, 0, none⟩) 3072 3072) rfl
                obtain ⟨_, fn0, fnc, fc4, fcb⟩ := FF.out
                dsimp only at fn0 fnc fc4 fcb
                have r1 : decide (c' < 0) = false := by simp <;> omega
                have r2 : decide (bu - c' < 0) = false := by simp <;> omega
                have r3 : IntKind.i64.wrap (c' + (bu - c')) = bu := by rw [IntWalk.i64_in _ (by omega)] <;> omega
                have r4 : decide (n' < 0) = false := by simp <;> omega
                have r5 : decide (c' < n') = false := by simp <;> omega
                have r6 : IntKind.i64.wrap (4 * n') = 4 * n' := IntWalk.i64_in _ (by omega)
                have r7 : decide (4 * n' < c') = false := by simp <;> omega
                go_upto_region 13 with fail
                clear r1 r2 r3 r4 r5 r6 r7 q0 q1 q2 q3 q4 q5
                go_wp2_with fail
                refine (state_any V6.out).mono ?_
                rintro e w7 ⟨db, dc, rb, rc, G7, rfl, a7, -, -, -, -⟩
                have A7 := Lib.hid (A6.out.trans (a7.mono (T := S5k 4 1 2 3) fun _ h => h.elim))
                have V7 := Lib.hid (V6.out.still a7)
                have O7 := Lib.hid (O6.out.adv a7 id)
                have HL7 := Lib.hid (HL6.out.adv a7 id)
                have SR7 := Lib.hid (SR6.out.adv a7 (fun _ _ => id))
                have g7 : G7 sb = 0 := (a7.own _ LT6).trans g6
                have LT7 : sb < w7.heap.size := Nat.lt_of_lt_of_le LT6 a7.size
                clear a7
                unfold stateV
                rw [hst, hft]
                have al := (Adv.refl (fun _ => False) w7 G7).alloc (.cells #[.int .u16 s'.pc, .int .i64 1, .int .i64 0, .slice db s'.d.length dc, .slice rb s'.r.length rc] 86) 1000
                have A8 := Lib.hid (A7.out.trans (al.mono (T := S5k 4 1 2 3) fun _ h => h.elim))
                have V8 := Lib.hid (V7.out.still al)
                have O8 := Lib.hid (O7.out.adv al id)
                have HL8 := Lib.hid (HL7.out.adv al id)
                have SR8 := Lib.hid (SR7.out.adv al (fun _ _ => id))
                have g8 : own1 w7 G7 1000 sb = 0 := (al.own _ LT7).trans g7
                have LT8 : sb < (w7.alloc (.cells #[.int .u16 s'.pc, .int .i64 1, .int .i64 0, .slice db s'.d.length dc, .slice rb s'.r.length rc] 86)).heap.size := Nat.lt_of_lt_of_le LT7 al.size
                have T8 := Lib.hid (Mine.made w7 G7 w A7.out.size #[.int .u16 s'.pc, .int .i64 1, .int .i64 0, .slice db s'.d.length dc, .slice rb s'.r.length rc] 86)
                clear al
                go_upto_region 14 with fail
                obtain ⟨w8, hw8⟩ : ∃ v, v = w7.alloc (.cells #[.int .u16 s'.pc, .int .i64 1, .int .i64 0, .slice db s'.d.length dc, .slice rb s'.r.length rc] 86) := ⟨_, rfl⟩
                obtain ⟨G8, hG8⟩ : ∃ v, v = own1 w7 G7 1000 := ⟨_, rfl⟩
                obtain ⟨bs, hbs⟩ : ∃ v, v = w7.heap.size := ⟨_, rfl⟩
                rw [← hw8] at A8 V8 O8 HL8 SR8 LT8 T8 ⊢
                rw [← hG8] at A8 V8 O8 HL8 g8 T8
                rw [← hbs] at T8 ⊢
                clear hw8 hG8 hbs
                have q0 := O8.out.cell 0 (.int .i64 1) rfl
                have q1 := O8.out.cell 1 (.int .i64 0) rfl
                have q2 := O8.out.cell 2 (.int .i64 n') rfl
                have q3 := O8.out.cell 3 (.int .i64 c') rfl
                have q4 := O8.out.cell 4 (.int .i64 (bu - c')) rfl
                have q5 := O8.out.cell 5 (.slice (some ⟨sb, 0, none⟩) 3072 3072) rfl
                have p1 := T8.out.cell 1 (.int .i64 1) rfl
                have p2 := T8.out.cell 2 (.int .i64 0) rfl
                go_upto_region 18 with fail
                go_wp2_with fail
                refine (look_any V8.out hst).mono ?_
                rintro e w9 ⟨rfl, G9, a9⟩
                obtain ⟨l0, l1, l2, l3, l4, l5, hl6⟩ := primW_agg (if lookE code s' = 0 then lookOp code s' else 0)
                unfold lookT
                rw [hl6]
                clear hl6
                have hid : ∀ h4 : 4 ≤ bu - c', n' ≠ 0 := fun h4 => FS.out hst h4
                have A9 := Lib.hid (A8.out.trans (a9.mono (T := S5k 4 1 2 3) fun _ h => h.elim))
                have V9 := Lib.hid (V8.out.still a9)
                have O9 := Lib.hid (O8.out.adv a9 id)
                have HL9 := Lib.hid (HL8.out.adv a9 id)
                have S9 := Lib.hid (SR8.out.adv a9 (fun _ _ => id))
                have g9 : G9 sb = 0 := (a9.own _ LT8).trans g8
                have l9 : sb < w9.heap.size := Nat.lt_of_lt_of_le LT8 a9.size
                clear a9 V8 O8 HL8 SR8 q0 q1 q2 q3 q4 q5 p1 p2
                have P9 := Lib.hid (Mine.made w9 G9 w A9.out.size #[.int .i64 l0, .string l1, .int .i64 l2, .int .i64 l3, .int .i64 l4, .bool l5] 25)
                have al := (Adv.refl (fun _ => False) w9 G9).alloc (.cells #[.int .i64 l0, .string l1, .int .i64 l2, .int .i64 l3, .int .i64 l4, .bool l5] 25) 1000
                have A10 := Lib.hid (A9.out.trans (al.mono (T := S5k 4 1 2 3) fun _ h => h.elim))
                have V10 := Lib.hid (V9.out.still al)
                have O10 := Lib.hid (O9.out.adv al id)
                have HL10 := Lib.hid (HL9.out.adv al id)
                have S10 := Lib.hid (S9.out.adv al (fun _ _ => id))
                have g10 : own1 w9 G9 1000 sb = 0 := (al.own _ l9).trans g9
                clear al
                go_upto_region 19 with fail
                obtain ⟨w10, hw10⟩ : ∃ v, v = w9.alloc (.cells #[.int .i64 l0, .string l1, .int .i64 l2, .int .i64 l3, .int .i64 l4, .bool l5] 25) := ⟨_, rfl⟩
                obtain ⟨G10, hG10⟩ : ∃ v, v = own1 w9 G9 1000 := ⟨_, rfl⟩
                obtain ⟨bp, hbp⟩ : ∃ v, v = w9.heap.size := ⟨_, rfl⟩
                rw [← hw10] at P9 A10 V10 O10 HL10 S10 ⊢
                rw [← hG10] at P9 A10 V10 O10 HL10 g10
                rw [← hbp] at P9 ⊢
                have q0 := O10.out.cell 0 (.int .i64 1) rfl
                have q1 := O10.out.cell 1 (.int .i64 0) rfl
                have q2 := O10.out.cell 2 (.int .i64 n') rfl
                have q3 := O10.out.cell 3 (.int .i64 c') rfl
                have q4 := O10.out.cell 4 (.int .i64 (bu - c')) rfl
                have q5 := O10.out.cell 5 (.slice (some ⟨sb, 0, none⟩) 3072 3072) rfl
                have q6 := O10.out.cell 6 (.slice ta s'.m.tones.length tc) rfl
                have t0 := HL10.out.cell 0 (.int .i64 a0) rfl
                have t1 := HL10.out.cell 1 (.int .i64 a1) rfl
                have t2 := HL10.out.cell 2 (.int .i64 a2) rfl
                have t3 := HL10.out.cell 3 (.int .i64 a3) rfl
                have t4 := HL10.out.cell 4 (.int .i64 a4) rfl
                have t5 := HL10.out.cell 5 (.slice lb ln lc) rfl
                have t6 := HL10.out.cell 6 tv rfl
                have tf := HL10.out.free
                
                clear hw10 hG10 hbp
                by_cases h4 : 4 ≤ bu - c'
                · have d4 : decide (4 ≤ bu - c') = true := by simpa using h4
                  have d5 : (n' == 0) = false := by simpa using hid h4
                  go_wp2_with fail
                  have o7 := own7 (w := w10) (G := G10) bl HL10.out.own (.int .i64 1) (.int .i64 0) (.int .i64 n') (.int .i64 c') (.int .i64 (bu - c')) (.slice (some ⟨sb, 0, none⟩) 3072 3072) (.slice ta s'.m.tones.length tc)
                  refine ⟨⟨i + 1, by simp, by omega, s', G10, 1, 0, n', c', bu - c', some ⟨sb, 0, none⟩, 3072, 3072, .slice ta s'.m.tones.length tc, by simp [hst], A10.out.trans (o7.mono fun _ h => .inr h), V10.out.mine own4123 far4123 o7, FF.out.st, HL10.out.put7 _ _ _ _ _ _ _, fun hne => ⟨hst.symm, hft.symm, rfl, S10.out.adv o7 (fun ad e => by cases e; rw [g10]; decide), fun ad e => by cases e; exact g10⟩⟩, by simp only [intOf]; omega⟩
                · have d4 : decide (4 ≤ bu - c') = false := by simpa using h4
                  go_wp2_with fail
                  have o7 := own7 (w := w10) (G := G10) bl HL10.out.own (.int .i64 1) (.int .i64 0) (.int .i64 n') (.int .i64 c') (.int .i64 (bu - c')) (.slice (some ⟨sb, 0, none⟩) 3072 3072) (.slice ta s'.m.tones.length tc)
                  refine ⟨⟨i + 1, by simp, by omega, s', G10, 1, 0, n', c', bu - c', some ⟨sb, 0, none⟩, 3072, 3072, .slice ta s'.m.tones.length tc, by simp [hst], A10.out.trans (o7.mono fun _ h => .inr h), V10.out.mine own4123 far4123 o7, FF.out.st, HL10.out.put7 _ _ _ _ _ _ _, fun hne => ⟨hst.symm, hft.symm, rfl, S10.out.adv o7 (fun ad e => by cases e; rw [g10]; decide), fun ad e => by cases e; exact g10⟩⟩, by simp only [intOf]; omega⟩
              · have A5 := Lib.hid (AR.out.trans (a5.mono (T := S5k 4 1 2 3) fun _ h => .inl h))
                have V5 := Lib.hid v5
                have HL5 := Lib.hid (HL.out.adv a5 far4123)
                have SR := Lib.hid sr
                clear a5 v5 sr tr
                have hft : s'.ft = 0 := by
                  apply Classical.byContradiction
                  intro hne
                  have := FF.out.st.ft.2 hne
                  dsimp only at this
                  omega
                have A6 := Lib.hid (A5.out.alloc (.cells #[.int .i64 2, .int .i64 0, .int .i64 n', .int .i64 c', .int .i64 (bu - c'), .slice (some ⟨sb, 0, none⟩) 3072 3072, .slice ta s'.m.tones.length tc] 81) 1000)
                have V6 := Lib.hid (V5.out.alloc (.cells #[.int .i64 2, .int .i64 0, .int .i64 n', .int .i64 c', .int .i64 (bu - c'), .slice (some ⟨sb, 0, none⟩) 3072 3072, .slice ta s'.m.tones.length tc] 81) 1000)
                have O6 := Lib.hid (Mine.made w5 G5 w A5.out.size #[.int .i64 2, .int .i64 0, .int .i64 n', .int .i64 c', .int .i64 (bu - c'), .slice (some ⟨sb, 0, none⟩) 3072 3072, .slice ta s'.m.tones.length tc] 81)
                have HL6 := Lib.hid (HL5.out.adv (S := fun _ => False) ((Adv.refl _ w5 G5).alloc (.cells #[.int .i64 2, .int .i64 0, .int .i64 n', .int .i64 c', .int .i64 (bu - c'), .slice (some ⟨sb, 0, none⟩) 3072 3072, .slice ta s'.m.tones.length tc] 81) 1000) id)
                have SR6 := Lib.hid (SR.out.2.1.adv (S := fun _ => False) ((Adv.refl _ w5 G5).alloc (.cells #[.int .i64 2, .int .i64 0, .int .i64 n', .int .i64 c', .int .i64 (bu - c'), .slice (some ⟨sb, 0, none⟩) 3072 3072, .slice ta s'.m.tones.length tc] 81) 1000) (fun _ _ => id))
                have g6 : own1 w5 G5 1000 sb = 0 := (own1_old SR.out.2.2.1).trans SR.out.1
                have LT6 : sb < (w5.alloc (.cells #[.int .i64 2, .int .i64 0, .int .i64 n', .int .i64 c', .int .i64 (bu - c'), .slice (some ⟨sb, 0, none⟩) 3072 3072, .slice ta s'.m.tones.length tc] 81)).heap.size := Nat.lt_of_lt_of_le SR.out.2.2.1 (by simp)
                have hscr : s'.m.screen.length = 3072 := V5.out.ok.gd.mo.screen
                rw [hscr, hst, hft]
                clear hscr
                go_upto_region 11 with fail
                obtain ⟨w6, hw6⟩ : ∃ v, v = w5.alloc (.cells #[.int .i64 2, .int .i64 0, .int .i64 n', .int .i64 c', .int .i64 (bu - c'), .slice (some ⟨sb, 0, none⟩) 3072 3072, .slice ta s'.m.tones.length tc] 81) := ⟨_, rfl⟩
                obtain ⟨G6, hG6⟩ : ∃ v, v = own1 w5 G5 1000 := ⟨_, rfl⟩
                obtain ⟨bo, hbo⟩ : ∃ v, v = w5.heap.size := ⟨_, rfl⟩
                rw [← hw6] at A6 V6 O6 HL6 SR6 LT6 ⊢
                rw [← hG6] at A6 V6 O6 HL6 g6
                rw [← hbo] at O6 ⊢
                clear hw6 hG6 hbo
                have q0 := O6.out.cell 0 (.int .i64 2) rfl
                have q1 := O6.out.cell 1 (.int .i64 0) rfl
                have q2 := O6.out.cell 2 (.int .i64 n') rfl
                have q3 := O6.out.cell 3 (.int .i64 c') rfl
                have q4 := O6.out.cell 4 (.int .i64 (bu - c')) rfl
                have q5 := O6.out.cell 5 (.slice (some ⟨sb, 0, none⟩) 3072 3072) rfl
                obtain ⟨_, fn0, fnc, fc4, fcb⟩ := FF.out
                dsimp only at fn0 fnc fc4 fcb
                have r1 : decide (c' < 0) = false := by simp <;> omega
                have r2 : decide (bu - c' < 0) = false := by simp <;> omega
                have r3 : IntKind.i64.wrap (c' + (bu - c')) = bu := by rw [IntWalk.i64_in _ (by omega)] <;> omega
                have r4 : decide (n' < 0) = false := by simp <;> omega
                have r5 : decide (c' < n') = false := by simp <;> omega
                have r6 : IntKind.i64.wrap (4 * n') = 4 * n' := IntWalk.i64_in _ (by omega)
                have r7 : decide (4 * n' < c') = false := by simp <;> omega
                go_upto_region 13 with fail
                clear r1 r2 r3 r4 r5 r6 r7 q0 q1 q2 q3 q4 q5
                go_wp2_with fail
                refine (state_any V6.out).mono ?_
                rintro e w7 ⟨db, dc, rb, rc, G7, rfl, a7, -, -, -, -⟩
                have A7 := Lib.hid (A6.out.trans (a7.mono (T := S5k 4 1 2 3) fun _ h => h.elim))
                have V7 := Lib.hid (V6.out.still a7)
                have O7 := Lib.hid (O6.out.adv a7 id)
                have HL7 := Lib.hid (HL6.out.adv a7 id)
                have SR7 := Lib.hid (SR6.out.adv a7 (fun _ _ => id))
                have g7 : G7 sb = 0 := (a7.own _ LT6).trans g6
                have LT7 : sb < w7.heap.size := Nat.lt_of_lt_of_le LT6 a7.size
                clear a7
                unfold stateV
                rw [hst, hft]
                have al := (Adv.refl (fun _ => False) w7 G7).alloc (.cells #[.int .u16 s'.pc, .int .i64 2, .int .i64 0, .slice db s'.d.length dc, .slice rb s'.r.length rc] 86) 1000
                have A8 := Lib.hid (A7.out.trans (al.mono (T := S5k 4 1 2 3) fun _ h => h.elim))
                have V8 := Lib.hid (V7.out.still al)
                have O8 := Lib.hid (O7.out.adv al id)
                have HL8 := Lib.hid (HL7.out.adv al id)
                have SR8 := Lib.hid (SR7.out.adv al (fun _ _ => id))
                have g8 : own1 w7 G7 1000 sb = 0 := (al.own _ LT7).trans g7
                have LT8 : sb < (w7.alloc (.cells #[.int .u16 s'.pc, .int .i64 2, .int .i64 0, .slice db s'.d.length dc, .slice rb s'.r.length rc] 86)).heap.size := Nat.lt_of_lt_of_le LT7 al.size
                have T8 := Lib.hid (Mine.made w7 G7 w A7.out.size #[.int .u16 s'.pc, .int .i64 2, .int .i64 0, .slice db s'.d.length dc, .slice rb s'.r.length rc] 86)
                clear al
                go_upto_region 14 with fail
                obtain ⟨w8, hw8⟩ : ∃ v, v = w7.alloc (.cells #[.int .u16 s'.pc, .int .i64 2, .int .i64 0, .slice db s'.d.length dc, .slice rb s'.r.length rc] 86) := ⟨_, rfl⟩
                obtain ⟨G8, hG8⟩ : ∃ v, v = own1 w7 G7 1000 := ⟨_, rfl⟩
                obtain ⟨bs, hbs⟩ : ∃ v, v = w7.heap.size := ⟨_, rfl⟩
                rw [← hw8] at A8 V8 O8 HL8 SR8 LT8 T8 ⊢
                rw [← hG8] at A8 V8 O8 HL8 g8 T8
                rw [← hbs] at T8 ⊢
                clear hw8 hG8 hbs
                have q0 := O8.out.cell 0 (.int .i64 2) rfl
                have q1 := O8.out.cell 1 (.int .i64 0) rfl
                have q2 := O8.out.cell 2 (.int .i64 n') rfl
                have q3 := O8.out.cell 3 (.int .i64 c') rfl
                have q4 := O8.out.cell 4 (.int .i64 (bu - c')) rfl
                have q5 := O8.out.cell 5 (.slice (some ⟨sb, 0, none⟩) 3072 3072) rfl
                have p1 := T8.out.cell 1 (.int .i64 2) rfl
                have p2 := T8.out.cell 2 (.int .i64 0) rfl
                go_upto_region 18 with fail
                go_wp2_with fail
                refine (look_stop V8.out (by rw [hst]; decide)).mono ?_
                rintro e w9 ⟨rfl, G9, a9⟩
                unfold lookT primV0
                have A9 := Lib.hid (A8.out.trans (a9.mono (T := S5k 4 1 2 3) fun _ h => h.elim))
                have V9 := Lib.hid (V8.out.still a9)
                have O9 := Lib.hid (O8.out.adv a9 id)
                have HL9 := Lib.hid (HL8.out.adv a9 id)
                have S9 := Lib.hid (SR8.out.adv a9 (fun _ _ => id))
                have g9 : G9 sb = 0 := (a9.own _ LT8).trans g8
                have l9 : sb < w9.heap.size := Nat.lt_of_lt_of_le LT8 a9.size
                clear a9 V8 O8 HL8 SR8 q0 q1 q2 q3 q4 q5 p1 p2
                have P9 := Lib.hid (Mine.made w9 G9 w A9.out.size #[.int .i64 0, .string ⟨#[]⟩, .int .i64 0, .int .i64 0, .int .i64 0, .bool false] 25)
                have al := (Adv.refl (fun _ => False) w9 G9).alloc (.cells #[.int .i64 0, .string ⟨#[]⟩, .int .i64 0, .int .i64 0, .int .i64 0, .bool false] 25) 1000
                have A10 := Lib.hid (A9.out.trans (al.mono (T := S5k 4 1 2 3) fun _ h => h.elim))
                have V10 := Lib.hid (V9.out.still al)
                have O10 := Lib.hid (O9.out.adv al id)
                have HL10 := Lib.hid (HL9.out.adv al id)
                have S10 := Lib.hid (S9.out.adv al (fun _ _ => id))
                have g10 : own1 w9 G9 1000 sb = 0 := (al.own _ l9).trans g9
                clear al
                go_upto_region 19 with fail
                obtain ⟨w10, hw10⟩ : ∃ v, v = w9.alloc (.cells #[.int .i64 0, .string ⟨#[]⟩, .int .i64 0, .int .i64 0, .int .i64 0, .bool false] 25) := ⟨_, rfl⟩
                obtain ⟨G10, hG10⟩ : ∃ v, v = own1 w9 G9 1000 := ⟨_, rfl⟩
                obtain ⟨bp, hbp⟩ : ∃ v, v = w9.heap.size := ⟨_, rfl⟩
                rw [← hw10] at P9 A10 V10 O10 HL10 S10 ⊢
                rw [← hG10] at P9 A10 V10 O10 HL10 g10
                rw [← hbp] at P9 ⊢
                have q0 := O10.out.cell 0 (.int .i64 2) rfl
                have q1 := O10.out.cell 1 (.int .i64 0) rfl
                have q2 := O10.out.cell 2 (.int .i64 n') rfl
                have q3 := O10.out.cell 3 (.int .i64 c') rfl
                have q4 := O10.out.cell 4 (.int .i64 (bu - c')) rfl
                have q5 := O10.out.cell 5 (.slice (some ⟨sb, 0, none⟩) 3072 3072) rfl
                have q6 := O10.out.cell 6 (.slice ta s'.m.tones.length tc) rfl
                have t0 := HL10.out.cell 0 (.int .i64 a0) rfl
                have t1 := HL10.out.cell 1 (.int .i64 a1) rfl
                have t2 := HL10.out.cell 2 (.int .i64 a2) rfl
                have t3 := HL10.out.cell 3 (.int .i64 a3) rfl
                have t4 := HL10.out.cell 4 (.int .i64 a4) rfl
                have t5 := HL10.out.cell 5 (.slice lb ln lc) rfl
                have t6 := HL10.out.cell 6 tv rfl
                have tf := HL10.out.free
                have z0 := P9.out.cell 0 (.int .i64 0) rfl
                have z1 := P9.out.cell 1 (.string ⟨#[]⟩) rfl
                have z2 := P9.out.cell 2 (.int .i64 0) rfl
                have z3 := P9.out.cell 3 (.int .i64 0) rfl
                have z4 := P9.out.cell 4 (.int .i64 0) rfl
                have z5 := P9.out.cell 5 (.bool false) rfl
                clear hw10 hG10 hbp
                go_wp2_with fail
                have o7 := own7 (w := w10) (G := G10) bl HL10.out.own (.int .i64 2) (.int .i64 0) (.int .i64 n') (.int .i64 c') (.int .i64 (bu - c')) (.slice (some ⟨sb, 0, none⟩) 3072 3072) (.slice ta s'.m.tones.length tc)
                refine ⟨⟨i + 1, by simp, by omega, s', G10, 2, 0, n', c', bu - c', some ⟨sb, 0, none⟩, 3072, 3072, .slice ta s'.m.tones.length tc, by simp [hst], A10.out.trans (o7.mono fun _ h => .inr h), V10.out.mine own4123 far4123 o7, FF.out.st, HL10.out.put7 _ _ _ _ _ _ _, fun hne => ⟨hst.symm, hft.symm, rfl, S10.out.adv o7 (fun ad e => by cases e; rw [g10]; decide), fun ad e => by cases e; exact g10⟩⟩, by simp only [intOf]; omega⟩
              · have A5 := Lib.hid (AR.out.trans (a5.mono (T := S5k 4 1 2 3) fun _ h => .inl h))
                have V5 := Lib.hid v5
                have HL5 := Lib.hid (HL.out.adv a5 far4123)
                have SR := Lib.hid sr
                clear a5 v5 sr tr
                have hf3 : s'.ft ≠ 0 := FF.out.st.ft.1 hst
                have hf4 : (s'.ft == 0) = false := by simpa using hf3
                have hf5 : (s'.ft != 0) = true := by simpa using hf3
                have A6 := Lib.hid (A5.out.alloc (.cells #[.int .i64 3, .int .i64 s'.ft, .int .i64 n', .int .i64 c', .int .i64 (bu - c'), .slice (some ⟨sb, 0, none⟩) 3072 3072, .slice ta s'.m.tones.length tc] 81) 1000)
                have V6 := Lib.hid (V5.out.alloc (.cells #[.int .i64 3, .int .i64 s'.ft, .int .i64 n', .int .i64 c', .int .i64 (bu - c'), .slice (some ⟨sb, 0, none⟩) 3072 3072, .slice ta s'.m.tones.length tc] 81) 1000)
                have O6 := Lib.hid (Mine.made w5 G5 w A5.out.size #[.int .i64 3, .int .i64 s'.ft, .int .i64 n', .int .i64 c', .int .i64 (bu - c'), .slice (some ⟨sb, 0, none⟩) 3072 3072, .slice ta s'.m.tones.length tc] 81)
                have HL6 := Lib.hid (HL5.out.adv (S := fun _ => False) ((Adv.refl _ w5 G5).alloc (.cells #[.int .i64 3, .int .i64 s'.ft, .int .i64 n', .int .i64 c', .int .i64 (bu - c'), .slice (some ⟨sb, 0, none⟩) 3072 3072, .slice ta s'.m.tones.length tc] 81) 1000) id)
                have SR6 := Lib.hid (SR.out.2.1.adv (S := fun _ => False) ((Adv.refl _ w5 G5).alloc (.cells #[.int .i64 3, .int .i64 s'.ft, .int .i64 n', .int .i64 c', .int .i64 (bu - c'), .slice (some ⟨sb, 0, none⟩) 3072 3072, .slice ta s'.m.tones.length tc] 81) 1000) (fun _ _ => id))
                have g6 : own1 w5 G5 1000 sb = 0 := (own1_old SR.out.2.2.1).trans SR.out.1
                have LT6 : sb < (w5.alloc (.cells #[.int .i64 3, .int .i64 s'.ft, .int .i64 n', .int .i64 c', .int .i64 (bu - c'), .slice (some ⟨sb, 0, none⟩) 3072 3072, .slice ta s'.m.tones.length tc] 81)).heap.size := Nat.lt_of_lt_of_le SR.out.2.2.1 (by simp)
                have hscr : s'.m.screen.length = 3072 := V5.out.ok.gd.mo.screen
                rw [hscr, hst]
                clear hscr
                go_upto_region 11 with fail
                obtain ⟨w6, hw6⟩ : ∃ v, v = w5.alloc (.cells #[.int .i64 3, .int .i64 s'.ft, .int .i64 n', .int .i64 c', .int .i64 (bu - c'), .slice (some ⟨sb, 0, none⟩) 3072 3072, .slice ta s'.m.tones.length tc] 81) := ⟨_, rfl⟩
                obtain ⟨G6, hG6⟩ : ∃ v, v = own1 w5 G5 1000 := ⟨_, rfl⟩
                obtain ⟨bo, hbo⟩ : ∃ v, v = w5.heap.size := ⟨_, rfl⟩
                rw [← hw6] at A6 V6 O6 HL6 SR6 LT6 ⊢
                rw [← hG6] at A6 V6 O6 HL6 g6
                rw [← hbo] at O6 ⊢
                clear hw6 hG6 hbo
                have q0 := O6.out.cell 0 (.int .i64 3) rfl
                have q1 := O6.out.cell 1 (.int .i64 s'.ft) rfl
                have q2 := O6.out.cell 2 (.int .i64 n') rfl
                have q3 := O6.out.cell 3 (.int .i64 c') rfl
                have q4 := O6.out.cell 4 (.int .i64 (bu - c')) rfl
                have q5 := O6.out.cell 5 (.slice (some ⟨sb, 0, none⟩) 3072 3072) rfl
                obtain ⟨_, fn0, fnc, fc4, fcb⟩ := FF.out
                dsimp only at fn0 fnc fc4 fcb
                have r1 : decide (c' < 0) = false := by simp <;> omega
                have r2 : decide (bu - c' < 0) = false := by simp <;> omega
                have r3 : IntKind.i64.wrap (c' + (bu - c')) = bu := by rw [IntWalk.i64_in _ (by omega)] <;> omega
                have r4 : decide (n' < 0) = false := by simp <;> omega
                have r5 : decide (c' < n') = false := by simp <;> omega
                have r6 : IntKind.i64.wrap (4 * n') = 4 * n' := IntWalk.i64_in _ (by omega)
                have r7 : decide (4 * n' < c') = false := by simp <;> omega
                go_upto_region 13 with fail
                clear r1 r2 r3 r4 r5 r6 r7 q0 q1 q2 q3 q4 q5
                go_wp2_with fail
                refine (state_any V6.out).mono ?_
                rintro e w7 ⟨db, dc, rb, rc, G7, rfl, a7, -, -, -, -⟩
                have A7 := Lib.hid (A6.out.trans (a7.mono (T := S5k 4 1 2 3) fun _ h => h.elim))
                have V7 := Lib.hid (V6.out.still a7)
                have O7 := Lib.hid (O6.out.adv a7 id)
                have HL7 := Lib.hid (HL6.out.adv a7 id)
                have SR7 := Lib.hid (SR6.out.adv a7 (fun _ _ => id))
                have g7 : G7 sb = 0 := (a7.own _ LT6).trans g6
                have LT7 : sb < w7.heap.size := Nat.lt_of_lt_of_le LT6 a7.size
                clear a7
                unfold stateV
                rw [hst]
                have al := (Adv.refl (fun _ => False) w7 G7).alloc (.cells #[.int .u16 s'.pc, .int .i64 3, .int .i64 s'.ft, .slice db s'.d.length dc, .slice rb s'.r.length rc] 86) 1000
                have A8 := Lib.hid (A7.out.trans (al.mono (T := S5k 4 1 2 3) fun _ h => h.elim))
                have V8 := Lib.hid (V7.out.still al)
                have O8 := Lib.hid (O7.out.adv al id)
                have HL8 := Lib.hid (HL7.out.adv al id)
                have SR8 := Lib.hid (SR7.out.adv al (fun _ _ => id))
                have g8 : own1 w7 G7 1000 sb = 0 := (al.own _ LT7).trans g7
                have LT8 : sb < (w7.alloc (.cells #[.int .u16 s'.pc, .int .i64 3, .int .i64 s'.ft, .slice db s'.d.length dc, .slice rb s'.r.length rc] 86)).heap.size := Nat.lt_of_lt_of_le LT7 al.size
                have T8 := Lib.hid (Mine.made w7 G7 w A7.out.size #[.int .u16 s'.pc, .int .i64 3, .int .i64 s'.ft, .slice db s'.d.length dc, .slice rb s'.r.length rc] 86)
                clear al
                go_upto_region 14 with fail
                obtain ⟨w8, hw8⟩ : ∃ v, v = w7.alloc (.cells #[.int .u16 s'.pc, .int .i64 3, .int .i64 s'.ft, .slice db s'.d.length dc, .slice rb s'.r.length rc] 86) := ⟨_, rfl⟩
                obtain ⟨G8, hG8⟩ : ∃ v, v = own1 w7 G7 1000 := ⟨_, rfl⟩
                obtain ⟨bs, hbs⟩ : ∃ v, v = w7.heap.size := ⟨_, rfl⟩
                rw [← hw8] at A8 V8 O8 HL8 SR8 LT8 T8 ⊢
                rw [← hG8] at A8 V8 O8 HL8 g8 T8
                rw [← hbs] at T8 ⊢
                clear hw8 hG8 hbs
                have q0 := O8.out.cell 0 (.int .i64 3) rfl
                have q1 := O8.out.cell 1 (.int .i64 s'.ft) rfl
                have q2 := O8.out.cell 2 (.int .i64 n') rfl
                have q3 := O8.out.cell 3 (.int .i64 c') rfl
                have q4 := O8.out.cell 4 (.int .i64 (bu - c')) rfl
                have q5 := O8.out.cell 5 (.slice (some ⟨sb, 0, none⟩) 3072 3072) rfl
                have p1 := T8.out.cell 1 (.int .i64 3) rfl
                have p2 := T8.out.cell 2 (.int .i64 s'.ft) rfl
                go_upto_region 18 with fail
                go_wp2_with fail
                refine (look_stop V8.out (by rw [hst]; decide)).mono ?_
                rintro e w9 ⟨rfl, G9, a9⟩
                unfold lookT primV0
                have A9 := Lib.hid (A8.out.trans (a9.mono (T := S5k 4 1 2 3) fun _ h => h.elim))
                have V9 := Lib.hid (V8.out.still a9)
                have O9 := Lib.hid (O8.out.adv a9 id)
                have HL9 := Lib.hid (HL8.out.adv a9 id)
                have S9 := Lib.hid (SR8.out.adv a9 (fun _ _ => id))
                have g9 : G9 sb = 0 := (a9.own _ LT8).trans g8
                have l9 : sb < w9.heap.size := Nat.lt_of_lt_of_le LT8 a9.size
                clear a9 V8 O8 HL8 SR8 q0 q1 q2 q3 q4 q5 p1 p2
                have P9 := Lib.hid (Mine.made w9 G9 w A9.out.size #[.int .i64 0, .string ⟨#[]⟩, .int .i64 0, .int .i64 0, .int .i64 0, .bool false] 25)
                have al := (Adv.refl (fun _ => False) w9 G9).alloc (.cells #[.int .i64 0, .string ⟨#[]⟩, .int .i64 0, .int .i64 0, .int .i64 0, .bool false] 25) 1000
                have A10 := Lib.hid (A9.out.trans (al.mono (T := S5k 4 1 2 3) fun _ h => h.elim))
                have V10 := Lib.hid (V9.out.still al)
                have O10 := Lib.hid (O9.out.adv al id)
                have HL10 := Lib.hid (HL9.out.adv al id)
                have S10 := Lib.hid (S9.out.adv al (fun _ _ => id))
                have g10 : own1 w9 G9 1000 sb = 0 := (al.own _ l9).trans g9
                clear al
                go_upto_region 19 with fail
                obtain ⟨w10, hw10⟩ : ∃ v, v = w9.alloc (.cells #[.int .i64 0, .string ⟨#[]⟩, .int .i64 0, .int .i64 0, .int .i64 0, .bool false] 25) := ⟨_, rfl⟩
                obtain ⟨G10, hG10⟩ : ∃ v, v = own1 w9 G9 1000 := ⟨_, rfl⟩
                obtain ⟨bp, hbp⟩ : ∃ v, v = w9.heap.size := ⟨_, rfl⟩
                rw [← hw10] at P9 A10 V10 O10 HL10 S10 ⊢
                rw [← hG10] at P9 A10 V10 O10 HL10 g10
                rw [← hbp] at P9 ⊢
                have q0 := O10.out.cell 0 (.int .i64 3) rfl
                have q1 := O10.out.cell 1 (.int .i64 s'.ft) rfl
                have q2 := O10.out.cell 2 (.int .i64 n') rfl
                have q3 := O10.out.cell 3 (.int .i64 c') rfl
                have q4 := O10.out.cell 4 (.int .i64 (bu - c')) rfl
                have q5 := O10.out.cell 5 (.slice (some ⟨sb, 0, none⟩) 3072 3072) rfl
                have q6 := O10.out.cell 6 (.slice ta s'.m.tones.length tc) rfl
                have t0 := HL10.out.cell 0 (.int .i64 a0) rfl
                have t1 := HL10.out.cell 1 (.int .i64 a1) rfl
                have t2 := HL10.out.cell 2 (.int .i64 a2) rfl
                have t3 := HL10.out.cell 3 (.int .i64 a3) rfl
                have t4 := HL10.out.cell 4 (.int .i64 a4) rfl
                have t5 := HL10.out.cell 5 (.slice lb ln lc) rfl
                have t6 := HL10.out.cell 6 tv rfl
                have tf := HL10.out.free
                have z0 := P9.out.cell 0 (.int .i64 0) rfl
                have z1 := P9.out.cell 1 (.string ⟨#[]⟩) rfl
                have z2 := P9.out.cell 2 (.int .i64 0) rfl
                have z3 := P9.out.cell 3 (.int .i64 0) rfl
                have z4 := P9.out.cell 4 (.int .i64 0) rfl
                have z5 := P9.out.cell 5 (.bool false) rfl
                clear hw10 hG10 hbp
                go_wp2_with fail
                have o7 := own7 (w := w10) (G := G10) bl HL10.out.own (.int .i64 3) (.int .i64 s'.ft) (.int .i64 n') (.int .i64 c') (.int .i64 (bu - c')) (.slice (some ⟨sb, 0, none⟩) 3072 3072) (.slice ta s'.m.tones.length tc)
                refine ⟨⟨i + 1, by simp, by omega, s', G10, 3, s'.ft, n', c', bu - c', some ⟨sb, 0, none⟩, 3072, 3072, .slice ta s'.m.tones.length tc, by simp [hst], A10.out.trans (o7.mono fun _ h => .inr h), V10.out.mine own4123 far4123 o7, FF.out.st, HL10.out.put7 _ _ _ _ _ _ _, fun hne => ⟨hst.symm, rfl, rfl, S10.out.adv o7 (fun ad e => by cases e; rw [g10]; decide), fun ad e => by cases e; exact g10⟩⟩, by simp only [intOf]; omega⟩
            · rw [show (!(s.st == 1)) = true from by simp [hs1]]
              rcases (show s'.st = 1 ∨ s'.st = 2 ∨ s'.st = 3 from FF.out.st.run) with hst | hst | hst
              · exfalso
                have e := FO.out hs1
                have es : s' = { s with m := beginF s.m x } := congrArg (·.1) e
                rw [es] at hst
                exact hs1 hst
              · have OV := HO.out hs1
                have e := FO.out hs1
                have es : s' = { s with m := beginF s.m x } := congrArg (·.1) e
                have en : n' = 0 := congrArg (·.2.1) e
                have ec : c' = 0 := congrArg (·.2.2) e
                have htn : s'.m.tones.length = 0 := by rw [es]; rfl
                have hsc : s'.m.screen = s.m.screen := by rw [es]; rfl
                have hfe : s.ft = s'.ft := by rw [es]
                have hse : s.st = s'.st := by rw [es]
                have lb0 := OV.2.2.2.1
                rw [← hsc] at lb0
                have LB := Lib.hid lb0
                have LO := Lib.hid OV.2.2.2.2
                have ha0 : a0 = 2 := OV.1.trans (hse.trans hst)
                have ha1 : a1 = s'.ft := OV.2.1.trans hfe
                have hln : ln = 3072 := OV.2.2.1
                clear e es hsc OV hse hfe lb0
                subst en
                subst ec
                subst ha0
                subst hln
                rw [htn, Int.sub_zero]
                clear htn
                have A5 := Lib.hid (AR.out.trans (a5.mono (T := S5k 4 1 2 3) fun _ h => .inl h))
                have V5 := Lib.hid v5
                have HL5 := Lib.hid (HL.out.adv a5 far4123)
                have SR := Lib.hid sr
                have LB5 := Lib.hid (LB.out.adv a5 (fun ad e => by rw [LO.out ad e]; unfold S4 S3; decide))
                clear a5 v5 sr tr
                have hft : s'.ft = 0 := by
                  apply Classical.byContradiction
                  intro hne
                  have := FF.out.st.ft.2 hne
                  dsimp only at this
                  omega
                rw [hft] at ha1
                subst ha1
                have A6 := Lib.hid (A5.out.alloc (.cells #[.int .i64 2, .int .i64 0, .int .i64 0, .int .i64 0, .int .i64 (bu), .slice (some ⟨sb, 0, none⟩) 3072 3072, .slice ta 0 tc] 81) 1000)
                have V6 := Lib.hid (V5.out.alloc (.cells #[.int .i64 2, .int .i64 0, .int .i64 0, .int .i64 0, .int .i64 (bu), .slice (some ⟨sb, 0, none⟩) 3072 3072, .slice ta 0 tc] 81) 1000)
                have O6 := Lib.hid (Mine.made w5 G5 w A5.out.size #[.int .i64 2, .int .i64 0, .int .i64 0, .int .i64 0, .int .i64 (bu), .slice (some ⟨sb, 0, none⟩) 3072 3072, .slice ta 0 tc] 81)
                have HL6 := Lib.hid (HL5.out.adv (S := fun _ => False) ((Adv.refl _ w5 G5).alloc (.cells #[.int .i64 2, .int .i64 0, .int .i64 0, .int .i64 0, .int .i64 (bu), .slice (some ⟨sb, 0, none⟩) 3072 3072, .slice ta 0 tc] 81) 1000) id)
                have SR6 := Lib.hid (SR.out.2.1.adv (S := fun _ => False) ((Adv.refl _ w5 G5).alloc (.cells #[.int .i64 2, .int .i64 0, .int .i64 0, .int .i64 0, .int .i64 (bu), .slice (some ⟨sb, 0, none⟩) 3072 3072, .slice ta 0 tc] 81) 1000) (fun _ _ => id))
                have g6 : own1 w5 G5 1000 sb = 0 := (own1_old SR.out.2.2.1).trans SR.out.1
                have LT6 : sb < (w5.alloc (.cells #[.int .i64 2, .int .i64 0, .int .i64 0, .int .i64 0, .int .i64 (bu), .slice (some ⟨sb, 0, none⟩) 3072 3072, .slice ta 0 tc] 81)).heap.size := Nat.lt_of_lt_of_le SR.out.2.2.1 (by simp)
                have LB6 := Lib.hid (LB5.out.adv (S := fun _ => False) ((Adv.refl _ w5 G5).alloc (.cells #[.int .i64 2, .int .i64 0, .int .i64 0, .int .i64 0, .int .i64 (bu), .slice (some ⟨sb, 0, none⟩) 3072 3072, .slice ta 0 tc] 81) 1000) (fun _ _ => id))
                have hscr : s'.m.screen.length = 3072 := V5.out.ok.gd.mo.screen
                rw [hscr, hst, hft]
                clear hscr
                go_upto_region 11 with fail
                obtain ⟨w6, hw6⟩ : ∃ v, v = w5.alloc (.cells #[.int .i64 2, .int .i64 0, .int .i64 0, .int .i64 0, .int .i64 (bu), .slice (some ⟨sb, 0, none⟩) 3072 3072, .slice ta 0 tc] 81) := ⟨_, rfl⟩
                obtain ⟨G6, hG6⟩ : ∃ v, v = own1 w5 G5 1000 := ⟨_, rfl⟩
                obtain ⟨bo, hbo⟩ : ∃ v, v = w5.heap.size := ⟨_, rfl⟩
                rw [← hw6] at A6 V6 O6 HL6 SR6 LT6 LB6 ⊢
                rw [← hG6] at A6 V6 O6 HL6 g6
                rw [← hbo] at O6 ⊢
                clear hw6 hG6 hbo
                have q0 := O6.out.cell 0 (.int .i64 2) rfl
                have q1 := O6.out.cell 1 (.int .i64 0) rfl
                have q2 := O6.out.cell 2 (.int .i64 0) rfl
                have q3 := O6.out.cell 3 (.int .i64 0) rfl
                have q4 := O6.out.cell 4 (.int .i64 (bu)) rfl
                have q5 := O6.out.cell 5 (.slice (some ⟨sb, 0, none⟩) 3072 3072) rfl
                obtain ⟨_, fn0, fnc, fc4, fcb⟩ := FF.out
                dsimp only at fn0 fnc fc4 fcb
                have r1 : decide (0 < 0) = false := by simp <;> omega
                have r2 : decide (bu < 0) = false := by simp <;> omega
                have r3 : IntKind.i64.wrap (0 + bu) = bu := by rw [IntWalk.i64_in _ (by omega)] <;> omega
                have r4 : decide (0 < 0) = false := by simp <;> omega
                have r5 : decide (0 < 0) = false := by simp <;> omega
                have r6 : IntKind.i64.wrap (4 * 0) = 4 * 0 := IntWalk.i64_in _ (by omega)
                have r7 : decide (4 * 0 < 0) = false := by simp <;> omega
                go_upto_region 13 with fail
                clear r1 r2 r3 r4 r5 r6 r7 q0 q1 q2 q3 q4 q5
                go_wp2_with fail
                refine (state_any V6.out).mono ?_
                rintro e w7 ⟨db, dc, rb, rc, G7, rfl, a7, -, -, -, -⟩
                have A7 := Lib.hid (A6.out.trans (a7.mono (T := S5k 4 1 2 3) fun _ h => h.elim))
                have V7 := Lib.hid (V6.out.still a7)
                have O7 := Lib.hid (O6.out.adv a7 id)
                have HL7 := Lib.hid (HL6.out.adv a7 id)
                have SR7 := Lib.hid (SR6.out.adv a7 (fun _ _ => id))
                have g7 : G7 sb = 0 := (a7.own _ LT6).trans g6
                have LT7 : sb < w7.heap.size := Nat.lt_of_lt_of_le LT6 a7.size
                have LB7 := Lib.hid (LB6.out.adv a7 (fun _ _ => id))
                clear a7
                unfold stateV
                rw [hst, hft]
                have al := (Adv.refl (fun _ => False) w7 G7).alloc (.cells #[.int .u16 s'.pc, .int .i64 2, .int .i64 0, .slice db s'.d.length dc, .slice rb s'.r.length rc] 86) 1000
                have A8 := Lib.hid (A7.out.trans (al.mono (T := S5k 4 1 2 3) fun _ h => h.elim))
                have V8 := Lib.hid (V7.out.still al)
                have O8 := Lib.hid (O7.out.adv al id)
                have HL8 := Lib.hid (HL7.out.adv al id)
                have SR8 := Lib.hid (SR7.out.adv al (fun _ _ => id))
                have g8 : own1 w7 G7 1000 sb = 0 := (al.own _ LT7).trans g7
                have LT8 : sb < (w7.alloc (.cells #[.int .u16 s'.pc, .int .i64 2, .int .i64 0, .slice db s'.d.length dc, .slice rb s'.r.length rc] 86)).heap.size := Nat.lt_of_lt_of_le LT7 al.size
                have T8 := Lib.hid (Mine.made w7 G7 w A7.out.size #[.int .u16 s'.pc, .int .i64 2, .int .i64 0, .slice db s'.d.length dc, .slice rb s'.r.length rc] 86)
                have LB8 := Lib.hid (LB7.out.adv al (fun _ _ => id))
                clear al
                go_upto_region 14 with fail
                obtain ⟨w8, hw8⟩ : ∃ v, v = w7.alloc (.cells #[.int .u16 s'.pc, .int .i64 2, .int .i64 0, .slice db s'.d.length dc, .slice rb s'.r.length rc] 86) := ⟨_, rfl⟩
                obtain ⟨G8, hG8⟩ : ∃ v, v = own1 w7 G7 1000 := ⟨_, rfl⟩
                obtain ⟨bs, hbs⟩ : ∃ v, v = w7.heap.size := ⟨_, rfl⟩
                rw [← hw8] at A8 V8 O8 HL8 SR8 LT8 T8 LB8 ⊢
                rw [← hG8] at A8 V8 O8 HL8 g8 T8
                rw [← hbs] at T8 ⊢
                clear hw8 hG8 hbs
                have q0 := O8.out.cell 0 (.int .i64 2) rfl
                have q1 := O8.out.cell 1 (.int .i64 0) rfl
                have q2 := O8.out.cell 2 (.int .i64 0) rfl
                have q3 := O8.out.cell 3 (.int .i64 0) rfl
                have q4 := O8.out.cell 4 (.int .i64 (bu)) rfl
                have q5 := O8.out.cell 5 (.slice (some ⟨sb, 0, none⟩) 3072 3072) rfl
                have p1 := T8.out.cell 1 (.int .i64 2) rfl
                have p2 := T8.out.cell 2 (.int .i64 0) rfl
                have q6 := O8.out.cell 6 (.slice ta 0 tc) rfl
                have t0 := HL8.out.cell 0 (.int .i64 2) rfl
                have t1 := HL8.out.cell 1 (.int .i64 0) rfl
                have t5 := HL8.out.cell 5 (.slice lb 3072 lc) rfl
                have k1 := conv_reads (c := 3072) SR8.out V8.out.ok.gd.mo.screen (by decide)
                have k2 := conv_reads (c := lc) LB8.out V8.out.ok.gd.mo.screen (by decide)
                go_upto_region 18 with fail
                go_wp2_with fail
                refine (look_stop V8.out (by rw [hst]; decide)).mono ?_
                rintro e w9 ⟨rfl, G9, a9⟩
                unfold lookT primV0
                have A9 := Lib.hid (A8.out.trans (a9.mono (T := S5k 4 1 2 3) fun _ h => h.elim))
                have V9 := Lib.hid (V8.out.still a9)
                have O9 := Lib.hid (O8.out.adv a9 id)
                have HL9 := Lib.hid (HL8.out.adv a9 id)
                have S9 := Lib.hid (SR8.out.adv a9 (fun _ _ => id))
                have g9 : G9 sb = 0 := (a9.own _ LT8).trans g8
                have l9 : sb < w9.heap.size := Nat.lt_of_lt_of_le LT8 a9.size
                clear a9 V8 O8 HL8 SR8 q0 q1 q2 q3 q4 q5 p1 p2
                have P9 := Lib.hid (Mine.made w9 G9 w A9.out.size #[.int .i64 0, .string ⟨#[]⟩, .int .i64 0, .int .i64 0, .int .i64 0, .bool false] 25)
                have al := (Adv.refl (fun _ => False) w9 G9).alloc (.cells #[.int .i64 0, .string ⟨#[]⟩, .int .i64 0, .int .i64 0, .int .i64 0, .bool false] 25) 1000
                have A10 := Lib.hid (A9.out.trans (al.mono (T := S5k 4 1 2 3) fun _ h => h.elim))
                have V10 := Lib.hid (V9.out.still al)
                have O10 := Lib.hid (O9.out.adv al id)
                have HL10 := Lib.hid (HL9.out.adv al id)
                have S10 := Lib.hid (S9.out.adv al (fun _ _ => id))
                have g10 : own1 w9 G9 1000 sb = 0 := (al.own _ l9).trans g9
                clear al
                go_upto_region 19 with fail
                obtain ⟨w10, hw10⟩ : ∃ v, v = w9.alloc (.cells #[.int .i64 0, .string ⟨#[]⟩, .int .i64 0, .int .i64 0, .int .i64 0, .bool false] 25) := ⟨_, rfl⟩
                obtain ⟨G10, hG10⟩ : ∃ v, v = own1 w9 G9 1000 := ⟨_, rfl⟩
                obtain ⟨bp, hbp⟩ : ∃ v, v = w9.heap.size := ⟨_, rfl⟩
                rw [← hw10] at P9 A10 V10 O10 HL10 S10 ⊢
                rw [← hG10] at P9 A10 V10 O10 HL10 g10
                rw [← hbp] at P9 ⊢
                have q0 := O10.out.cell 0 (.int .i64 2) rfl
                have q1 := O10.out.cell 1 (.int .i64 0) rfl
                have q2 := O10.out.cell 2 (.int .i64 0) rfl
                have q3 := O10.out.cell 3 (.int .i64 0) rfl
                have q4 := O10.out.cell 4 (.int .i64 (bu)) rfl
                have q5 := O10.out.cell 5 (.slice (some ⟨sb, 0, none⟩) 3072 3072) rfl
                have q6 := O10.out.cell 6 (.slice ta 0 tc) rfl
                have t0 := HL10.out.cell 0 (.int .i64 2) rfl
                have t1 := HL10.out.cell 1 (.int .i64 0) rfl
                have t2 := HL10.out.cell 2 (.int .i64 a2) rfl
                have t3 := HL10.out.cell 3 (.int .i64 a3) rfl
                have t4 := HL10.out.cell 4 (.int .i64 a4) rfl
                have t5 := HL10.out.cell 5 (.slice lb 3072 lc) rfl
                have t6 := HL10.out.cell 6 tv rfl
                have tf := HL10.out.free
                have z0 := P9.out.cell 0 (.int .i64 0) rfl
                have z1 := P9.out.cell 1 (.string ⟨#[]⟩) rfl
                have z2 := P9.out.cell 2 (.int .i64 0) rfl
                have z3 := P9.out.cell 3 (.int .i64 0) rfl
                have z4 := P9.out.cell 4 (.int .i64 0) rfl
                have z5 := P9.out.cell 5 (.bool false) rfl
                clear hw10 hG10 hbp
                go_wp2_with fail
                have o7 := own7 (w := w10) (G := G10) bl HL10.out.own (.int .i64 2) (.int .i64 0) (.int .i64 0) (.int .i64 0) (.int .i64 (bu)) (.slice (some ⟨sb, 0, none⟩) 3072 3072) (.slice ta 0 tc)
                refine ⟨⟨i + 1, by simp, by omega, s', G10, 2, 0, 0, 0, bu, some ⟨sb, 0, none⟩, 3072, 3072, .slice ta 0 tc, by simp [hst], A10.out.trans (o7.mono fun _ h => .inr h), V10.out.mine own4123 far4123 o7, FF.out.st, HL10.out.put7 _ _ _ _ _ _ _, fun hne => ⟨hst.symm, hft.symm, rfl, S10.out.adv o7 (fun ad e => by cases e; rw [g10]; decide), fun ad e => by cases e; exact g10⟩⟩, by simp only [intOf]; omega⟩
              · have OV := HO.out hs1
                have e := FO.out hs1
                have es : s' = { s with m := beginF s.m x } := congrArg (·.1) e
                have en : n' = 0 := congrArg (·.2.1) e
                have ec : c' = 0 := congrArg (·.2.2) e
                have htn : s'.m.tones.length = 0 := by rw [es]; rfl
                have hsc : s'.m.screen = s.m.screen := by rw [es]; rfl
                have hfe : s.ft = s'.ft := by rw [es]
                have hse : s.st = s'.st := by rw [es]
                have lb0 := OV.2.2.2.1
                rw [← hsc] at lb0
                have LB := Lib.hid lb0
                have LO := Lib.hid OV.2.2.2.2
                have ha0 : a0 = 3 := OV.1.trans (hse.trans hst)
                have ha1 : a1 = s'.ft := OV.2.1.trans hfe
                have hln : ln = 3072 := OV.2.2.1
                clear e es hsc OV hse hfe lb0
                subst en
                subst ec
                subst ha0
                subst hln
                rw [htn, Int.sub_zero]
                clear htn
                have A5 := Lib.hid (AR.out.trans (a5.mono (T := S5k 4 1 2 3) fun _ h => .inl h))
                have V5 := Lib.hid v5
                have HL5 := Lib.hid (HL.out.adv a5 far4123)
                have SR := Lib.hid sr
                have LB5 := Lib.hid (LB.out.adv a5 (fun ad e => by rw [LO.out ad e]; unfold S4 S3; decide))
                clear a5 v5 sr tr
                have hf3 : s'.ft ≠ 0 := FF.out.st.ft.1 hst
                have hf4 : (s'.ft == 0) = false := by simpa using hf3
                have hf5 : (s'.ft != 0) = true := by simpa using hf3
                subst ha1
                have A6 := Lib.hid (A5.out.alloc (.cells #[.int .i64 3, .int .i64 s'.ft, .int .i64 0, .int .i64 0, .int .i64 (bu), .slice (some ⟨sb, 0, none⟩) 3072 3072, .slice ta 0 tc] 81) 1000)
                have V6 := Lib.hid (V5.out.alloc (.cells #[.int .i64 3, .int .i64 s'.ft, .int .i64 0, .int .i64 0, .int .i64 (bu), .slice (some ⟨sb, 0, none⟩) 3072 3072, .slice ta 0 tc] 81) 1000)
                have O6 := Lib.hid (Mine.made w5 G5 w A5.out.size #[.int .i64 3, .int .i64 s'.ft, .int .i64 0, .int .i64 0, .int .i64 (bu), .slice (some ⟨sb, 0, none⟩) 3072 3072, .slice ta 0 tc] 81)
                have HL6 := Lib.hid (HL5.out.adv (S := fun _ => False) ((Adv.refl _ w5 G5).alloc (.cells #[.int .i64 3, .int .i64 s'.ft, .int .i64 0, .int .i64 0, .int .i64 (bu), .slice (some ⟨sb, 0, none⟩) 3072 3072, .slice ta 0 tc] 81) 1000) id)
                have SR6 := Lib.hid (SR.out.2.1.adv (S := fun _ => False) ((Adv.refl _ w5 G5).alloc (.cells #[.int .i64 3, .int .i64 s'.ft, .int .i64 0, .int .i64 0, .int .i64 (bu), .slice (some ⟨sb, 0, none⟩) 3072 3072, .slice ta 0 tc] 81) 1000) (fun _ _ => id))
                have g6 : own1 w5 G5 1000 sb = 0 := (own1_old SR.out.2.2.1).trans SR.out.1
                have LT6 : sb < (w5.alloc (.cells #[.int .i64 3, .int .i64 s'.ft, .int .i64 0, .int .i64 0, .int .i64 (bu), .slice (some ⟨sb, 0, none⟩) 3072 3072, .slice ta 0 tc] 81)).heap.size := Nat.lt_of_lt_of_le SR.out.2.2.1 (by simp)
                have LB6 := Lib.hid (LB5.out.adv (S := fun _ => False) ((Adv.refl _ w5 G5).alloc (.cells #[.int .i64 3, .int .i64 s'.ft, .int .i64 0, .int .i64 0, .int .i64 (bu), .slice (some ⟨sb, 0, none⟩) 3072 3072, .slice ta 0 tc] 81) 1000) (fun _ _ => id))
                have hscr : s'.m.screen.length = 3072 := V5.out.ok.gd.mo.screen
                rw [hscr, hst]
                clear hscr
                go_upto_region 11 with fail
                obtain ⟨w6, hw6⟩ : ∃ v, v = w5.alloc (.cells #[.int .i64 3, .int .i64 s'.ft, .int .i64 0, .int .i64 0, .int .i64 (bu), .slice (some ⟨sb, 0, none⟩) 3072 3072, .slice ta 0 tc] 81) := ⟨_, rfl⟩
                obtain ⟨G6, hG6⟩ : ∃ v, v = own1 w5 G5 1000 := ⟨_, rfl⟩
                obtain ⟨bo, hbo⟩ : ∃ v, v = w5.heap.size := ⟨_, rfl⟩
                rw [← hw6] at A6 V6 O6 HL6 SR6 LT6 LB6 ⊢
                rw [← hG6] at A6 V6 O6 HL6 g6
                rw [← hbo] at O6 ⊢
                clear hw6 hG6 hbo
                have q0 := O6.out.cell 0 (.int .i64 3) rfl
                have q1 := O6.out.cell 1 (.int .i64 s'.ft) rfl
                have q2 := O6.out.cell 2 (.int .i64 0) rfl
                have q3 := O6.out.cell 3 (.int .i64 0) rfl
                have q4 := O6.out.cell 4 (.int .i64 (bu)) rfl
                have q5 := O6.out.cell 5 (.slice (some ⟨sb, 0, none⟩) 3072 3072) rfl
                obtain ⟨_, fn0, fnc, fc4, fcb⟩ := FF.out
                dsimp only at fn0 fnc fc4 fcb
                have r1 : decide (0 < 0) = false := by simp <;> omega
                have r2 : decide (bu < 0) = false := by simp <;> omega
                have r3 : IntKind.i64.wrap (0 + bu) = bu := by rw [IntWalk.i64_in _ (by omega)] <;> omega
                have r4 : decide (0 < 0) = false := by simp <;> omega
                have r5 : decide (0 < 0) = false := by simp <;> omega
                have r6 : IntKind.i64.wrap (4 * 0) = 4 * 0 := IntWalk.i64_in _ (by omega)
                have r7 : decide (4 * 0 < 0) = false := by simp <;> omega
                go_upto_region 13 with fail
                clear r1 r2 r3 r4 r5 r6 r7 q0 q1 q2 q3 q4 q5
                go_wp2_with fail
                refine (state_any V6.out).mono ?_
                rintro e w7 ⟨db, dc, rb, rc, G7, rfl, a7, -, -, -, -⟩
                have A7 := Lib.hid (A6.out.trans (a7.mono (T := S5k 4 1 2 3) fun _ h => h.elim))
                have V7 := Lib.hid (V6.out.still a7)
                have O7 := Lib.hid (O6.out.adv a7 id)
                have HL7 := Lib.hid (HL6.out.adv a7 id)
                have SR7 := Lib.hid (SR6.out.adv a7 (fun _ _ => id))
                have g7 : G7 sb = 0 := (a7.own _ LT6).trans g6
                have LT7 : sb < w7.heap.size := Nat.lt_of_lt_of_le LT6 a7.size
                have LB7 := Lib.hid (LB6.out.adv a7 (fun _ _ => id))
                clear a7
                unfold stateV
                rw [hst]
                have al := (Adv.refl (fun _ => False) w7 G7).alloc (.cells #[.int .u16 s'.pc, .int .i64 3, .int .i64 s'.ft, .slice db s'.d.length dc, .slice rb s'.r.length rc] 86) 1000
                have A8 := Lib.hid (A7.out.trans (al.mono (T := S5k 4 1 2 3) fun _ h => h.elim))
                have V8 := Lib.hid (V7.out.still al)
                have O8 := Lib.hid (O7.out.adv al id)
                have HL8 := Lib.hid (HL7.out.adv al id)
                have SR8 := Lib.hid (SR7.out.adv al (fun _ _ => id))
                have g8 : own1 w7 G7 1000 sb = 0 := (al.own _ LT7).trans g7
                have LT8 : sb < (w7.alloc (.cells #[.int .u16 s'.pc, .int .i64 3, .int .i64 s'.ft, .slice db s'.d.length dc, .slice rb s'.r.length rc] 86)).heap.size := Nat.lt_of_lt_of_le LT7 al.size
                have T8 := Lib.hid (Mine.made w7 G7 w A7.out.size #[.int .u16 s'.pc, .int .i64 3, .int .i64 s'.ft, .slice db s'.d.length dc, .slice rb s'.r.length rc] 86)
                have LB8 := Lib.hid (LB7.out.adv al (fun _ _ => id))
                clear al
                go_upto_region 14 with fail
                obtain ⟨w8, hw8⟩ : ∃ v, v = w7.alloc (.cells #[.int .u16 s'.pc, .int .i64 3, .int .i64 s'.ft, .slice db s'.d.length dc, .slice rb s'.r.length rc] 86) := ⟨_, rfl⟩
                obtain ⟨G8, hG8⟩ : ∃ v, v = own1 w7 G7 1000 := ⟨_, rfl⟩
                obtain ⟨bs, hbs⟩ : ∃ v, v = w7.heap.size := ⟨_, rfl⟩
                rw [← hw8] at A8 V8 O8 HL8 SR8 LT8 T8 LB8 ⊢
                rw [← hG8] at A8 V8 O8 HL8 g8 T8
                rw [← hbs] at T8 ⊢
                clear hw8 hG8 hbs
                have q0 := O8.out.cell 0 (.int .i64 3) rfl
                have q1 := O8.out.cell 1 (.int .i64 s'.ft) rfl
                have q2 := O8.out.cell 2 (.int .i64 0) rfl
                have q3 := O8.out.cell 3 (.int .i64 0) rfl
                have q4 := O8.out.cell 4 (.int .i64 (bu)) rfl
                have q5 := O8.out.cell 5 (.slice (some ⟨sb, 0, none⟩) 3072 3072) rfl
                have p1 := T8.out.cell 1 (.int .i64 3) rfl
                have p2 := T8.out.cell 2 (.int .i64 s'.ft) rfl
                have q6 := O8.out.cell 6 (.slice ta 0 tc) rfl
                have t0 := HL8.out.cell 0 (.int .i64 3) rfl
                have t1 := HL8.out.cell 1 (.int .i64 s'.ft) rfl
                have t5 := HL8.out.cell 5 (.slice lb 3072 lc) rfl
                have k1 := conv_reads (c := 3072) SR8.out V8.out.ok.gd.mo.screen (by decide)
                have k2 := conv_reads (c := lc) LB8.out V8.out.ok.gd.mo.screen (by decide)
                go_upto_region 18 with fail
                go_wp2_with fail
                refine (look_stop V8.out (by rw [hst]; decide)).mono ?_
                rintro e w9 ⟨rfl, G9, a9⟩
                unfold lookT primV0
                have A9 := Lib.hid (A8.out.trans (a9.mono (T := S5k 4 1 2 3) fun _ h => h.elim))
                have V9 := Lib.hid (V8.out.still a9)
                have O9 := Lib.hid (O8.out.adv a9 id)
                have HL9 := Lib.hid (HL8.out.adv a9 id)
                have S9 := Lib.hid (SR8.out.adv a9 (fun _ _ => id))
                have g9 : G9 sb = 0 := (a9.own _ LT8).trans g8
                have l9 : sb < w9.heap.size := Nat.lt_of_lt_of_le LT8 a9.size
                clear a9 V8 O8 HL8 SR8 q0 q1 q2 q3 q4 q5 p1 p2
                have P9 := Lib.hid (Mine.made w9 G9 w A9.out.size #[.int .i64 0, .string ⟨#[]⟩, .int .i64 0, .int .i64 0, .int .i64 0, .bool false] 25)
                have al := (Adv.refl (fun _ => False) w9 G9).alloc (.cells #[.int .i64 0, .string ⟨#[]⟩, .int .i64 0, .int .i64 0, .int .i64 0, .bool false] 25) 1000
                have A10 := Lib.hid (A9.out.trans (al.mono (T := S5k 4 1 2 3) fun _ h => h.elim))
                have V10 := Lib.hid (V9.out.still al)
                have O10 := Lib.hid (O9.out.adv al id)
                have HL10 := Lib.hid (HL9.out.adv al id)
                have S10 := Lib.hid (S9.out.adv al (fun _ _ => id))
                have g10 : own1 w9 G9 1000 sb = 0 := (al.own _ l9).trans g9
                clear al
                go_upto_region 19 with fail
                obtain ⟨w10, hw10⟩ : ∃ v, v = w9.alloc (.cells #[.int .i64 0, .string ⟨#[]⟩, .int .i64 0, .int .i64 0, .int .i64 0, .bool false] 25) := ⟨_, rfl⟩
                obtain ⟨G10, hG10⟩ : ∃ v, v = own1 w9 G9 1000 := ⟨_, rfl⟩
                obtain ⟨bp, hbp⟩ : ∃ v, v = w9.heap.size := ⟨_, rfl⟩
                rw [← hw10] at P9 A10 V10 O10 HL10 S10 ⊢
                rw [← hG10] at P9 A10 V10 O10 HL10 g10
                rw [← hbp] at P9 ⊢
                have q0 := O10.out.cell 0 (.int .i64 3) rfl
                have q1 := O10.out.cell 1 (.int .i64 s'.ft) rfl
                have q2 := O10.out.cell 2 (.int .i64 0) rfl
                have q3 := O10.out.cell 3 (.int .i64 0) rfl
                have q4 := O10.out.cell 4 (.int .i64 (bu)) rfl
                have q5 := O10.out.cell 5 (.slice (some ⟨sb, 0, none⟩) 3072 3072) rfl
                have q6 := O10.out.cell 6 (.slice ta 0 tc) rfl
                have t0 := HL10.out.cell 0 (.int .i64 3) rfl
                have t1 := HL10.out.cell 1 (.int .i64 s'.ft) rfl
                have t2 := HL10.out.cell 2 (.int .i64 a2) rfl
                have t3 := HL10.out.cell 3 (.int .i64 a3) rfl
                have t4 := HL10.out.cell 4 (.int .i64 a4) rfl
                have t5 := HL10.out.cell 5 (.slice lb 3072 lc) rfl
                have t6 := HL10.out.cell 6 tv rfl
                have tf := HL10.out.free
                have z0 := P9.out.cell 0 (.int .i64 0) rfl
                have z1 := P9.out.cell 1 (.string ⟨#[]⟩) rfl
                have z2 := P9.out.cell 2 (.int .i64 0) rfl
                have z3 := P9.out.cell 3 (.int .i64 0) rfl
                have z4 := P9.out.cell 4 (.int .i64 0) rfl
                have z5 := P9.out.cell 5 (.bool false) rfl
                clear hw10 hG10 hbp
                go_wp2_with fail
                have o7 := own7 (w := w10) (G := G10) bl HL10.out.own (.int .i64 3) (.int .i64 s'.ft) (.int .i64 0) (.int .i64 0) (.int .i64 (bu)) (.slice (some ⟨sb, 0, none⟩) 3072 3072) (.slice ta 0 tc)
                refine ⟨⟨i + 1, by simp, by omega, s', G10, 3, s'.ft, 0, 0, bu, some ⟨sb, 0, none⟩, 3072, 3072, .slice ta 0 tc, by simp [hst], A10.out.trans (o7.mono fun _ h => .inr h), V10.out.mine own4123 far4123 o7, FF.out.st, HL10.out.put7 _ _ _ _ _ _ _, fun hne => ⟨hst.symm, rfl, rfl, S10.out.adv o7 (fun ad e => by cases e; rw [g10]; decide), fun ad e => by cases e; exact g10⟩⟩, by simp only [intOf]; omega⟩
          · have d1 : decide ((i : Int) < (pn : Int)) = true := by simp; omega
            have d2 : decide ((i : Int) < (gn : Int)) = true := by simp; omega
            have d3 : decide ((i : Int) < 20) = false := by simp; omega
            go_wp2_with fail
            go_ret
            exact ⟨rfl, _, joined_adv AR.out n0⟩
        · have d1 : decide ((i : Int) < (pn : Int)) = true := by simp; omega
          have d2 : decide ((i : Int) < (gn : Int)) = false := by simp; omega
          go_wp2_with fail
          go_ret
          exact ⟨rfl, _, joined_adv AR.out n0⟩
      · have d1 : decide ((i : Int) < (pn : Int)) = false := by simp; omega
        go_wp2_with fail
        go_ret
        exact ⟨rfl, _, joined_adv AR.out n0⟩
  · have hE' : (checkF n effs banks == 0) = false := by simpa using hE
    refine (vmNew_bad G1 ca1 n cc1 entry ea1 m ec1 ba1 k bc1 w1 _ hE HCH.out).mono ?_
    rintro e w2 ⟨rfl, G2, a2⟩
    have A2 := Lib.hid (A1.out.trans (a2.mono (T := S5k 4 1 2 3) fun _ h => h.elim))
    clear a2
    go_wp2_with fail
    refine (awake_any G2 w2 ((HT.out.adv A2.out n0).relabel fun _ _ _ => rfl)).mono ?_
    rintro e w3 ⟨rfl, G3, a3⟩
    have A3 := Lib.hid (A2.out.trans (a3.mono (T := S5k 4 1 2 3) fun _ h => h.elim))
    clear a3
    go_wp2_with fail
    go_ret
    exact ⟨by rw [show (checkF n effs banks != 0) = true from by simpa using hE]; rfl, _, joined_adv A3.out n0⟩
end Go.Proofs.YtdnalhjdmlkbmaaDoor
namespace Go.Proofs.YtdnalhjdmlkbmaaDoor
open Go.RowKit Go.ChangeShapes Go.WideShapes

/-- Cells that read as data of type t have the form K, and what they hold is within the reach. -/
def Opens (P : Program) (t : TypeId) {α : Type} (K : World → α → List Value → Prop) : Prop :=
  ∀ {H : Type} (enc : TypeId × Value → H) (w : World) (fuel : Nat) (cs : List Value) (x : DataW H × List MemPlace), DataW.trod enc P w 0 (fun _ => true) true fuel t cs = some x →
    (∀ n ∈ DataW.weights P t x.1, n ≤ reachBytes) → ∃ a, K w a cs

def kInt (k : IntKind) : World → Int → List Value → Prop := fun _ n cs => cs = [.int k n] ∧ (Lit.int k n).wf = true
def kBool : World → Bool → List Value → Prop := fun _ b cs => cs = [.bool b]
def kString : World → ByteArray → List Value → Prop := fun _ s cs => cs = [.string s] ∧ s.size ≤ 140737488351232
/-- A slice: its elements, each of 'size' cells; its capacity is within the reach. -/
def kSlice {α : Type} (size bytes : Nat) (K : World → α → List Value → Prop) : World → List α → List Value → Prop := fun w l cs =>
  ∃ a c, cs = [.slice a l.length c] ∧ l.length ≤ c ∧ c * bytes ≤ 140737488351232 ∧
    (l = [] ∨ ∃ b o, a = some ⟨b, o, none⟩ ∧ ∀ i x, l[i]? = some x → ∃ cs', K w x cs' ∧ cs'.length = size ∧ ∀ j u, cs'[j]? = some u → w.cell? ⟨b, o + i * size + j, none⟩ = some u)

theorem opens_int {P : Program} {t : TypeId} {k : IntKind} (ht : P.underlying t = some (.int k)) : Opens P t (kInt k) := by
  intro H enc w fuel cs x h _
  obtain ⟨n, rfl, _, hw⟩ := DataW.trod_int ht h
  exact ⟨n, rfl, hw⟩
theorem opens_bool {P : Program} {t : TypeId} (ht : P.underlying t = some .bool) : Opens P t kBool := by
  intro H enc w fuel cs x h _
  obtain ⟨n, rfl, _⟩ := DataW.trod_bool ht h
  exact ⟨n, rfl⟩
theorem opens_string {P : Program} {t : TypeId} (ht : P.underlying t = some .string) : Opens P t kString := by
  intro H enc w fuel cs x h hr
  obtain ⟨s, rfl, rfl, _⟩ := DataW.trod_string ht h
  refine ⟨s, rfl, ?_⟩
  have := hr s.data.toList.length (by simp [DataW.weights])
  simpa [reachBytes] using this

theorem weights_all {H : Type} {P : Program} {e : TypeId} : ∀ {l : List (DataW H)} {d : DataW H}, d ∈ l → ∀ n ∈ d.weights P e, n ∈ DataW.weightsAll P e l
  | [], d, hd, _, _ => by simp at hd
  | y :: l, d, hd, n, hn => by
    rcases List.mem_cons.1 hd with rfl | h
    · simp [DataW.weightsAll, hn]
    · simp [DataW.weightsAll, weights_all h n hn]

/-- From each place to a list. -/
theorem list_of {α : Type} {p : Nat → α → Prop} : ∀ (n : Nat), (∀ i, i < n → ∃ y, p i y) → ∃ l : List α, l.length = n ∧ ∀ i x, l[i]? = some x → p i x
  | 0, _ => ⟨[], rfl, fun i x hi => by simp at hi⟩
  | m + 1, each => by
    obtain ⟨l, h1, h2⟩ := list_of m (fun i hi => each i (by omega))
    obtain ⟨y, hy⟩ := each m (by omega)
    refine ⟨l ++ [y], by simp [h1], fun i x hi => ?_⟩
    by_cases him : i < l.length
    · exact h2 i x (by rwa [List.getElem?_append_left him] at hi)
    · rw [List.getElem?_append_right (by omega)] at hi
      obtain ⟨rfl, rfl⟩ : i = m ∧ x = y := by
        rw [List.getElem?_singleton] at hi
        split at hi
        · exact ⟨by omega, by simpa using hi.symm⟩
        · cases hi
      exact hy
theorem opens_slice {P : Program} {t e : TypeId} {α : Type} {K : World → α → List Value → Prop} {size bytes : Nat} (ht : P.underlying t = some (.slice e)) (hc : P.cellsOf e = size) (hs : 0 < size) (hb : P.bytesOf e = bytes) (hK : Opens P e K) :
    Opens P t (kSlice size bytes K) := by
  intro H enc w fuel cs x h hr
  rcases DataW.trod_slice ht h with ⟨rfl, rfl⟩ | ⟨a, len, cap, elems, rest, n, _, rfl, rfl, _, hl, _, hlen, hel, hsp, _⟩
  · exact ⟨[], none, 0, rfl, Nat.le_refl _, by omega, .inl rfl⟩
  · obtain ⟨hrl, _⟩ := hsp rfl
    have hcap : cap * bytes ≤ 140737488351232 := by
      have := hr ((elems.map (·.1)).length + (rest.map (·.1)).length |> (· * P.bytesOf e)) (by simp [DataW.weights, ht])
      simp only [List.length_map, hlen, hrl, hb, reachBytes] at this
      rwa [show len + (cap - len) = cap from by omega] at this
    have each : ∀ i, i < len → ∃ y, ∃ cs', K w y cs' ∧ cs'.length = size ∧ ∀ j u, cs'[j]? = some u → w.cell? (a.add (i * size + j)) = some u := by
      intro i hi
      have h1 := hel i hi
      obtain ⟨ei, hei⟩ : ∃ ei, elems[i]? = some ei := ⟨elems[i]'(by omega), by simp⟩
      rw [hei, hc] at h1
      cases hcs : w.cells? 0 (a.add (i * size)) size with
      | none => rw [hcs] at h1; simp at h1
      | some cs' =>
        rw [hcs] at h1
        simp only [Option.bind_some] at h1
        obtain ⟨_, hcl, hcell⟩ := World.cells?_some hcs
        obtain ⟨y, hy⟩ := hK enc w n cs' ei h1 (fun m hm => hr m (by
          simp only [DataW.weights, ht, List.mem_cons, List.mem_append]
          exact .inr (.inl (weights_all (List.mem_map.2 ⟨ei, List.mem_of_getElem? hei, rfl⟩) m hm))))
        refine ⟨y, cs', hy, hcl, fun j u hj => ?_⟩
        have hjl : j < size := by rw [← hcl]; exact (List.getElem?_eq_some_iff.1 hj).1
        have := hcell j hjl
        rw [Go.Deep.add_add] at this
        rw [this]; exact hj
    rcases Nat.eq_zero_or_pos len with h0 | hpos
    · exact ⟨[], some a, cap, by rw [h0]; rfl, by simp, hcap, .inl rfl⟩
    · have hsp0 : ∃ b o, a = ⟨b, o, none⟩ := by
        obtain ⟨y, cs', _, hcl, hcell⟩ := each 0 hpos
        obtain ⟨u, hu⟩ : ∃ u, cs'[0]? = some u := ⟨cs'[0]'(by omega), by simp⟩
        have h2 := hcell 0 u hu
        simp only [Nat.zero_mul, Nat.add_zero, Addr.add_zero'] at h2
        obtain ⟨b, o, sp⟩ := a
        cases sp with
        | none => exact ⟨b, o, rfl⟩
        | some _ => simp only [World.cell?] at h2; split at h2 <;> simp at h2
      obtain ⟨b, o, rfl⟩ := hsp0
      obtain ⟨l, h1, h2⟩ := list_of len each
      refine ⟨l, some ⟨b, o, none⟩, cap, by rw [h1], by omega, hcap, .inr ⟨b, o, rfl, fun i x hi => ?_⟩⟩
      obtain ⟨cs', ha, hb', hc'⟩ := h2 i x hi
      refine ⟨cs', ha, hb', fun j u hj => ?_⟩
      have := hc' j u hj
      rwa [Addr.add_lit, ← Nat.add_assoc] at this

/-- A struct of two fields; of five. -/
theorem opens_struct2 {P : Program} {t : TypeId} {f0 f1 : Field} {α β : Type} {K0 : World → α → List Value → Prop} {K1 : World → β → List Value → Prop} (ht : P.underlying t = some (.struct #[f0, f1]))
    (h0 : Opens P f0.type K0) (h1 : Opens P f1.type K1) : Opens P t (fun w (x : α × β) cs => cs.length = P.cellsOf t ∧ K0 w x.1 ((cs.drop f0.offset).take (P.cellsOf f0.type)) ∧ K1 w x.2 ((cs.drop f1.offset).take (P.cellsOf f1.type))) := by
  intro H enc w fuel cs x h hr
  obtain ⟨xs, n, _, rfl, hl, hlen, hf⟩ := DataW.trod_struct ht h
  match xs, hlen with
  | [y0, y1], _ =>
    have g0 := hf 0 f0 rfl
    have g1 := hf 1 f1 rfl
    have e : DataW.weights P t (.agg ([y0, y1].map (·.1))) = y0.1.weights P f0.type ++ (y1.1.weights P f1.type ++ []) := by simp [DataW.weights, ht, DataW.weightsEach]
    obtain ⟨a, ha⟩ := h0 enc w n _ y0 g0 (fun m hm => hr m (by rw [e]; simp [hm]))
    obtain ⟨b, hb⟩ := h1 enc w n _ y1 g1 (fun m hm => hr m (by rw [e]; simp [hm]))
    exact ⟨(a, b), hl, ha, hb⟩
theorem opens_struct5 {P : Program} {t : TypeId} {f0 f1 f2 f3 f4 : Field} {α β γ δ ε : Type} {K0 : World → α → List Value → Prop} {K1 : World → β → List Value → Prop} {K2 : World → γ → List Value → Prop} {K3 : World → δ → List Value → Prop} {K4 : World → ε → List Value → Prop}
    (ht : P.underlying t = some (.struct #[f0, f1, f2, f3, f4])) (h0 : Opens P f0.type K0) (h1 : Opens P f1.type K1) (h2 : Opens P f2.type K2) (h3 : Opens P f3.type K3) (h4 : Opens P f4.type K4) :
    Opens P t (fun w (x : α × β × γ × δ × ε) cs => cs.length = P.cellsOf t ∧ K0 w x.1 ((cs.drop f0.offset).take (P.cellsOf f0.type)) ∧ K1 w x.2.1 ((cs.drop f1.offset).take (P.cellsOf f1.type)) ∧
      K2 w x.2.2.1 ((cs.drop f2.offset).take (P.cellsOf f2.type)) ∧ K3 w x.2.2.2.1 ((cs.drop f3.offset).take (P.cellsOf f3.type)) ∧ K4 w x.2.2.2.2 ((cs.drop f4.offset).take (P.cellsOf f4.type))) := by
  intro H enc w fuel cs x h hr
  obtain ⟨xs, n, _, rfl, hl, hlen, hf⟩ := DataW.trod_struct ht h
  match xs, hlen with
  | [y0, y1, y2, y3, y4], _ =>
    have e : DataW.weights P t (.agg ([y0, y1, y2, y3, y4].map (·.1))) = y0.1.weights P f0.type ++ (y1.1.weights P f1.type ++ (y2.1.weights P f2.type ++ (y3.1.weights P f3.type ++ (y4.1.weights P f4.type ++ [])))) := by simp [DataW.weights, ht, DataW.weightsEach]
    obtain ⟨a, ha⟩ := h0 enc w n _ y0 (hf 0 f0 rfl) (fun m hm => hr m (by rw [e]; simp [hm]))
    obtain ⟨b, hb⟩ := h1 enc w n _ y1 (hf 1 f1 rfl) (fun m hm => hr m (by rw [e]; simp [hm]))
    obtain ⟨c, hc⟩ := h2 enc w n _ y2 (hf 2 f2 rfl) (fun m hm => hr m (by rw [e]; simp [hm]))
    obtain ⟨d, hd⟩ := h3 enc w n _ y3 (hf 3 f3 rfl) (fun m hm => hr m (by rw [e]; simp [hm]))
    obtain ⟨f, hf⟩ := h4 enc w n _ y4 (hf 4 f4 rfl) (fun m hm => hr m (by rw [e]; simp [hm]))
    exact ⟨(a, b, c, d, f), hl, ha, hb, hc, hd, hf⟩

/-- An argument: its value's cells have the form K. -/
theorem opens_arg {P : Program} {H : Type} {enc : TypeId × Value → H} {w : World} {ts : List TypeId} {ds : List (DataW H)} (hsz : (DataW.weightsEach P ts ds).all (· ≤ reachBytes) = true) {j : Nat} {t : TypeId} {d : DataW H} {v : Value} {p : List MemPlace}
    {α : Type} {K : World → α → List Value → Prop} (hK : Opens P t K) (h : DataW.Trod enc P w 0 (fun _ => true) true t v d p) (htj : ts[j]? = some t) (hdj : ds[j]? = some d) : ∃ a, K w a v.cells.toList := by
  obtain ⟨fuel, hf⟩ := h
  exact hK enc w fuel _ _ hf (fun n hn => by simpa using List.all_eq_true.1 hsz n (DataW.weights_mem_each htj hdj n hn))
#print axioms opens_slice
end Go.Proofs.YtdnalhjdmlkbmaaDoor
namespace Go.Proofs.YtdnalhjdmlkbmaaDoor
open Go.RowKit Go.ChangeShapes Go.WideShapes
set_option linter.unusedVariables false
theorem cellsOf_u8 : Tryd.prog.cellsOf 5 = 1 := by kernel_rfl
theorem bytesOf_u8 : Tryd.prog.bytesOf 5 = 1 := by kernel_rfl
theorem cellsOf_int : Tryd.prog.cellsOf 3 = 1 := by kernel_rfl
theorem bytesOf_int : Tryd.prog.bytesOf 3 = 8 := by kernel_rfl
theorem cellsOf_u16 : Tryd.prog.cellsOf 41 = 1 := by kernel_rfl
theorem cellsOf_sl8 : Tryd.prog.cellsOf 70 = 1 := by kernel_rfl
theorem cellsOf_sle : Tryd.prog.cellsOf 71 = 1 := by kernel_rfl
theorem cellsOf_slb : Tryd.prog.cellsOf 72 = 1 := by kernel_rfl
theorem cellsOf_eff : Tryd.prog.cellsOf 168 = 3 := by kernel_rfl
theorem bytesOf_eff : Tryd.prog.bytesOf 168 = 24 := by kernel_rfl
theorem cellsOf_bank : Tryd.prog.cellsOf 106 = 2 := by kernel_rfl
theorem bytesOf_bank : Tryd.prog.bytesOf 106 = 32 := by kernel_rfl
theorem cellsOf_cart : Tryd.prog.cellsOf 74 = 4 := by kernel_rfl
theorem opens_u8s : Opens Tryd.prog 70 (kSlice 1 1 (kInt .u8)) := opens_slice Tryd.underlying70 cellsOf_u8 (by omega) bytesOf_u8 (opens_int Tryd.underlying5)
theorem opens_ints : Opens Tryd.prog 23 (kSlice 1 8 (kInt .i64)) := opens_slice Tryd.underlying23 cellsOf_int (by omega) bytesOf_int (opens_int Tryd.underlying3)
theorem kBytes {w : World} {l : List Int} {cs : List Value} (h : kSlice 1 1 (kInt .u8) w l cs) : ∃ a c, cs = [.slice a l.length c] ∧ l.length ≤ 140737488351232 ∧ Reads w a (u8s l) ∧ B8 l := by
  obtain ⟨a, c, rfl, h1, h2, h3⟩ := h
  refine ⟨a, c, rfl, by omega, ?_, ?_⟩
  · rcases h3 with rfl | ⟨b, o, rfl, h3⟩
    · exact .inl rfl
    · refine .inr ⟨b, o, rfl, fun j u hu => ?_⟩
      simp only [u8s, List.getElem?_map, Option.map_eq_some_iff] at hu
      obtain ⟨x, hx, rfl⟩ := hu
      obtain ⟨cs', ⟨rfl, _⟩, _, hc⟩ := h3 j x hx
      have := hc 0 _ rfl
      simpa using this
  · intro x hx
    rcases h3 with rfl | ⟨b, o, rfl, h3⟩
    · cases hx
    · obtain ⟨j, hj⟩ := List.getElem?_of_mem hx
      obtain ⟨cs', ⟨_, hw⟩, _⟩ := h3 j x hj
      exact wf_u8_of hw
theorem kInts {w : World} {l : List Int} {cs : List Value} (h : kSlice 1 8 (kInt .i64) w l cs) : ∃ a c, cs = [.slice a l.length c] ∧ l.length ≤ 140737488351232 ∧ Reads w a (l.map (.int .i64)) := by
  obtain ⟨a, c, rfl, h1, h2, h3⟩ := h
  refine ⟨a, c, rfl, by omega, ?_⟩
  rcases h3 with rfl | ⟨b, o, rfl, h3⟩
  · exact .inl rfl
  · refine .inr ⟨b, o, rfl, fun j u hu => ?_⟩
    simp only [List.getElem?_map, Option.map_eq_some_iff] at hu
    obtain ⟨x, hx, rfl⟩ := hu
    obtain ⟨cs', ⟨rfl, _⟩, _, hc⟩ := h3 j x hx
    have := hc 0 _ rfl
    simpa using this
theorem opens_struct3 {P : Program} {t : TypeId} {f0 f1 f2 : Field} {α β γ : Type} {K0 : World → α → List Value → Prop} {K1 : World → β → List Value → Prop} {K2 : World → γ → List Value → Prop}
    (ht : P.underlying t = some (.struct #[f0, f1, f2])) (h0 : Opens P f0.type K0) (h1 : Opens P f1.type K1) (h2 : Opens P f2.type K2) :
    Opens P t (fun w (x : α × β × γ) cs => cs.length = P.cellsOf t ∧ K0 w x.1 ((cs.drop f0.offset).take (P.cellsOf f0.type)) ∧ K1 w x.2.1 ((cs.drop f1.offset).take (P.cellsOf f1.type)) ∧ K2 w x.2.2 ((cs.drop f2.offset).take (P.cellsOf f2.type))) := by
  intro H enc w fuel cs x h hr
  obtain ⟨xs, n, _, rfl, hl, hlen, hf⟩ := DataW.trod_struct ht h
  match xs, hlen with
  | [y0, y1, y2], _ =>
    have e : DataW.weights P t (.agg ([y0, y1, y2].map (·.1))) = y0.1.weights P f0.type ++ (y1.1.weights P f1.type ++ (y2.1.weights P f2.type ++ [])) := by simp [DataW.weights, ht, DataW.weightsEach]
    obtain ⟨a, ha⟩ := h0 enc w n _ y0 (hf 0 f0 rfl) (fun m hm => hr m (by rw [e]; simp [hm]))
    obtain ⟨b, hb⟩ := h1 enc w n _ y1 (hf 1 f1 rfl) (fun m hm => hr m (by rw [e]; simp [hm]))
    obtain ⟨c, hc⟩ := h2 enc w n _ y2 (hf 2 f2 rfl) (fun m hm => hr m (by rw [e]; simp [hm]))
    exact ⟨(a, b, c), hl, ha, hb, hc⟩
theorem opens_struct4 {P : Program} {t : TypeId} {f0 f1 f2 f3 : Field} {α β γ δ : Type} {K0 : World → α → List Value → Prop} {K1 : World → β → List Value → Prop} {K2 : World → γ → List Value → Prop} {K3 : World → δ → List Value → Prop}
    (ht : P.underlying t = some (.struct #[f0, f1, f2, f3])) (h0 : Opens P f0.type K0) (h1 : Opens P f1.type K1) (h2 : Opens P f2.type K2) (h3 : Opens P f3.type K3) :
    Opens P t (fun w (x : α × β × γ × δ) cs => cs.length = P.cellsOf t ∧ K0 w x.1 ((cs.drop f0.offset).take (P.cellsOf f0.type)) ∧ K1 w x.2.1 ((cs.drop f1.offset).take (P.cellsOf f1.type)) ∧ K2 w x.2.2.1 ((cs.drop f2.offset).take (P.cellsOf f2.type)) ∧ K3 w x.2.2.2 ((cs.drop f3.offset).take (P.cellsOf f3.type))) := by
  intro H enc w fuel cs x h hr
  obtain ⟨xs, n, _, rfl, hl, hlen, hf⟩ := DataW.trod_struct ht h
  match xs, hlen with
  | [y0, y1, y2, y3], _ =>
    have e : DataW.weights P t (.agg ([y0, y1, y2, y3].map (·.1))) = y0.1.weights P f0.type ++ (y1.1.weights P f1.type ++ (y2.1.weights P f2.type ++ (y3.1.weights P f3.type ++ []))) := by simp [DataW.weights, ht, DataW.weightsEach]
    obtain ⟨a, ha⟩ := h0 enc w n _ y0 (hf 0 f0 rfl) (fun m hm => hr m (by rw [e]; simp [hm]))
    obtain ⟨b, hb⟩ := h1 enc w n _ y1 (hf 1 f1 rfl) (fun m hm => hr m (by rw [e]; simp [hm]))
    obtain ⟨c, hc⟩ := h2 enc w n _ y2 (hf 2 f2 rfl) (fun m hm => hr m (by rw [e]; simp [hm]))
    obtain ⟨d, hd⟩ := h3 enc w n _ y3 (hf 3 f3 rfl) (fun m hm => hr m (by rw [e]; simp [hm]))
    exact ⟨(a, b, c, d), hl, ha, hb, hc, hd⟩
/-- The cells of an api.Effect; of an api.Bank. -/
def kEff : World → Int × Int × Int → List Value → Prop := fun _ x cs => cs = [.int .u16 x.1, .int .i64 x.2.1, .int .i64 x.2.2]
theorem opens_eff : Opens Tryd.prog 168 kEff := by
  intro H enc w fuel cs x h hr
  obtain ⟨a, h1, h2, h3, h4⟩ := opens_struct3 Tryd.underlying168 (opens_int Tryd.underlying41) (opens_int Tryd.underlying3) (opens_int Tryd.underlying3) enc w fuel cs x h hr
  rw [cellsOf_eff] at h1
  rw [cellsOf_u16] at h2
  rw [cellsOf_int] at h3 h4
  match cs, h1 with
  | [c0, c1, c2], _ =>
    have e0 := h2.1
    have e1 := h3.1
    have e2 := h4.1
    simp at e0 e1 e2
    exact ⟨a, by rw [e0, e1, e2]; rfl⟩
def kBank : World → Int × List Int → List Value → Prop := fun w x cs => ∃ da dc, cs = [.int .i64 x.1, .slice da x.2.length dc] ∧ Reads w da (u8s x.2) ∧ x.2.length ≤ 140737488351232 ∧ B8 x.2
theorem opens_bank : Opens Tryd.prog 106 kBank := by
  intro H enc w fuel cs x h hr
  obtain ⟨a, h1, h2, h3⟩ := opens_struct2 Tryd.underlying106 (opens_int Tryd.underlying3) opens_u8s enc w fuel cs x h hr
  rw [cellsOf_bank] at h1
  rw [cellsOf_int] at h2
  rw [cellsOf_sl8] at h3
  obtain ⟨da, dc, e1, g1, g2, g3⟩ := kBytes h3
  match cs, h1 with
  | [c0, c1], _ =>
    have e0 := h2.1
    simp at e0 e1
    exact ⟨(a.1, a.2), da, dc, by rw [e0, e1], g2, g1, g3⟩
theorem opens_effs : Opens Tryd.prog 71 (kSlice 3 24 kEff) := opens_slice Tryd.underlying71 cellsOf_eff (by omega) bytesOf_eff opens_eff
theorem opens_banks : Opens Tryd.prog 72 (kSlice 2 32 kBank) := opens_slice Tryd.underlying72 cellsOf_bank (by omega) bytesOf_bank opens_bank
theorem effC_get (l : List (Int × Int × Int)) : ∀ (j : Nat) (u : Value), (effC l)[j]? = some u → ∃ (i : Nat) (d : Nat) (c : Int × Int × Int), j = i * 3 + d ∧ l[i]? = some c ∧ [Value.int .u16 c.1, .int .i64 c.2.1, .int .i64 c.2.2][d]? = some u := by
  induction l with
  | nil => intro j u h; simp [effC] at h
  | cons c l ih =>
    intro j u h
    simp only [effC, List.flatMap_cons] at h ih
    match j with
    | 0 => exact ⟨0, 0, c, rfl, rfl, h⟩
    | 1 => exact ⟨0, 1, c, rfl, rfl, h⟩
    | 2 => exact ⟨0, 2, c, rfl, rfl, h⟩
    | j + 3 =>
      obtain ⟨i, d, c', h1, h2, h3⟩ := ih j u h
      exact ⟨i + 1, d, c', by omega, h2, h3⟩
theorem kEffs {w : World} {l : List (Int × Int × Int)} {cs : List Value} (h : kSlice 3 24 kEff w l cs) : ∃ a c, cs = [.slice a l.length c] ∧ l.length * 24 ≤ 140737488351232 ∧ Reads w a (effC l) := by
  obtain ⟨a, c, rfl, h1, h2, h3⟩ := h
  refine ⟨a, c, rfl, by omega, ?_⟩
  rcases h3 with rfl | ⟨b, o, rfl, h3⟩
  · exact .inl rfl
  · refine .inr ⟨b, o, rfl, fun j u hu => ?_⟩
    obtain ⟨i, d, x, rfl, hx, hd⟩ := effC_get l j u hu
    obtain ⟨cs', rfl, _, hc⟩ := h3 i x hx
    have := hc d _ hd
    rwa [← Nat.add_assoc]
theorem kBanks {w : World} {l : List (Int × List Int)} {cs : List Value} (h : kSlice 2 32 kBank w l cs) : ∃ a c, cs = [.slice a l.length c] ∧ l.length * 32 ≤ 140737488351232 ∧ BankIn w a l ∧ (∀ p ∈ l, p.2.length ≤ 140737488351232) ∧ ∀ p ∈ l, B8 p.2 := by
  obtain ⟨a, c, rfl, h1, h2, h3⟩ := h
  have hall : ∀ p ∈ l, p.2.length ≤ 140737488351232 ∧ B8 p.2 := by
    intro p hp
    rcases h3 with rfl | ⟨b, o, rfl, h3⟩
    · cases hp
    · obtain ⟨i, hi⟩ := List.getElem?_of_mem hp
      obtain ⟨cs', ⟨da, dc, _, _, g1, g2⟩, _⟩ := h3 i p hi
      exact ⟨g1, g2⟩
  refine ⟨a, c, rfl, by omega, ?_, fun p hp => (hall p hp).1, fun p hp => (hall p hp).2⟩
  intro k p hp
  rcases h3 with rfl | ⟨b, o, rfl, h3⟩
  · cases hp
  · obtain ⟨cs', ⟨da, dc, rfl, hr, _, _⟩, _, hc⟩ := h3 k p hp
    exact ⟨b, o, da, dc, rfl, hc 0 _ rfl, hc 1 _ rfl, hr⟩
set_option maxRecDepth 100000 in
/-- A cart that came in. -/
theorem open_cart {H : Type} {enc : TypeId × Value → H} {w : World} {ts : List TypeId} {ds : List (DataW H)} (hsz : (DataW.weightsEach Tryd.prog ts ds).all (· ≤ reachBytes) = true) {j : Nat} {d : DataW H} {v : Value} {p : List MemPlace} {base : Nat}
    (h : DataW.Trod enc Tryd.prog w 0 (fun _ => true) true 74 v d p) (ok : Value.okWide Tryd.prog w .any base 74 v) (htj : ts[j]? = some 74) (hdj : ds[j]? = some d) :
    ∃ (ca : Option Addr) (cc : Nat) (entry : Int) (ea : Option Addr) (ec : Nat) (ba : Option Addr) (bc : Nat) (code : List Int) (effs : List (Int × Int × Int)) (banks : List (Int × List Int)),
      v = cartV ca code.length cc entry ea effs.length ec ba banks.length bc ∧ CartIn w ca ea ba code effs banks ∧ code.length ≤ 140737488351232 ∧ effs.length * 24 ≤ 140737488351232 ∧ banks.length * 32 ≤ 140737488351232 ∧
      (∀ p ∈ banks, p.2.length ≤ 140737488351232) ∧ B8 code ∧ (∀ p ∈ banks, B8 p.2) ∧ 0 ≤ entry ∧ entry < 65536 := by
  obtain ⟨⟨code, entry, effs, banks⟩, h1, h2, h3, h4, h5⟩ := opens_arg hsz (j := j) (opens_struct4 Tryd.underlying74 opens_u8s (opens_int Tryd.underlying41) opens_effs opens_banks) h htj hdj
  obtain ⟨cs, rfl, hcs⟩ := okWide_struct Tryd.underlying74 ok
  rw [cellsOf_cart] at h1
  rw [cellsOf_sl8] at h2
  rw [cellsOf_u16] at h3
  rw [cellsOf_sle] at h4
  rw [cellsOf_slb] at h5
  obtain ⟨ca, cc, e1, b1, r1, c8⟩ := kBytes h2
  obtain ⟨ea, ec, e3, b3, r3⟩ := kEffs h4
  obtain ⟨ba, bc, e4, b4, r4, l4, c4⟩ := kBanks h5
  obtain ⟨e2, w2⟩ := h3
  have hw := wf_u16_of w2
  obtain ⟨l, hl⟩ : ∃ l, l = cs.toList := ⟨_, rfl⟩
  have hcl : (Value.agg cs).cells.toList = l := by rw [hl]; rfl
  rw [hcl] at h1 e1 e2 e3 e4
  match l, h1 with
  | [c0, c1, c2, c3], _ =>
    simp at e1 e2 e3 e4
    refine ⟨ca, cc, entry, ea, ec, ba, bc, code, effs, banks, ?_, ⟨r1, r3, r4⟩, b1, b3, b4, l4, c8, c4, hw.1, hw.2⟩
    have : cs = #[c0, c1, c2, c3] := by rw [← Array.toList_inj, ← hl]
    rw [this, e1, e2, e3, e4]
    rfl
end Go.Proofs.YtdnalhjdmlkbmaaDoor
namespace Go.Proofs.YtdnalhjdmlkbmaaDoor.vmExact
open Go.RowKit Go.ChangeShapes Go.WideShapes
set_option linter.unusedVariables false
theorem slice_of8 {a a' : Option Addr} {n n' c c' : Nat} (h : (Value.slice a n c).cells.toList = [.slice a' n' c']) : Value.slice a n c = .slice a' n' c' := by simpa [Value.cells] using h
set_option maxRecDepth 100000 in
theorem vmExact_open {H : Type} {enc : TypeId × Value → H} (W : World) (base : Nat) (v0 : Value) (d0 : DataW H) (p0 : List MemPlace) (h0 : DataW.Trod enc Tryd.prog W 0 (fun _ => true) true 74 v0 d0 p0) (o0 : Value.okWide Tryd.prog W .any base 74 v0)
    (v1 : Value) (d1 : DataW H) (p1 : List MemPlace) (h1 : DataW.Trod enc Tryd.prog W 0 (fun _ => true) true 70 v1 d1 p1) (o1 : Value.okWide Tryd.prog W .any base 70 v1)
    (v2 : Value) (d2 : DataW H) (p2 : List MemPlace) (h2 : DataW.Trod enc Tryd.prog W 0 (fun _ => true) true 23 v2 d2 p2) (o2 : Value.okWide Tryd.prog W .any base 23 v2)
    (hsz : (DataW.weightsEach Tryd.prog ([74, 70, 23] ++ []) ([d0, d1, d2] ++ [])).all (· ≤ reachBytes) = true) (hL : laidMetH Tryd.prog laid4 W) :
    Calls Tryd.prog 7 #[v0, v1, v2] W fun e w' => e = .returned (.bool true) ∧ Below W.heap.size W w' := by
  obtain ⟨ca, cc, entry, ea, ec, ba, bc, code, effs, banks, rfl, hc, bn, bm, bk, bb, c8, b8, e0, e1⟩ := open_cart hsz (j := 0) h0 o0 rfl rfl
  obtain ⟨xs, hx⟩ := opens_arg hsz (j := 1) opens_u8s h1 rfl rfl
  obtain ⟨ys, hy⟩ := opens_arg hsz (j := 2) opens_ints h2 rfl rfl
  obtain ⟨a, n, c, rfl⟩ := okWide_slice Tryd.underlying70 o1
  obtain ⟨b, m, c2, rfl⟩ := okWide_slice Tryd.underlying23 o2
  obtain ⟨a', c', f1, g1, r1, x8⟩ := kBytes hx
  obtain ⟨b', c2', f2, g2, r2⟩ := kInts hy
  rw [slice_of8 f1, slice_of8 f2]
  refine (exact_any (fun _ => 0) ca code.length cc entry ea effs.length ec ba banks.length bc code effs banks a' xs.length c' xs b' ys.length c2' ys W (of_laid hL) rfl rfl rfl hc bn bm bk bb c8 b8 e0 e1 r1 rfl x8 r2 rfl g1 g2).mono ?_
  rintro e w' ⟨rfl, G', ha⟩
  exact ⟨rfl, ha.below (Nat.le_refl _) fun _ _ => id⟩
end Go.Proofs.YtdnalhjdmlkbmaaDoor.vmExact
