/- Frame: the walk; New; threads: the cart of a few cells; awake: what its frame comes to; Calls of a machine that is none; Check of a plain cart; awake: a cart of four steps; VmNone; VmNone, its arguments opened. -/
import Derived.Outline
import Derived.Deep.RegionLaw
import Derived.OpenShut
import Derived.ChangeMaps5
import Derived.Test.YtdnalhjdmlkbmaaDoorVmNoneU1
import Derived.Test.YtdnalhjdmlkbmaaDoorVmNoneU2
import Derived.Test.YtdnalhjdmlkbmaaDoorVmNoneU3
import Derived.Test.YtdnalhjdmlkbmaaDoorVmNoneU4
import Derived.Test.YtdnalhjdmlkbmaaDoorVmNoneU5
import Derived.Test.YtdnalhjdmlkbmaaDoorVmNoneU6
set_option linter.unusedVariables false
set_option linter.unusedSimpArgs false
set_option linter.unnecessarySimpa false
namespace Go.Proofs.YtdnalhjdmlkbmaaDoor
open Go.RowKit
set_option linter.unusedVariables false
section
variable {w w' : World} {G G' : Nat → Nat} {p i j q P D R M : Nat} {code : List Int} {s s' : VmS}
set_option maxRecDepth 100000 in
set_option maxHeartbeats 8000000 in
theorem frame_any (o : Own4 p i j q) (hfar : Far p i j q) (x budget : Int) (x0 : 0 ≤ x) (x1 : x < 256) (b0 : 4 ≤ budget) (b1 : budget ≤ 16384) (h : VM w G p i j q P D R M code s) :
    Calls Tryd.prog 36 #[.pointer (some ⟨P, 0, none⟩), .int .u8 x, .int .i64 budget] w (FrameIs p i j q P D R M code w G (frameF code x budget s).1 (frameF code x budget s).2.1 (frameF code x budget s).2.2 budget) := by
  obtain ⟨F, hF⟩ : ∃ F, F = frameF code x budget s := ⟨_, rfl⟩
  rw [← hF]
  have HF := Lib.hid hF
  have OB := Lib.hid (Mine.made w G w (Nat.le_refl _) #[.int .i64 0, .int .i64 0, .int .i64 0, .int .i64 0, .int .i64 0, (.slice none 0 0), (.slice none 0 0)] 81)
  have H0 := Lib.hid (h.alloc (.cells #[.int .i64 0, .int .i64 0, .int .i64 0, .int .i64 0, .int .i64 0, (.slice none 0 0), (.slice none 0 0)] 81) 1000)
  have A0 := Lib.hid (((Adv.refl (fun _ => False) w G).alloc (.cells #[.int .i64 0, .int .i64 0, .int .i64 0, .int .i64 0, .int .i64 0, (.slice none 0 0), (.slice none 0 0)] 81) 1000).mono (T := S4 p i j q) fun _ h => h.elim)
  have t1 : decide (budget < 4) = false := by simp; omega
  have t2 : decide (16384 < budget) = false := by simp; omega
  have hP := h.lt
  obtain ⟨c0, c1, c2, c3, c4, c6⟩ := h.cells
  clear h hF
  go_enter Tryd.func36, Tryd.ntmps36
  go_wp2_with fail
  refine (begin_any _ q M s.m H0.out.ok.gd.mo H0.out.ok.gd.mr x _ H0.out.tr.pm).mono ?_
  rintro e w1 ⟨rfl, G1, a1, p1⟩
  have hb1 := VM.memCall o H0.out a1 p1 (beginF_ok H0.out.ok.gd.mo x) (beginF_rng H0.out.ok.gd.mr ⟨x0, x1⟩)
  have A1 := Lib.hid (A0.out.trans hb1.1)
  have H1 := Lib.hid (hb1.2.alloc (.cells #[.int .i64 0, .int .i64 0, .int .i64 0, .int .i64 0, .int .i64 0, (.slice none 0 0), (.slice none 0 0)] 81) 1000)
  have OB1 := Lib.hid ((OB.out.adv hb1.1 hfar).adv ((Adv.refl (fun _ => False) w1 G1).alloc (.cells #[.int .i64 0, .int .i64 0, .int .i64 0, .int .i64 0, .int .i64 0, (.slice none 0 0), (.slice none 0 0)] 81) 1000) id)
  have OO1 := Lib.hid (Mine.made w1 G1 w A1.out.size #[.int .i64 0, .int .i64 0, .int .i64 0, .int .i64 0, .int .i64 0, (.slice none 0 0), (.slice none 0 0)] 81)
  have A2 := Lib.hid (A1.out.alloc (.cells #[.int .i64 0, .int .i64 0, .int .i64 0, .int .i64 0, .int .i64 0, (.slice none 0 0), (.slice none 0 0)] 81) 1000)
  have hsz : w.heap.size < w1.heap.size := (Array.getElem?_eq_some_iff.1 (OB.out.adv hb1.1 hfar).blk).1
  clear a1 p1 hb1 c0 c1 c2 c3 c4 c6 hP t1 t2
  go_wp2_with fail
  obtain ⟨bo, hbo⟩ : ∃ b, b = w1.heap.size := ⟨_, rfl⟩
  rw [← hbo] at OO1 ⊢
  have hne : bo ≠ w.heap.size := by omega
  have hbs : w.heap.size < bo := by omega
  clear hbo hsz
  go_loopw [9] (fun vy wr => ∃ (y : Bool) (s1 : VmS) (n c : Int) (Gr : Nat → Nat) (f : Nat), vy = .bool y ∧ Adv (S4 p i j q) w G wr Gr ∧ VM wr Gr p i j q P D R M code s1 ∧ Mine w wr Gr w.heap.size #[.int .i64 0, .int .i64 0, .int .i64 0, .int .i64 0, .int .i64 0, (.slice none 0 0), (.slice none 0 0)] 81 ∧ Mine w wr Gr bo #[.int .i64 0, .int .i64 0, .int .i64 n, .int .i64 c, .int .i64 0, (.slice none 0 0), (.slice none 0 0)] 81 ∧
      0 ≤ n ∧ 0 ≤ c ∧ c ≤ budget ∧ n ≤ c ∧ (s1.m.tones.length : Int) ≤ 3 * c ∧ budget - c ≤ f ∧ frameRest code budget f y s1 n c = F)
    (fun _ wr => (2 * (budget - intOf ((wr.cell? ⟨bo, 3, none⟩).getD undef)) + (if intOf ((wr.cell? ⟨P, 1, none⟩).getD undef) = 1 then 1 else 0)).toNat)
  case atStart =>
    exact ⟨false, _, 0, 0, _, budget.toNat, rfl, A2.out, H1.out, OB1.out, OO1.out, Int.le_refl _, Int.le_refl _, by omega, Int.le_refl _, by simp [beginF], by omega, by rw [HF.out]; rfl⟩
  case round =>
    obtain ⟨y, s1, n, c, Gr, f, rfl, ar, hv, hbb, hoo, n0, cl0, cl1, nc, tn, fl, hrest⟩ := hrel
    have AR := Lib.hid ar
    have HV := Lib.hid hv
    have HB := Lib.hid hbb
    have HO := Lib.hid hoo
    have HR := Lib.hid hrest
    obtain ⟨c0, c1, c2, c3, c4, c6⟩ := hv.cells
    have o2 := hoo.cell 2 (.int .i64 n) rfl
    have o3 := hoo.cell 3 (.int .i64 c) rfl
    have hpc0 := hv.ok.pc0
    clear ar hv hbb hoo hrest
    by_cases hst : s1.st = 1
    · have hstb : (s1.st == 1) = true := by simp [hst]
      cases y with
      | true =>
        have HST := Lib.hid hst
        clear hst
        have HE := Lib.hid (show F = (s1, n, c) from HR.out.symm.trans (if_pos rfl))
        have o4 := HO.out.cell 4 (.int .i64 0) rfl
        have of := HO.out.free
        have i0 : 0 ≤ budget - c := by omega
        have i1 : budget - c ≤ 16384 := by omega
        have V0 := HV
        have O0 := HO
        have B0 := HB
        have C0 := AR
        have x1 := O0.out.set 4 (.int .i64 (budget - c))
        have V1 := Lib.hid (V0.out.mine o hfar x1.1)
        have O1 := Lib.hid (x1.2.sett (show _ = #[.int .i64 0, .int .i64 0, .int .i64 n, .int .i64 c, .int .i64 (budget - c), (.slice none 0 0), (.slice none 0 0)] from rfl))
        have B1 := Lib.hid (B0.out.other (b2 := bo) (Ne.symm hne) 4 (.int .i64 (budget - c)))
        have C1 := Lib.hid (C0.out.setNew (p := ⟨bo, 4, none⟩) O0.out.new (.int .i64 (budget - c)))
        clear x1
        go_wp2_with fail
        obtain ⟨wt, hwt⟩ : ∃ v, v = wr.setCell ⟨bo, 4, none⟩ (.int .i64 (budget - c)) := ⟨_, rfl⟩
        rw [← hwt] at V1 O1 B1 C1 ⊢
        clear hwt
        clear o4 of
        have p0 := O1.out.cell 0 (.int .i64 0) rfl
        have p1 := O1.out.cell 1 (.int .i64 0) rfl
        have pf := O1.out.free
        have x2 := O1.out.set 0 (.int .i64 s1.st)
        have V2 := Lib.hid (V1.out.mine o hfar x2.1)
        have O2 := Lib.hid (x2.2.sett (show _ = #[.int .i64 s1.st, .int .i64 0, .int .i64 n, .int .i64 c, .int .i64 (budget - c), (.slice none 0 0), (.slice none 0 0)] from rfl))
        have B2 := Lib.hid (B1.out.other (b2 := bo) (Ne.symm hne) 0 (.int .i64 s1.st))
        have C2 := Lib.hid (C1.out.setNew (p := ⟨bo, 0, none⟩) O1.out.new (.int .i64 s1.st))
        clear x2
        have x3 := O2.out.set 1 (.int .i64 s1.ft)
        have V3 := Lib.hid (V2.out.mine o hfar x3.1)
        have O3 := Lib.hid (x3.2.sett (show _ = #[.int .i64 s1.st, .int .i64 s1.ft, .int .i64 n, .int .i64 c, .int .i64 (budget - c), (.slice none 0 0), (.slice none 0 0)] from rfl))
        have B3 := Lib.hid (B2.out.other (b2 := bo) (Ne.symm hne) 1 (.int .i64 s1.ft))
        have C3 := Lib.hid (C2.out.setNew (p := ⟨bo, 1, none⟩) O2.out.new (.int .i64 s1.ft))
        clear x3
        have d1 := V1.out.drew.cells.2.1
        have d2 := V1.out.drew.cells.2.2.1
        have Q2 := Lib.hid (And.intro V2.out.drew.cells.2.1 V2.out.drew.cells.2.2.1)
        have Q3 := Lib.hid (And.intro V3.out.drew.cells.2.1 V3.out.drew.cells.2.2.1)
        go_region_held3 (fun w' => w'.cell? ⟨P, 1, none⟩ = some (.int .i64 s1.st) ∧ w'.cell? ⟨P, 2, none⟩ = some (.int .i64 s1.ft)) (first | with_reducible exact ⟨d1, d2⟩ | with_reducible exact Q2.out | with_reducible exact Q3.out) (fail)
        clear p0 p1 pf d1 d2 Q2 Q3
        obtain ⟨w3, hw3⟩ : ∃ v, v = ((wt.setCell ⟨bo, 0, none⟩ (.int .i64 s1.st)).setCell ⟨bo, 1, none⟩ (.int .i64 s1.ft)).drew := ⟨_, rfl⟩
        have V4 := Lib.hid V3.out.drew
        have O4 := Lib.hid O3.out.drew
        have B4 := Lib.hid B3.out.drew
        have C4 := Lib.hid C3.out.drew
        rw [← hw3] at V4 O4 B4 C4 ⊢
        clear hw3
        go_wp2_with fail
        have VD := Lib.hid V4.out.drew
        have c6 := V4.out.drew.cells.2.2.2.2.2
        go_region_held3 (fun w' => w'.cell? ⟨P, 6, none⟩ = some (.pointer (some ⟨M, 0, none⟩))) (first | with_reducible exact c6 | with_reducible exact QA.out | with_reducible exact QB.out | with_reducible exact QC.out | with_reducible exact QD.out)
          (first | (go_at_call 46; refine (screen_any _ q M s1.m VD.out.ok.gd.mo _ VD.out.tr.pm).mono ?_; rintro e wa ⟨sb, Ga, rfl, aa, sg, sn, sr, sl⟩; have VA := Lib.hid (VD.out.still aa); have OA := Lib.hid (O4.out.drew.adv aa id); have BA := Lib.hid (B4.out.drew.adv aa id); have CA := Lib.hid (C4.out.drew.trans (aa.mono (T := S4 p i j q) fun _ h => h.elim)); have SA := Lib.hid (And.intro sg (And.intro sr (And.intro sl (Nat.le_trans C4.out.drew.size sn)))); have QA := Lib.hid VA.out.cells.2.2.2.2.2; clear aa sg sn sr sl) | (go_at_call 31; refine (tones_any _ q 0 M s1.m VA.out.ok.gd.mo (by omega) _ VA.out.tr.pm).mono ?_; rintro e wb ⟨ta, tc, Gb, rfl, ab, rb⟩; have V5 := Lib.hid (VA.out.still ab); have O5 := Lib.hid (OA.out.adv ab id); have B5 := Lib.hid (BA.out.adv ab id); have C5 := Lib.hid (CA.out.trans (ab.mono (T := S4 p i j q) fun _ h => h.elim)); have SB := Lib.hid (And.intro ((ab.own _ SA.out.2.2.1).trans SA.out.1) (And.intro (SA.out.2.1.adv ab (fun _ _ => id)) (And.intro (Nat.lt_of_lt_of_le SA.out.2.2.1 ab.size) SA.out.2.2.2))); have RB := Lib.hid rb; have QB := Lib.hid V5.out.cells.2.2.2.2.2; have p5 := O5.out.cell 5 (.slice none 0 0) rfl; have p6 := O5.out.cell 6 (.slice none 0 0) rfl; have pf := O5.out.free; have x6 := O5.out.set 5 (.slice (some ⟨sb, 0, none⟩) s1.m.screen.length s1.m.screen.length); have V6 := Lib.hid (V5.out.mine o hfar x6.1); have O6 := Lib.hid (x6.2.sett (show _ = #[.int .i64 s1.st, .int .i64 s1.ft, .int .i64 n, .int .i64 c, .int .i64 (budget - c), (.slice (some ⟨sb, 0, none⟩) s1.m.screen.length s1.m.screen.length), (.slice none 0 0)] from rfl)); have B6 := Lib.hid (B5.out.other (b2 := bo) (Ne.symm hne) 5 (.slice (some ⟨sb, 0, none⟩) s1.m.screen.length s1.m.screen.length)); have C6 := Lib.hid (C5.out.setNew (p := ⟨bo, 5, none⟩) O5.out.new (.slice (some ⟨sb, 0, none⟩) s1.m.screen.length s1.m.screen.length)); clear x6; have x7 := O6.out.set 6 (.slice ta s1.m.tones.length tc); have V7 := Lib.hid (V6.out.mine o hfar x7.1); have O7 := Lib.hid (x7.2.sett (show _ = #[.int .i64 s1.st, .int .i64 s1.ft, .int .i64 n, .int .i64 c, .int .i64 (budget - c), (.slice (some ⟨sb, 0, none⟩) s1.m.screen.length s1.m.screen.length), (.slice ta s1.m.tones.length tc)] from rfl)); have B7 := Lib.hid (B6.out.other (b2 := bo) (Ne.symm hne) 6 (.slice ta s1.m.tones.length tc)); have C7 := Lib.hid (C6.out.setNew (p := ⟨bo, 6, none⟩) O6.out.new (.slice ta s1.m.tones.length tc)); clear x7; have QC := Lib.hid V6.out.cells.2.2.2.2.2; have QD := Lib.hid V7.out.cells.2.2.2.2.2; clear ab rb))
        clear p5 p6 pf c6
        obtain ⟨w6, hw6⟩ : ∃ v, v = (wb.setCell ⟨bo, 5, none⟩ (.slice (some ⟨sb, 0, none⟩) s1.m.screen.length s1.m.screen.length)).setCell ⟨bo, 6, none⟩ (.slice ta s1.m.tones.length tc) := ⟨_, rfl⟩
        have SZ := Lib.hid (show (Gb sb = 0 ∧ Reads ((wb.setCell ⟨bo, 5, none⟩ (.slice (some ⟨sb, 0, none⟩) s1.m.screen.length s1.m.screen.length)).setCell ⟨bo, 6, none⟩ (.slice ta s1.m.tones.length tc)) (some ⟨sb, 0, none⟩) (u8s s1.m.screen) ∧ sb < ((wb.setCell ⟨bo, 5, none⟩ (.slice (some ⟨sb, 0, none⟩) s1.m.screen.length s1.m.screen.length)).setCell ⟨bo, 6, none⟩ (.slice ta s1.m.tones.length tc)).heap.size ∧ w.heap.size ≤ sb) from ⟨SB.out.1, SB.out.2.1.adv ((O5.out.set 5 (.slice (some ⟨sb, 0, none⟩) s1.m.screen.length s1.m.screen.length)).1.trans (O6.out.set 6 (.slice ta s1.m.tones.length tc)).1) (fun ad e => by cases e; rw [SB.out.1]; decide), Nat.lt_of_lt_of_le SB.out.2.2.1 ((O5.out.set 5 (.slice (some ⟨sb, 0, none⟩) s1.m.screen.length s1.m.screen.length)).1.trans (O6.out.set 6 (.slice ta s1.m.tones.length tc)).1).size, SB.out.2.2.2⟩)
        have RZ := Lib.hid (RB.out.adv ((O5.out.set 5 (.slice (some ⟨sb, 0, none⟩) s1.m.screen.length s1.m.screen.length)).1.trans (O6.out.set 6 (.slice ta s1.m.tones.length tc)).1) (by decide))
        rw [← hw6] at V7 O7 B7 C7 SZ RZ ⊢
        clear hw6
        have y0 := O7.out.cell 0 (.int .i64 s1.st) rfl
        have y1 := O7.out.cell 1 (.int .i64 s1.ft) rfl
        have y2 := O7.out.cell 2 (.int .i64 n) rfl
        have y3 := O7.out.cell 3 (.int .i64 c) rfl
        have y4 := O7.out.cell 4 (.int .i64 (budget - c)) rfl
        have y5 := O7.out.cell 5 (.slice (some ⟨sb, 0, none⟩) s1.m.screen.length s1.m.screen.length) rfl
        have y6 := O7.out.cell 6 (.slice ta s1.m.tones.length tc) rfl
        have z0 := B7.out.cell 0 (.int .i64 0) rfl
        have z1 := B7.out.cell 1 (.int .i64 0) rfl
        have z2 := B7.out.cell 2 (.int .i64 0) rfl
        have z3 := B7.out.cell 3 (.int .i64 0) rfl
        have z4 := B7.out.cell 4 (.int .i64 0) rfl
        have z5 := B7.out.cell 5 (.slice none 0 0) rfl
        have z6 := B7.out.cell 6 (.slice none 0 0) rfl
        have zf := B7.out.free
        go_wp2_with fail
        rw [HE.out]
        have a7 := own7 (w := w6) (G := Gb) w.heap.size B7.out.own (.int .i64 s1.st) (.int .i64 s1.ft) (.int .i64 n) (.int .i64 c) (.int .i64 (budget - c)) (.slice (some ⟨sb, 0, none⟩) s1.m.screen.length s1.m.screen.length) (.slice ta s1.m.tones.length tc)
        exact bodyPost_ret (v := .tuple #[.agg #[.int .i64 s1.st, .int .i64 s1.ft, .int .i64 n, .int .i64 c, .int .i64 (budget - c), .slice (some ⟨sb, 0, none⟩) s1.m.screen.length s1.m.screen.length, .slice ta s1.m.tones.length tc], .int .i64 0]) (by simp [results, Tryd.results36, go_sem, z0, z1, z2, z3, z4, z5, z6]) rfl
          ⟨sb, ta, tc, Gb, rfl, ((((((C7.out.setNew (p := ⟨w.heap.size, 0, none⟩) (Nat.le_refl _) _).setNew (p := ⟨w.heap.size, 1, none⟩) (Nat.le_refl _) _).setNew (p := ⟨w.heap.size, 2, none⟩) (Nat.le_refl _) _).setNew (p := ⟨w.heap.size, 3, none⟩) (Nat.le_refl _) _).setNew (p := ⟨w.heap.size, 4, none⟩) (Nat.le_refl _) _).setNew (p := ⟨w.heap.size, 5, none⟩) (Nat.le_refl _) _).setNew (p := ⟨w.heap.size, 6, none⟩) (Nat.le_refl _) _,
            V7.out.mine o hfar a7, ⟨SZ.out.1, SZ.out.2.1.adv a7 (fun ad e => by cases e; rw [SZ.out.1]; decide), Nat.lt_of_lt_of_le SZ.out.2.2.1 a7.size, SZ.out.2.2.2⟩, RZ.out.adv a7 (by decide)⟩
      | false =>
        by_cases hc : c < budget
        · have hcb : decide (c < budget) = true := by simpa using hc
          have HST := Lib.hid hst
          clear hst
          have C1M := Lib.hid (show wr.cell? ⟨P, 1, none⟩ = some (.int .i64 s1.st) from c1)
          have C3M := Lib.hid o3
          go_wp2_with fail
          refine (look_any HV.out HST.out).mono ?_
          rintro e w2 ⟨rfl, G2, a2⟩
          have H2 := Lib.hid (HV.out.still a2)
          have O2 := Lib.hid (HO.out.adv a2 id)
          have B2 := Lib.hid (HB.out.adv a2 id)
          have A2 := Lib.hid (AR.out.trans (a2.mono (T := S4 p i j q) fun _ h => h.elim))
          clear a2 c0 c1 c2 c3 c4 c6 o2 o3
          by_cases hlk : lookE code s1 = 0
          · have hk := look_op code s1 hlk
            have hcr := cost_rng code s1 hlk
            have hco : costOf code s1 = costsN (lookOp code s1) := if_pos hlk
            rw [if_pos hlk, if_pos hlk, hlk, show primW (lookOp code s1) = primV (lookOp code s1) from if_neg (by omega)]
            obtain ⟨k, hke⟩ : ∃ k, k = lookOp code s1 := ⟨_, rfl⟩
            rw [← hke] at hco ⊢
            rw [hco] at hcr
            obtain ⟨q0, q1⟩ := hcr
            have HLK := Lib.hid hlk
            have HCO := Lib.hid hco
            clear hk hke hlk hco
            unfold lookT primV
            have V3 := Lib.hid (H2.out.alloc (.cells #[.int .i64 k, .string (nameB k), .int .i64 (takesN k), .int .i64 (leavesN k), .int .i64 (costsN k), .bool (operandB k)] 25) 0)
            have O3 := Lib.hid (O2.out.adv ((Adv.refl (fun _ => False) w2 G2).alloc (.cells #[.int .i64 k, .string (nameB k), .int .i64 (takesN k), .int .i64 (leavesN k), .int .i64 (costsN k), .bool (operandB k)] 25) 0) id)
            have B3 := Lib.hid (B2.out.adv ((Adv.refl (fun _ => False) w2 G2).alloc (.cells #[.int .i64 k, .string (nameB k), .int .i64 (takesN k), .int .i64 (leavesN k), .int .i64 (costsN k), .bool (operandB k)] 25) 0) id)
            have A3 := Lib.hid (A2.out.alloc (.cells #[.int .i64 k, .string (nameB k), .int .i64 (takesN k), .int .i64 (leavesN k), .int .i64 (costsN k), .bool (operandB k)] 25) 0)
            have P3 := Lib.hid (heap_alloc_new w2 (.cells #[.int .i64 k, .string (nameB k), .int .i64 (takesN k), .int .i64 (leavesN k), .int .i64 (costsN k), .bool (operandB k)] 25))
            have hb2 : bo < w2.heap.size := (Array.getElem?_eq_some_iff.1 O2.out.blk).1
            have hP2 := H2.out.lt
            have e3 := O2.out.cell 3 (.int .i64 c) rfl
            obtain ⟨c0, c1, c2, c3, c4, c6⟩ := H2.out.cells
            by_cases hbk : budget < c + costsN k
            · have hov : decide (budget < c + costsN k) = true := by simpa using hbk
              have HBK := Lib.hid hbk
              have HE := Lib.hid (show F = (s1, n, c) from HR.out.symm.trans ((if_neg (by decide)).trans (go_break code budget f s1 n c (by omega) ⟨HST.out, hc⟩ ⟨HLK.out, by rw [HCO.out]; exact HBK.out⟩)))
              have o4 := O2.out.cell 4 (.int .i64 0) rfl
              have of := O2.out.free
              have i0 : 0 ≤ budget - c := by omega
              have i1 : budget - c ≤ 16384 := by omega
              have V0 := H2
              have O0 := O2
              have B0 := B2
              have C0 := A2
              have x1 := O0.out.set 4 (.int .i64 (budget - c))
              have V1 := Lib.hid (V0.out.mine o hfar x1.1)
              have O1 := Lib.hid (x1.2.sett (show _ = #[.int .i64 0, .int .i64 0, .int .i64 n, .int .i64 c, .int .i64 (budget - c), (.slice none 0 0), (.slice none 0 0)] from rfl))
              have B1 := Lib.hid (B0.out.other (b2 := bo) (Ne.symm hne) 4 (.int .i64 (budget - c)))
              have C1 := Lib.hid (C0.out.setNew (p := ⟨bo, 4, none⟩) O0.out.new (.int .i64 (budget - c)))
              clear x1
              replace O1 := Lib.hid (O1.out.adv ((Adv.refl (fun _ => False) _ _).alloc (.cells #[.int .i64 k, .string (nameB k), .int .i64 (takesN k), .int .i64 (leavesN k), .int .i64 (costsN k), .bool (operandB k)] 25) 0) id)
              replace B1 := Lib.hid (B1.out.adv ((Adv.refl (fun _ => False) _ _).alloc (.cells #[.int .i64 k, .string (nameB k), .int .i64 (takesN k), .int .i64 (leavesN k), .int .i64 (costsN k), .bool (operandB k)] 25) 0) id)
              replace C1 := Lib.hid (C1.out.alloc (.cells #[.int .i64 k, .string (nameB k), .int .i64 (takesN k), .int .i64 (leavesN k), .int .i64 (costsN k), .bool (operandB k)] 25) 0)
              replace V1 := Lib.hid (V1.out.alloc (.cells #[.int .i64 k, .string (nameB k), .int .i64 (takesN k), .int .i64 (leavesN k), .int .i64 (costsN k), .bool (operandB k)] 25) 0)
              go_wp2_with fail
              obtain ⟨wt, hwt⟩ : ∃ v, v = (w2.setCell ⟨bo, 4, none⟩ (.int .i64 (budget - c))).alloc (.cells #[.int .i64 k, .string (nameB k), .int .i64 (takesN k), .int .i64 (leavesN k), .int .i64 (costsN k), .bool (operandB k)] 25) := ⟨_, rfl⟩
              rw [← hwt] at V1 O1 B1 C1 ⊢
              clear hwt
              clear o4 of
              have p0 := O1.out.cell 0 (.int .i64 0) rfl
              have p1 := O1.out.cell 1 (.int .i64 0) rfl
              have pf := O1.out.free
              have x2 := O1.out.set 0 (.int .i64 s1.st)
              have V2 := Lib.hid (V1.out.mine o hfar x2.1)
              have O2 := Lib.hid (x2.2.sett (show _ = #[.int .i64 s1.st, .int .i64 0, .int .i64 n, .int .i64 c, .int .i64 (budget - c), (.slice none 0 0), (.slice none 0 0)] from rfl))
              have B2 := Lib.hid (B1.out.other (b2 := bo) (Ne.symm hne) 0 (.int .i64 s1.st))
              have C2 := Lib.hid (C1.out.setNew (p := ⟨bo, 0, none⟩) O1.out.new (.int .i64 s1.st))
              clear x2
              have x3 := O2.out.set 1 (.int .i64 s1.ft)
              have V3 := Lib.hid (V2.out.mine o hfar x3.1)
              have O3 := Lib.hid (x3.2.sett (show _ = #[.int .i64 s1.st, .int .i64 s1.ft, .int .i64 n, .int .i64 c, .int .i64 (budget - c), (.slice none 0 0), (.slice none 0 0)] from rfl))
              have B3 := Lib.hid (B2.out.other (b2 := bo) (Ne.symm hne) 1 (.int .i64 s1.ft))
              have C3 := Lib.hid (C2.out.setNew (p := ⟨bo, 1, none⟩) O2.out.new (.int .i64 s1.ft))
              clear x3
              have d1 := V1.out.drew.cells.2.1
              have d2 := V1.out.drew.cells.2.2.1
              have Q2 := Lib.hid (And.intro V2.out.drew.cells.2.1 V2.out.drew.cells.2.2.1)
              have Q3 := Lib.hid (And.intro V3.out.drew.cells.2.1 V3.out.drew.cells.2.2.1)
              go_region_held3 (fun w' => w'.cell? ⟨P, 1, none⟩ = some (.int .i64 s1.st) ∧ w'.cell? ⟨P, 2, none⟩ = some (.int .i64 s1.ft)) (first | with_reducible exact ⟨d1, d2⟩ | with_reducible exact Q2.out | with_reducible exact Q3.out) (fail)
              clear p0 p1 pf d1 d2 Q2 Q3
              obtain ⟨w3, hw3⟩ : ∃ v, v = ((wt.setCell ⟨bo, 0, none⟩ (.int .i64 s1.st)).setCell ⟨bo, 1, none⟩ (.int .i64 s1.ft)).drew := ⟨_, rfl⟩
              have V4 := Lib.hid V3.out.drew
              have O4 := Lib.hid O3.out.drew
              have B4 := Lib.hid B3.out.drew
              have C4 := Lib.hid C3.out.drew
              rw [← hw3] at V4 O4 B4 C4 ⊢
              clear hw3
              go_wp2_with fail
              have VD := Lib.hid V4.out.drew
              have c6 := V4.out.drew.cells.2.2.2.2.2
              go_region_held3 (fun w' => w'.cell? ⟨P, 6, none⟩ = some (.pointer (some ⟨M, 0, none⟩))) (first | with_reducible exact c6 | with_reducible exact QA.out | with_reducible exact QB.out | with_reducible exact QC.out | with_reducible exact QD.out)
                (first | (go_at_call 46; refine (screen_any _ q M s1.m VD.out.ok.gd.mo _ VD.out.tr.pm).mono ?_; rintro e wa ⟨sb, Ga, rfl, aa, sg, sn, sr, sl⟩; have VA := Lib.hid (VD.out.still aa); have OA := Lib.hid (O4.out.drew.adv aa id); have BA := Lib.hid (B4.out.drew.adv aa id); have CA := Lib.hid (C4.out.drew.trans (aa.mono (T := S4 p i j q) fun _ h => h.elim)); have SA := Lib.hid (And.intro sg (And.intro sr (And.intro sl (Nat.le_trans C4.out.drew.size sn)))); have QA := Lib.hid VA.out.cells.2.2.2.2.2; clear aa sg sn sr sl) | (go_at_call 31; refine (tones_any _ q 0 M s1.m VA.out.ok.gd.mo (by omega) _ VA.out.tr.pm).mono ?_; rintro e wb ⟨ta, tc, Gb, rfl, ab, rb⟩; have V5 := Lib.hid (VA.out.still ab); have O5 := Lib.hid (OA.out.adv ab id); have B5 := Lib.hid (BA.out.adv ab id); have C5 := Lib.hid (CA.out.trans (ab.mono (T := S4 p i j q) fun _ h => h.elim)); have SB := Lib.hid (And.intro ((ab.own _ SA.out.2.2.1).trans SA.out.1) (And.intro (SA.out.2.1.adv ab (fun _ _ => id)) (And.intro (Nat.lt_of_lt_of_le SA.out.2.2.1 ab.size) SA.out.2.2.2))); have RB := Lib.hid rb; have QB := Lib.hid V5.out.cells.2.2.2.2.2; have p5 := O5.out.cell 5 (.slice none 0 0) rfl; have p6 := O5.out.cell 6 (.slice none 0 0) rfl; have pf := O5.out.free; have x6 := O5.out.set 5 (.slice (some ⟨sb, 0, none⟩) s1.m.screen.length s1.m.screen.length); have V6 := Lib.hid (V5.out.mine o hfar x6.1); have O6 := Lib.hid (x6.2.sett (show _ = #[.int .i64 s1.st, .int .i64 s1.ft, .int .i64 n, .int .i64 c, .int .i64 (budget - c), (.slice (some ⟨sb, 0, none⟩) s1.m.screen.length s1.m.screen.length), (.slice none 0 0)] from rfl)); have B6 := Lib.hid (B5.out.other (b2 := bo) (Ne.symm hne) 5 (.slice (some ⟨sb, 0, none⟩) s1.m.screen.length s1.m.screen.length)); have C6 := Lib.hid (C5.out.setNew (p := ⟨bo, 5, none⟩) O5.out.new (.slice (some ⟨sb, 0, none⟩) s1.m.screen.length s1.m.screen.length)); clear x6; have x7 := O6.out.set 6 (.slice ta s1.m.tones.length tc); have V7 := Lib.hid (V6.out.mine o hfar x7.1); have O7 := Lib.hid (x7.2.sett (show _ = #[.int .i64 s1.st, .int .i64 s1.ft, .int .i64 n, .int .i64 c, .int .i64 (budget - c), (.slice (some ⟨sb, 0, none⟩) s1.m.screen.length s1.m.screen.length), (.slice ta s1.m.tones.length tc)] from rfl)); have B7 := Lib.hid (B6.out.other (b2 := bo) (Ne.symm hne) 6 (.slice ta s1.m.tones.length tc)); have C7 := Lib.hid (C6.out.setNew (p := ⟨bo, 6, none⟩) O6.out.new (.slice ta s1.m.tones.length tc)); clear x7; have QC := Lib.hid V6.out.cells.2.2.2.2.2; have QD := Lib.hid V7.out.cells.2.2.2.2.2; clear ab rb))
              clear p5 p6 pf c6
              obtain ⟨w6, hw6⟩ : ∃ v, v = (wb.setCell ⟨bo, 5, none⟩ (.slice (some ⟨sb, 0, none⟩) s1.m.screen.length s1.m.screen.length)).setCell ⟨bo, 6, none⟩ (.slice ta s1.m.tones.length tc) := ⟨_, rfl⟩
              have SZ := Lib.hid (show (Gb sb = 0 ∧ Reads ((wb.setCell ⟨bo, 5, none⟩ (.slice (some ⟨sb, 0, none⟩) s1.m.screen.length s1.m.screen.length)).setCell ⟨bo, 6, none⟩ (.slice ta s1.m.tones.length tc)) (some ⟨sb, 0, none⟩) (u8s s1.m.screen) ∧ sb < ((wb.setCell ⟨bo, 5, none⟩ (.slice (some ⟨sb, 0, none⟩) s1.m.screen.length s1.m.screen.length)).setCell ⟨bo, 6, none⟩ (.slice ta s1.m.tones.length tc)).heap.size ∧ w.heap.size ≤ sb) from ⟨SB.out.1, SB.out.2.1.adv ((O5.out.set 5 (.slice (some ⟨sb, 0, none⟩) s1.m.screen.length s1.m.screen.length)).1.trans (O6.out.set 6 (.slice ta s1.m.tones.length tc)).1) (fun ad e => by cases e; rw [SB.out.1]; decide), Nat.lt_of_lt_of_le SB.out.2.2.1 ((O5.out.set 5 (.slice (some ⟨sb, 0, none⟩) s1.m.screen.length s1.m.screen.length)).1.trans (O6.out.set 6 (.slice ta s1.m.tones.length tc)).1).size, SB.out.2.2.2⟩)
              have RZ := Lib.hid (RB.out.adv ((O5.out.set 5 (.slice (some ⟨sb, 0, none⟩) s1.m.screen.length s1.m.screen.length)).1.trans (O6.out.set 6 (.slice ta s1.m.tones.length tc)).1) (by decide))
              rw [← hw6] at V7 O7 B7 C7 SZ RZ ⊢
              clear hw6
              have y0 := O7.out.cell 0 (.int .i64 s1.st) rfl
              have y1 := O7.out.cell 1 (.int .i64 s1.ft) rfl
              have y2 := O7.out.cell 2 (.int .i64 n) rfl
              have y3 := O7.out.cell 3 (.int .i64 c) rfl
              have y4 := O7.out.cell 4 (.int .i64 (budget - c)) rfl
              have y5 := O7.out.cell 5 (.slice (some ⟨sb, 0, none⟩) s1.m.screen.length s1.m.screen.length) rfl
              have y6 := O7.out.cell 6 (.slice ta s1.m.tones.length tc) rfl
              have z0 := B7.out.cell 0 (.int .i64 0) rfl
              have z1 := B7.out.cell 1 (.int .i64 0) rfl
              have z2 := B7.out.cell 2 (.int .i64 0) rfl
              have z3 := B7.out.cell 3 (.int .i64 0) rfl
              have z4 := B7.out.cell 4 (.int .i64 0) rfl
              have z5 := B7.out.cell 5 (.slice none 0 0) rfl
              have z6 := B7.out.cell 6 (.slice none 0 0) rfl
              have zf := B7.out.free
              go_wp2_with fail
              rw [HE.out]
              have a7 := own7 (w := w6) (G := Gb) w.heap.size B7.out.own (.int .i64 s1.st) (.int .i64 s1.ft) (.int .i64 n) (.int .i64 c) (.int .i64 (budget - c)) (.slice (some ⟨sb, 0, none⟩) s1.m.screen.length s1.m.screen.length) (.slice ta s1.m.tones.length tc)
              exact bodyPost_ret (v := .tuple #[.agg #[.int .i64 s1.st, .int .i64 s1.ft, .int .i64 n, .int .i64 c, .int .i64 (budget - c), .slice (some ⟨sb, 0, none⟩) s1.m.screen.length s1.m.screen.length, .slice ta s1.m.tones.length tc], .int .i64 0]) (by simp [results, Tryd.results36, go_sem, z0, z1, z2, z3, z4, z5, z6]) rfl
                ⟨sb, ta, tc, Gb, rfl, ((((((C7.out.setNew (p := ⟨w.heap.size, 0, none⟩) (Nat.le_refl _) _).setNew (p := ⟨w.heap.size, 1, none⟩) (Nat.le_refl _) _).setNew (p := ⟨w.heap.size, 2, none⟩) (Nat.le_refl _) _).setNew (p := ⟨w.heap.size, 3, none⟩) (Nat.le_refl _) _).setNew (p := ⟨w.heap.size, 4, none⟩) (Nat.le_refl _) _).setNew (p := ⟨w.heap.size, 5, none⟩) (Nat.le_refl _) _).setNew (p := ⟨w.heap.size, 6, none⟩) (Nat.le_refl _) _,
                  V7.out.mine o hfar a7, ⟨SZ.out.1, SZ.out.2.1.adv a7 (fun ad e => by cases e; rw [SZ.out.1]; decide), Nat.lt_of_lt_of_le SZ.out.2.2.1 a7.size, SZ.out.2.2.2⟩, RZ.out.adv a7 (by decide)⟩
            · have hov : decide (budget < c + costsN k) = false := by simpa using hbk
              have HNB := Lib.hid (show ¬ (lookE code s1 = 0 ∧ budget < c + costOf code s1) from fun h => hbk (by have := h.2; rw [HCO.out] at this; exact this))
              have V3d := Lib.hid V3.out.drew
              have d6 := V3.out.drew.cells.2.2.2.2.2
              have d3 := O3.out.drew.cell 3 (.int .i64 c) rfl
              go_upto_region 11 with fail
              clear c0 c1 c2 c3 c4 c6 e3
              go_region_held3 (fun w' => w'.cell? ⟨P, 6, none⟩ = some (.pointer (some ⟨M, 0, none⟩)) ∧ w'.cell? ⟨bo, 3, none⟩ = some (.int .i64 c)) (first | with_reducible exact ⟨d6, d3⟩ | with_reducible exact Q4.out)
                ((go_at_call 44; refine (memAt_any _ q M s1.m V3d.out.ok.gd.mo c _ V3d.out.tr.pm).mono ?_; rintro e w4 ⟨rfl, G4, a4, p4⟩; have hb4 := VM.memCall o V3d.out a4 p4 (atF_ok V3d.out.ok.gd.mo c) (atF_rng V3d.out.ok.gd.mr c); have V4 := Lib.hid hb4.2; have A4 := Lib.hid (A3.out.drew.trans hb4.1); have O4 := Lib.hid (O3.out.drew.adv hb4.1 hfar); have B4 := Lib.hid (B3.out.drew.adv hb4.1 hfar); have P4 := Lib.hid (And.intro ((hb4.1.keep w2.heap.size (Array.getElem?_eq_some_iff.1 P3.out).1 (by show ¬ S4 p i j q (own1 w2 G2 0 w2.heap.size); rw [own1_new]; exact o.zero)).trans P3.out) ((hb4.1.own w2.heap.size (Array.getElem?_eq_some_iff.1 P3.out).1).trans (own1_new w2 G2 0))); have Q4 := Lib.hid (And.intro V4.out.cells.2.2.2.2.2 (O4.out.cell 3 (.int .i64 c) rfl)); clear a4 p4 hb4))
              clear d6 d3 hP2
              obtain ⟨s2, hs2⟩ : ∃ z : VmS, z = { s1 with m := atF s1.m c } := ⟨_, rfl⟩
              have V4s := Lib.hid (show VM w4 G4 p i j q P D R M code s2 from hs2 ▸ V4.out)
              have H2S := Lib.hid hs2
              have hst2 : s2.st = 1 := by rw [hs2]; exact HST.out
              have htn2 : s2.m.tones.length ≤ 99999 := by rw [hs2]; show s1.m.tones.length ≤ 99999; omega
              have htn3 : (s2.m.tones.length : Int) ≤ 3 * c := by rw [hs2]; exact tn
              have hok2 := step_ok code s2 V4s.out.ok
              have hk2 := look_at code s1 (atF s1.m c)
              rw [← hs2] at hk2
              have HST2 := Lib.hid hst2
              clear hs2 hst2
              go_wp2_with fail
              refine (step_any o HST2.out htn2 V4s.out).mono ?_
              rintro e w5 ⟨rfl, G5, a5, h5⟩
              have V5 := Lib.hid h5
              have A5 := Lib.hid (A4.out.trans a5)
              have O5 := Lib.hid (O4.out.adv a5 hfar)
              have B5 := Lib.hid (B4.out.adv a5 hfar)
              have P5 := Lib.hid ((a5.keep w2.heap.size (Array.getElem?_eq_some_iff.1 P4.out.1).1 (by rw [P4.out.2]; exact o.zero)).trans P4.out.1)
              clear a5 h5
              by_cases hse : stepE code s2 = 0
              · have hs3 := step_st_ok code s2 HST2.out hse
                have hgo : ∃ f', f = f' + 1 ∧ frameGo code budget f s1 n c = frameRest code budget f' (stepY code s2) (stepS code s2) (n + 1) (c + costsN k) := by
                  obtain ⟨f', rfl⟩ : ∃ g, f = g + 1 := ⟨f - 1, by omega⟩
                  refine ⟨f', rfl, ?_⟩
                  rw [← HCO.out, H2S.out]
                  exact go_step code budget f' s1 n c ⟨HST.out, hc⟩ HNB.out (H2S.out ▸ hse)
                obtain ⟨f', hf', hgo⟩ := hgo
                obtain ⟨s3, hs3e⟩ : ∃ z : VmS, z = stepS code s2 := ⟨_, rfl⟩
                obtain ⟨y3, hy3⟩ : ∃ z : Bool, z = stepY code s2 := ⟨_, rfl⟩
                rw [← hs3e] at hs3 hok2
                rw [← hs3e, ← hy3] at hgo
                rw [← hy3]
                have V6 := Lib.hid (show VM w5 G5 p i j q P D R M code s3 from hs3e ▸ V5.out)
                have HGO := Lib.hid (And.intro hf' hgo)
                have htn4 := hok2.2
                have d1 := V6.out.cells.2.1
                have hne3 : (s3.st != 3) = true := by simp; omega
                have HS3 := Lib.hid hs3
                have m2 := O5.out.cell 2 (.int .i64 n) rfl
                have m3 := O5.out.cell 3 (.int .i64 c) rfl
                have mf := O5.out.free
                have q4 := block_cell P5.out 4 (.int .i64 (costsN k)) rfl
                have hbp : w2.heap.size ≠ bo := by omega
                have x6 := O5.out.set 2 (.int .i64 (n + 1))
                have V7 := Lib.hid (V6.out.mine o hfar x6.1)
                have O6 := Lib.hid (x6.2.sett (show _ = #[.int .i64 0, .int .i64 0, .int .i64 (n + 1), .int .i64 c, .int .i64 0, (.slice none 0 0), (.slice none 0 0)] from rfl))
                have B6 := Lib.hid (B5.out.other (b2 := bo) (Ne.symm hne) 2 (.int .i64 (n + 1)))
                have A6 := Lib.hid (A5.out.setNew (p := ⟨bo, 2, none⟩) O5.out.new (.int .i64 (n + 1)))
                have x7 := O6.out.set 3 (.int .i64 (c + costsN k))
                have V8 := Lib.hid (V7.out.mine o hfar x7.1)
                have O7 := Lib.hid (x7.2.sett (show _ = #[.int .i64 0, .int .i64 0, .int .i64 (n + 1), .int .i64 (c + costsN k), .int .i64 0, (.slice none 0 0), (.slice none 0 0)] from rfl))
                have B7 := Lib.hid (B6.out.other (b2 := bo) (Ne.symm hne) 3 (.int .i64 (c + costsN k)))
                have A7 := Lib.hid (A6.out.setNew (p := ⟨bo, 3, none⟩) O6.out.new (.int .i64 (c + costsN k)))
                have d8 := V8.out.cells.2.1
                have e8 := O7.out.cell 3 (.int .i64 (c + costsN k)) rfl
                have M8 := Lib.hid (And.intro d8 e8)
                clear x6 x7 hs3e hy3 hs3 hf' hgo hok2 hse d8 e8
                go_wp2
                go_roundw
                case rel =>
                  obtain ⟨hf', hgo⟩ := HGO.out
                  exact ⟨y3, s3, n + 1, c + costsN k, G5, f', rfl, A7.out, V8.out, B7.out, O7.out, by omega, by omega, by omega, by omega, by omega, by omega, by rw [← HR.out]; exact hgo.symm⟩
                case measure =>
                  simp only [M8.out.1, M8.out.2, C1M.out, C3M.out, HST.out, Option.getD_some, intOf]
                  rw [if_pos trivial]
                  split <;> omega
              · have hy : stepY code s2 = false := by
                  unfold stepY
                  have : (stepE code s2 == 0) = false := by simpa using hse
                  rw [this]; rfl
                have hs3 : (stepS code s2).st = 3 := by rw [step_st code s2 hse]
                have hgo : frameGo code budget f s1 n c = (stepS code s2, n, c) := by
                  rw [H2S.out]
                  exact go_fault code budget f s1 n c (by omega) ⟨HST.out, hc⟩ HNB.out (H2S.out ▸ hse)
                rw [hy]
                obtain ⟨s3, hs3e⟩ : ∃ z : VmS, z = stepS code s2 := ⟨_, rfl⟩
                rw [← hs3e] at hs3 hgo hok2
                have V6 := Lib.hid (show VM w5 G5 p i j q P D R M code s3 from hs3e ▸ V5.out)
                have HGO := Lib.hid hgo
                have HS3 := Lib.hid hs3
                have tn3 : s3.m.tones.length ≤ s2.m.tones.length := by rw [hs3e, step_st code s2 hse]; exact Nat.le_refl _
                have d1 : w5.cell? ⟨P, 1, none⟩ = some (.int .i64 3) := by rw [V6.out.cells.2.1, HS3.out]
                have m3 := O5.out.cell 3 (.int .i64 c) rfl
                clear hs3e hs3 hgo hy hse
                go_wp2
                go_roundw
                case rel =>
                  exact ⟨false, s3, n, c, G5, f, rfl, A5.out, V6.out, B5.out, O5.out, n0, cl0, cl1, nc, by omega, fl, by rw [← HR.out]; show frameGo code budget f s3 n c = frameGo code budget f s1 n c; rw [HGO.out]; exact go_stop _ _ _ _ _ _ (fun h => by rw [HS3.out] at h; exact absurd h.1 (by decide))⟩
                case measure =>
                  simp only [d1, m3, C1M.out, C3M.out, HST.out, Option.getD_some, intOf]
                  rw [if_neg (by decide), if_pos trivial]
                  omega
          · rw [if_neg hlk, if_neg hlk, show primW 0 = primV0 from rfl]
            have hlb : (lookE code s1 == 0) = false := by simpa using hlk
            obtain ⟨L, hL⟩ : ∃ L, L = lookE code s1 := ⟨_, rfl⟩
            have HLN := Lib.hid hlk
            have HLE := Lib.hid hL
            rw [← hL] at hlb ⊢
            clear hL hlk
            unfold lookT primV0
            have V3 := Lib.hid (H2.out.alloc (.cells #[.int .i64 0, .string ⟨#[]⟩, .int .i64 0, .int .i64 0, .int .i64 0, .bool false] 25) 0)
            have O3 := Lib.hid (O2.out.adv ((Adv.refl (fun _ => False) w2 G2).alloc (.cells #[.int .i64 0, .string ⟨#[]⟩, .int .i64 0, .int .i64 0, .int .i64 0, .bool false] 25) 0) id)
            have B3 := Lib.hid (B2.out.adv ((Adv.refl (fun _ => False) w2 G2).alloc (.cells #[.int .i64 0, .string ⟨#[]⟩, .int .i64 0, .int .i64 0, .int .i64 0, .bool false] 25) 0) id)
            have A3 := Lib.hid (A2.out.alloc (.cells #[.int .i64 0, .string ⟨#[]⟩, .int .i64 0, .int .i64 0, .int .i64 0, .bool false] 25) 0)
            have P3 := Lib.hid (heap_alloc_new w2 (.cells #[.int .i64 0, .string ⟨#[]⟩, .int .i64 0, .int .i64 0, .int .i64 0, .bool false] 25))
            have hb2 : bo < w2.heap.size := (Array.getElem?_eq_some_iff.1 O2.out.blk).1
            have hP2 := H2.out.lt
            have e3 := O2.out.cell 3 (.int .i64 c) rfl
            obtain ⟨c0, c1, c2, c3, c4, c6⟩ := H2.out.cells
            have V3d := Lib.hid V3.out.drew
            have d6 := V3.out.drew.cells.2.2.2.2.2
            have d3 := O3.out.drew.cell 3 (.int .i64 c) rfl
            go_upto_region 11 with fail
            clear c0 c1 c2 c3 c4 c6 e3
            go_region_held3 (fun w' => w'.cell? ⟨P, 6, none⟩ = some (.pointer (some ⟨M, 0, none⟩)) ∧ w'.cell? ⟨bo, 3, none⟩ = some (.int .i64 c)) (first | with_reducible exact ⟨d6, d3⟩ | with_reducible exact Q4.out)
              ((go_at_call 44; refine (memAt_any _ q M s1.m V3d.out.ok.gd.mo c _ V3d.out.tr.pm).mono ?_; rintro e w4 ⟨rfl, G4, a4, p4⟩; have hb4 := VM.memCall o V3d.out a4 p4 (atF_ok V3d.out.ok.gd.mo c) (atF_rng V3d.out.ok.gd.mr c); have V4 := Lib.hid hb4.2; have A4 := Lib.hid (A3.out.drew.trans hb4.1); have O4 := Lib.hid (O3.out.drew.adv hb4.1 hfar); have B4 := Lib.hid (B3.out.drew.adv hb4.1 hfar); have P4 := Lib.hid (And.intro ((hb4.1.keep w2.heap.size (Array.getElem?_eq_some_iff.1 P3.out).1 (by show ¬ S4 p i j q (own1 w2 G2 0 w2.heap.size); rw [own1_new]; exact o.zero)).trans P3.out) ((hb4.1.own w2.heap.size (Array.getElem?_eq_some_iff.1 P3.out).1).trans (own1_new w2 G2 0))); have Q4 := Lib.hid (And.intro V4.out.cells.2.2.2.2.2 (O4.out.cell 3 (.int .i64 c) rfl)); clear a4 p4 hb4))
            clear d6 d3 hP2
            obtain ⟨s2, hs2⟩ : ∃ z : VmS, z = { s1 with m := atF s1.m c } := ⟨_, rfl⟩
            have V4s := Lib.hid (show VM w4 G4 p i j q P D R M code s2 from hs2 ▸ V4.out)
            have H2S := Lib.hid hs2
            have hst2 : s2.st = 1 := by rw [hs2]; exact HST.out
            have htn2 : s2.m.tones.length ≤ 99999 := by rw [hs2]; show s1.m.tones.length ≤ 99999; omega
            have htn3 : (s2.m.tones.length : Int) ≤ 3 * c := by rw [hs2]; exact tn
            have hok2 := step_ok code s2 V4s.out.ok
            have hk2 := look_at code s1 (atF s1.m c)
            rw [← hs2] at hk2
            have HST2 := Lib.hid hst2
            clear hs2 hst2
            go_wp2_with fail
            refine (step_any o HST2.out htn2 V4s.out).mono ?_
            rintro e w5 ⟨rfl, G5, a5, h5⟩
            have V5 := Lib.hid h5
            have A5 := Lib.hid (A4.out.trans a5)
            have O5 := Lib.hid (O4.out.adv a5 hfar)
            have B5 := Lib.hid (B4.out.adv a5 hfar)
            have P5 := Lib.hid ((a5.keep w2.heap.size (Array.getElem?_eq_some_iff.1 P4.out.1).1 (by rw [P4.out.2]; exact o.zero)).trans P4.out.1)
            clear a5 h5
            have hse : stepE code s2 ≠ 0 := by
              unfold stepE
              rw [hk2.1, if_pos HLN.out]; exact HLN.out
            have hy : stepY code s2 = false := by
              unfold stepY
              have : (stepE code s2 == 0) = false := by simpa using hse
              rw [this]; rfl
            have hs3 : (stepS code s2).st = 3 := by rw [step_st code s2 hse]
            have hgo : frameGo code budget f s1 n c = (stepS code s2, n, c) := by
              rw [H2S.out]
              exact go_fault code budget f s1 n c (by omega) ⟨HST.out, hc⟩ (fun h => HLN.out h.1) (H2S.out ▸ hse)
            rw [hy]
            obtain ⟨s3, hs3e⟩ : ∃ z : VmS, z = stepS code s2 := ⟨_, rfl⟩
            rw [← hs3e] at hs3 hgo hok2
            have V6 := Lib.hid (show VM w5 G5 p i j q P D R M code s3 from hs3e ▸ V5.out)
            have HGO := Lib.hid hgo
            have HS3 := Lib.hid hs3
            have tn3 : s3.m.tones.length ≤ s2.m.tones.length := by rw [hs3e, step_st code s2 hse]; exact Nat.le_refl _
            have d1 : w5.cell? ⟨P, 1, none⟩ = some (.int .i64 3) := by rw [V6.out.cells.2.1, HS3.out]
            have m3 := O5.out.cell 3 (.int .i64 c) rfl
            clear hs3e hs3 hgo hy hse
            go_wp2
            go_roundw
            case rel =>
              exact ⟨false, s3, n, c, G5, f, rfl, A5.out, V6.out, B5.out, O5.out, n0, cl0, cl1, nc, by omega, fl, by rw [← HR.out]; show frameGo code budget f s3 n c = frameGo code budget f s1 n c; rw [HGO.out]; exact go_stop _ _ _ _ _ _ (fun h => by rw [HS3.out] at h; exact absurd h.1 (by decide))⟩
            case measure =>
              simp only [d1, m3, C1M.out, C3M.out, HST.out, Option.getD_some, intOf]
              rw [if_neg (by decide), if_pos trivial]
              omega
        · have hcb : decide (c < budget) = false := by simpa using hc
          have HST := Lib.hid hst
          clear hst
          have HE := Lib.hid (show F = (s1, n, c) from HR.out.symm.trans ((if_neg (by decide)).trans (go_stop _ _ _ _ _ _ (fun h => hc h.2))))
          have o4 := HO.out.cell 4 (.int .i64 0) rfl
          have of := HO.out.free
          have i0 : 0 ≤ budget - c := by omega
          have i1 : budget - c ≤ 16384 := by omega
          have V0 := HV
          have O0 := HO
          have B0 := HB
          have C0 := AR
          have x1 := O0.out.set 4 (.int .i64 (budget - c))
          have V1 := Lib.hid (V0.out.mine o hfar x1.1)
          have O1 := Lib.hid (x1.2.sett (show _ = #[.int .i64 0, .int .i64 0, .int .i64 n, .int .i64 c, .int .i64 (budget - c), (.slice none 0 0), (.slice none 0 0)] from rfl))
          have B1 := Lib.hid (B0.out.other (b2 := bo) (Ne.symm hne) 4 (.int .i64 (budget - c)))
          have C1 := Lib.hid (C0.out.setNew (p := ⟨bo, 4, none⟩) O0.out.new (.int .i64 (budget - c)))
          clear x1
          go_wp2_with fail
          obtain ⟨wt, hwt⟩ : ∃ v, v = wr.setCell ⟨bo, 4, none⟩ (.int .i64 (budget - c)) := ⟨_, rfl⟩
          rw [← hwt] at V1 O1 B1 C1 ⊢
          clear hwt
          clear o4 of
          have p0 := O1.out.cell 0 (.int .i64 0) rfl
          have p1 := O1.out.cell 1 (.int .i64 0) rfl
          have pf := O1.out.free
          have x2 := O1.out.set 0 (.int .i64 s1.st)
          have V2 := Lib.hid (V1.out.mine o hfar x2.1)
          have O2 := Lib.hid (x2.2.sett (show _ = #[.int .i64 s1.st, .int .i64 0, .int .i64 n, .int .i64 c, .int .i64 (budget - c), (.slice none 0 0), (.slice none 0 0)] from rfl))
          have B2 := Lib.hid (B1.out.other (b2 := bo) (Ne.symm hne) 0 (.int .i64 s1.st))
          have C2 := Lib.hid (C1.out.setNew (p := ⟨bo, 0, none⟩) O1.out.new (.int .i64 s1.st))
          clear x2
          have x3 := O2.out.set 1 (.int .i64 s1.ft)
          have V3 := Lib.hid (V2.out.mine o hfar x3.1)
          have O3 := Lib.hid (x3.2.sett (show _ = #[.int .i64 s1.st, .int .i64 s1.ft, .int .i64 n, .int .i64 c, .int .i64 (budget - c), (.slice none 0 0), (.slice none 0 0)] from rfl))
          have B3 := Lib.hid (B2.out.other (b2 := bo) (Ne.symm hne) 1 (.int .i64 s1.ft))
          have C3 := Lib.hid (C2.out.setNew (p := ⟨bo, 1, none⟩) O2.out.new (.int .i64 s1.ft))
          clear x3
          have d1 := V1.out.drew.cells.2.1
          have d2 := V1.out.drew.cells.2.2.1
          have Q2 := Lib.hid (And.intro V2.out.drew.cells.2.1 V2.out.drew.cells.2.2.1)
          have Q3 := Lib.hid (And.intro V3.out.drew.cells.2.1 V3.out.drew.cells.2.2.1)
          go_region_held3 (fun w' => w'.cell? ⟨P, 1, none⟩ = some (.int .i64 s1.st) ∧ w'.cell? ⟨P, 2, none⟩ = some (.int .i64 s1.ft)) (first | with_reducible exact ⟨d1, d2⟩ | with_reducible exact Q2.out | with_reducible exact Q3.out) (fail)
          clear p0 p1 pf d1 d2 Q2 Q3
          obtain ⟨w3, hw3⟩ : ∃ v, v = ((wt.setCell ⟨bo, 0, none⟩ (.int .i64 s1.st)).setCell ⟨bo, 1, none⟩ (.int .i64 s1.ft)).drew := ⟨_, rfl⟩
          have V4 := Lib.hid V3.out.drew
          have O4 := Lib.hid O3.out.drew
          have B4 := Lib.hid B3.out.drew
          have C4 := Lib.hid C3.out.drew
          rw [← hw3] at V4 O4 B4 C4 ⊢
          clear hw3
          go_wp2_with fail
          have VD := Lib.hid V4.out.drew
          have c6 := V4.out.drew.cells.2.2.2.2.2
          go_region_held3 (fun w' => w'.cell? ⟨P, 6, none⟩ = some (.pointer (some ⟨M, 0, none⟩))) (first | with_reducible exact c6 | with_reducible exact QA.out | with_reducible exact QB.out | with_reducible exact QC.out | with_reducible exact QD.out)
            (first | (go_at_call 46; refine (screen_any _ q M s1.m VD.out.ok.gd.mo _ VD.out.tr.pm).mono ?_; rintro e wa ⟨sb, Ga, rfl, aa, sg, sn, sr, sl⟩; have VA := Lib.hid (VD.out.still aa); have OA := Lib.hid (O4.out.drew.adv aa id); have BA := Lib.hid (B4.out.drew.adv aa id); have CA := Lib.hid (C4.out.drew.trans (aa.mono (T := S4 p i j q) fun _ h => h.elim)); have SA := Lib.hid (And.intro sg (And.intro sr (And.intro sl (Nat.le_trans C4.out.drew.size sn)))); have QA := Lib.hid VA.out.cells.2.2.2.2.2; clear aa sg sn sr sl) | (go_at_call 31; refine (tones_any _ q 0 M s1.m VA.out.ok.gd.mo (by omega) _ VA.out.tr.pm).mono ?_; rintro e wb ⟨ta, tc, Gb, rfl, ab, rb⟩; have V5 := Lib.hid (VA.out.still ab); have O5 := Lib.hid (OA.out.adv ab id); have B5 := Lib.hid (BA.out.adv ab id); have C5 := Lib.hid (CA.out.trans (ab.mono (T := S4 p i j q) fun _ h => h.elim)); have SB := Lib.hid (And.intro ((ab.own _ SA.out.2.2.1).trans SA.out.1) (And.intro (SA.out.2.1.adv ab (fun _ _ => id)) (And.intro (Nat.lt_of_lt_of_le SA.out.2.2.1 ab.size) SA.out.2.2.2))); have RB := Lib.hid rb; have QB := Lib.hid V5.out.cells.2.2.2.2.2; have p5 := O5.out.cell 5 (.slice none 0 0) rfl; have p6 := O5.out.cell 6 (.slice none 0 0) rfl; have pf := O5.out.free; have x6 := O5.out.set 5 (.slice (some ⟨sb, 0, none⟩) s1.m.screen.length s1.m.screen.length); have V6 := Lib.hid (V5.out.mine o hfar x6.1); have O6 := Lib.hid (x6.2.sett (show _ = #[.int .i64 s1.st, .int .i64 s1.ft, .int .i64 n, .int .i64 c, .int .i64 (budget - c), (.slice (some ⟨sb, 0, none⟩) s1.m.screen.length s1.m.screen.length), (.slice none 0 0)] from rfl)); have B6 := Lib.hid (B5.out.other (b2 := bo) (Ne.symm hne) 5 (.slice (some ⟨sb, 0, none⟩) s1.m.screen.length s1.m.screen.length)); have C6 := Lib.hid (C5.out.setNew (p := ⟨bo, 5, none⟩) O5.out.new (.slice (some ⟨sb, 0, none⟩) s1.m.screen.length s1.m.screen.length)); clear x6; have x7 := O6.out.set 6 (.slice ta s1.m.tones.length tc); have V7 := Lib.hid (V6.out.mine o hfar x7.1); have O7 := Lib.hid (x7.2.sett (show _ = #[.int .i64 s1.st, .int .i64 s1.ft, .int .i64 n, .int .i64 c, .int .i64 (budget - c), (.slice (some ⟨sb, 0, none⟩) s1.m.screen.length s1.m.screen.length), (.slice ta s1.m.tones.length tc)] from rfl)); have B7 := Lib.hid (B6.out.other (b2 := bo) (Ne.symm hne) 6 (.slice ta s1.m.tones.length tc)); have C7 := Lib.hid (C6.out.setNew (p := ⟨bo, 6, none⟩) O6.out.new (.slice ta s1.m.tones.length tc)); clear x7; have QC := Lib.hid V6.out.cells.2.2.2.2.2; have QD := Lib.hid V7.out.cells.2.2.2.2.2; clear ab rb))
          clear p5 p6 pf c6
          obtain ⟨w6, hw6⟩ : ∃ v, v = (wb.setCell ⟨bo, 5, none⟩ (.slice (some ⟨sb, 0, none⟩) s1.m.screen.length s1.m.screen.length)).setCell ⟨bo, 6, none⟩ (.slice ta s1.m.tones.length tc) := ⟨_, rfl⟩
          have SZ := Lib.hid (show (Gb sb = 0 ∧ Reads ((wb.setCell ⟨bo, 5, none⟩ (.slice (some ⟨sb, 0, none⟩) s1.m.screen.length s1.m.screen.length)).setCell ⟨bo, 6, none⟩ (.slice ta s1.m.tones.length tc)) (some ⟨sb, 0, none⟩) (u8s s1.m.screen) ∧ sb < ((wb.setCell ⟨bo, 5, none⟩ (.slice (some ⟨sb, 0, none⟩) s1.m.screen.length s1.m.screen.length)).setCell ⟨bo, 6, none⟩ (.slice ta s1.m.tones.length tc)).heap.size ∧ w.heap.size ≤ sb) from ⟨SB.out.1, SB.out.2.1.adv ((O5.out.set 5 (.slice (some ⟨sb, 0, none⟩) s1.m.screen.length s1.m.screen.length)).1.trans (O6.out.set 6 (.slice ta s1.m.tones.length tc)).1) (fun ad e => by cases e; rw [SB.out.1]; decide), Nat.lt_of_lt_of_le SB.out.2.2.1 ((O5.out.set 5 (.slice (some ⟨sb, 0, none⟩) s1.m.screen.length s1.m.screen.length)).1.trans (O6.out.set 6 (.slice ta s1.m.tones.length tc)).1).size, SB.out.2.2.2⟩)
          have RZ := Lib.hid (RB.out.adv ((O5.out.set 5 (.slice (some ⟨sb, 0, none⟩) s1.m.screen.length s1.m.screen.length)).1.trans (O6.out.set 6 (.slice ta s1.m.tones.length tc)).1) (by decide))
          rw [← hw6] at V7 O7 B7 C7 SZ RZ ⊢
          clear hw6
          have y0 := O7.out.cell 0 (.int .i64 s1.st) rfl
          have y1 := O7.out.cell 1 (.int .i64 s1.ft) rfl
          have y2 := O7.out.cell 2 (.int .i64 n) rfl
          have y3 := O7.out.cell 3 (.int .i64 c) rfl
          have y4 := O7.out.cell 4 (.int .i64 (budget - c)) rfl
          have y5 := O7.out.cell 5 (.slice (some ⟨sb, 0, none⟩) s1.m.screen.length s1.m.screen.length) rfl
          have y6 := O7.out.cell 6 (.slice ta s1.m.tones.length tc) rfl
          have z0 := B7.out.cell 0 (.int .i64 0) rfl
          have z1 := B7.out.cell 1 (.int .i64 0) rfl
          have z2 := B7.out.cell 2 (.int .i64 0) rfl
          have z3 := B7.out.cell 3 (.int .i64 0) rfl
          have z4 := B7.out.cell 4 (.int .i64 0) rfl
          have z5 := B7.out.cell 5 (.slice none 0 0) rfl
          have z6 := B7.out.cell 6 (.slice none 0 0) rfl
          have zf := B7.out.free
          go_wp2_with fail
          rw [HE.out]
          have a7 := own7 (w := w6) (G := Gb) w.heap.size B7.out.own (.int .i64 s1.st) (.int .i64 s1.ft) (.int .i64 n) (.int .i64 c) (.int .i64 (budget - c)) (.slice (some ⟨sb, 0, none⟩) s1.m.screen.length s1.m.screen.length) (.slice ta s1.m.tones.length tc)
          exact bodyPost_ret (v := .tuple #[.agg #[.int .i64 s1.st, .int .i64 s1.ft, .int .i64 n, .int .i64 c, .int .i64 (budget - c), .slice (some ⟨sb, 0, none⟩) s1.m.screen.length s1.m.screen.length, .slice ta s1.m.tones.length tc], .int .i64 0]) (by simp [results, Tryd.results36, go_sem, z0, z1, z2, z3, z4, z5, z6]) rfl
            ⟨sb, ta, tc, Gb, rfl, ((((((C7.out.setNew (p := ⟨w.heap.size, 0, none⟩) (Nat.le_refl _) _).setNew (p := ⟨w.heap.size, 1, none⟩) (Nat.le_refl _) _).setNew (p := ⟨w.heap.size, 2, none⟩) (Nat.le_refl _) _).setNew (p := ⟨w.heap.size, 3, none⟩) (Nat.le_refl _) _).setNew (p := ⟨w.heap.size, 4, none⟩) (Nat.le_refl _) _).setNew (p := ⟨w.heap.size, 5, none⟩) (Nat.le_refl _) _).setNew (p := ⟨w.heap.size, 6, none⟩) (Nat.le_refl _) _,
              V7.out.mine o hfar a7, ⟨SZ.out.1, SZ.out.2.1.adv a7 (fun ad e => by cases e; rw [SZ.out.1]; decide), Nat.lt_of_lt_of_le SZ.out.2.2.1 a7.size, SZ.out.2.2.2⟩, RZ.out.adv a7 (by decide)⟩
    · have hstb : (s1.st == 1) = false := by simpa using hst
      have HE := Lib.hid (show F = (s1, n, c) from by rw [← HR.out]; unfold frameRest; split; exact rfl; exact go_stop _ _ _ _ _ _ (fun h => hst h.1))
      have o4 := HO.out.cell 4 (.int .i64 0) rfl
      have of := HO.out.free
      have i0 : 0 ≤ budget - c := by omega
      have i1 : budget - c ≤ 16384 := by omega
      have V0 := HV
      have O0 := HO
      have B0 := HB
      have C0 := AR
      have x1 := O0.out.set 4 (.int .i64 (budget - c))
      have V1 := Lib.hid (V0.out.mine o hfar x1.1)
      have O1 := Lib.hid (x1.2.sett (show _ = #[.int .i64 0, .int .i64 0, .int .i64 n, .int .i64 c, .int .i64 (budget - c), (.slice none 0 0), (.slice none 0 0)] from rfl))
      have B1 := Lib.hid (B0.out.other (b2 := bo) (Ne.symm hne) 4 (.int .i64 (budget - c)))
      have C1 := Lib.hid (C0.out.setNew (p := ⟨bo, 4, none⟩) O0.out.new (.int .i64 (budget - c)))
      clear x1
      go_wp2_with fail
      obtain ⟨wt, hwt⟩ : ∃ v, v = wr.setCell ⟨bo, 4, none⟩ (.int .i64 (budget - c)) := ⟨_, rfl⟩
      rw [← hwt] at V1 O1 B1 C1 ⊢
      clear hwt
      clear o4 of
      have p0 := O1.out.cell 0 (.int .i64 0) rfl
      have p1 := O1.out.cell 1 (.int .i64 0) rfl
      have pf := O1.out.free
      have x2 := O1.out.set 0 (.int .i64 s1.st)
      have V2 := Lib.hid (V1.out.mine o hfar x2.1)
      have O2 := Lib.hid (x2.2.sett (show _ = #[.int .i64 s1.st, .int .i64 0, .int .i64 n, .int .i64 c, .int .i64 (budget - c), (.slice none 0 0), (.slice none 0 0)] from rfl))
      have B2 := Lib.hid (B1.out.other (b2 := bo) (Ne.symm hne) 0 (.int .i64 s1.st))
      have C2 := Lib.hid (C1.out.setNew (p := ⟨bo, 0, none⟩) O1.out.new (.int .i64 s1.st))
      clear x2
      have x3 := O2.out.set 1 (.int .i64 s1.ft)
      have V3 := Lib.hid (V2.out.mine o hfar x3.1)
      have O3 := Lib.hid (x3.2.sett (show _ = #[.int .i64 s1.st, .int .i64 s1.ft, .int .i64 n, .int .i64 c, .int .i64 (budget - c), (.slice none 0 0), (.slice none 0 0)] from rfl))
      have B3 := Lib.hid (B2.out.other (b2 := bo) (Ne.symm hne) 1 (.int .i64 s1.ft))
      have C3 := Lib.hid (C2.out.setNew (p := ⟨bo, 1, none⟩) O2.out.new (.int .i64 s1.ft))
      clear x3
      have d1 := V1.out.drew.cells.2.1
      have d2 := V1.out.drew.cells.2.2.1
      have Q2 := Lib.hid (And.intro V2.out.drew.cells.2.1 V2.out.drew.cells.2.2.1)
      have Q3 := Lib.hid (And.intro V3.out.drew.cells.2.1 V3.out.drew.cells.2.2.1)
      go_region_held3 (fun w' => w'.cell? ⟨P, 1, none⟩ = some (.int .i64 s1.st) ∧ w'.cell? ⟨P, 2, none⟩ = some (.int .i64 s1.ft)) (first | with_reducible exact ⟨d1, d2⟩ | with_reducible exact Q2.out | with_reducible exact Q3.out) (fail)
      clear p0 p1 pf d1 d2 Q2 Q3
      obtain ⟨w3, hw3⟩ : ∃ v, v = ((wt.setCell ⟨bo, 0, none⟩ (.int .i64 s1.st)).setCell ⟨bo, 1, none⟩ (.int .i64 s1.ft)).drew := ⟨_, rfl⟩
      have V4 := Lib.hid V3.out.drew
      have O4 := Lib.hid O3.out.drew
      have B4 := Lib.hid B3.out.drew
      have C4 := Lib.hid C3.out.drew
      rw [← hw3] at V4 O4 B4 C4 ⊢
      clear hw3
      go_wp2_with fail
      have VD := Lib.hid V4.out.drew
      have c6 := V4.out.drew.cells.2.2.2.2.2
      go_region_held3 (fun w' => w'.cell? ⟨P, 6, none⟩ = some (.pointer (some ⟨M, 0, none⟩))) (first | with_reducible exact c6 | with_reducible exact QA.out | with_reducible exact QB.out | with_reducible exact QC.out | with_reducible exact QD.out)
        (first | (go_at_call 46; refine (screen_any _ q M s1.m VD.out.ok.gd.mo _ VD.out.tr.pm).mono ?_; rintro e wa ⟨sb, Ga, rfl, aa, sg, sn, sr, sl⟩; have VA := Lib.hid (VD.out.still aa); have OA := Lib.hid (O4.out.drew.adv aa id); have BA := Lib.hid (B4.out.drew.adv aa id); have CA := Lib.hid (C4.out.drew.trans (aa.mono (T := S4 p i j q) fun _ h => h.elim)); have SA := Lib.hid (And.intro sg (And.intro sr (And.intro sl (Nat.le_trans C4.out.drew.size sn)))); have QA := Lib.hid VA.out.cells.2.2.2.2.2; clear aa sg sn sr sl) | (go_at_call 31; refine (tones_any _ q 0 M s1.m VA.out.ok.gd.mo (by omega) _ VA.out.tr.pm).mono ?_; rintro e wb ⟨ta, tc, Gb, rfl, ab, rb⟩; have V5 := Lib.hid (VA.out.still ab); have O5 := Lib.hid (OA.out.adv ab id); have B5 := Lib.hid (BA.out.adv ab id); have C5 := Lib.hid (CA.out.trans (ab.mono (T := S4 p i j q) fun _ h => h.elim)); have SB := Lib.hid (And.intro ((ab.own _ SA.out.2.2.1).trans SA.out.1) (And.intro (SA.out.2.1.adv ab (fun _ _ => id)) (And.intro (Nat.lt_of_lt_of_le SA.out.2.2.1 ab.size) SA.out.2.2.2))); have RB := Lib.hid rb; have QB := Lib.hid V5.out.cells.2.2.2.2.2; have p5 := O5.out.cell 5 (.slice none 0 0) rfl; have p6 := O5.out.cell 6 (.slice none 0 0) rfl; have pf := O5.out.free; have x6 := O5.out.set 5 (.slice (some ⟨sb, 0, none⟩) s1.m.screen.length s1.m.screen.length); have V6 := Lib.hid (V5.out.mine o hfar x6.1); have O6 := Lib.hid (x6.2.sett (show _ = #[.int .i64 s1.st, .int .i64 s1.ft, .int .i64 n, .int .i64 c, .int .i64 (budget - c), (.slice (some ⟨sb, 0, none⟩) s1.m.screen.length s1.m.screen.length), (.slice none 0 0)] from rfl)); have B6 := Lib.hid (B5.out.other (b2 := bo) (Ne.symm hne) 5 (.slice (some ⟨sb, 0, none⟩) s1.m.screen.length s1.m.screen.length)); have C6 := Lib.hid (C5.out.setNew (p := ⟨bo, 5, none⟩) O5.out.new (.slice (some ⟨sb, 0, none⟩) s1.m.screen.length s1.m.screen.length)); clear x6; have x7 := O6.out.set 6 (.slice ta s1.m.tones.length tc); have V7 := Lib.hid (V6.out.mine o hfar x7.1); have O7 := Lib.hid (x7.2.sett (show _ = #[.int .i64 s1.st, .int .i64 s1.ft, .int .i64 n, .int .i64 c, .int .i64 (budget - c), (.slice (some ⟨sb, 0, none⟩) s1.m.screen.length s1.m.screen.length), (.slice ta s1.m.tones.length tc)] from rfl)); have B7 := Lib.hid (B6.out.other (b2 := bo) (Ne.symm hne) 6 (.slice ta s1.m.tones.length tc)); have C7 := Lib.hid (C6.out.setNew (p := ⟨bo, 6, none⟩) O6.out.new (.slice ta s1.m.tones.length tc)); clear x7; have QC := Lib.hid V6.out.cells.2.2.2.2.2; have QD := Lib.hid V7.out.cells.2.2.2.2.2; clear ab rb))
      clear p5 p6 pf c6
      obtain ⟨w6, hw6⟩ : ∃ v, v = (wb.setCell ⟨bo, 5, none⟩ (.slice (some ⟨sb, 0, none⟩) s1.m.screen.length s1.m.screen.length)).setCell ⟨bo, 6, none⟩ (.slice ta s1.m.tones.length tc) := ⟨_, rfl⟩
      have SZ := Lib.hid (show (Gb sb = 0 ∧ Reads ((wb.setCell ⟨bo, 5, none⟩ (.slice (some ⟨sb, 0, none⟩) s1.m.screen.length s1.m.screen.length)).setCell ⟨bo, 6, none⟩ (.slice ta s1.m.tones.length tc)) (some ⟨sb, 0, none⟩) (u8s s1.m.screen) ∧ sb < ((wb.setCell ⟨bo, 5, none⟩ (.slice (some ⟨sb, 0, none⟩) s1.m.screen.length s1.m.screen.length)).setCell ⟨bo, 6, none⟩ (.slice ta s1.m.tones.length tc)).heap.size ∧ w.heap.size ≤ sb) from ⟨SB.out.1, SB.out.2.1.adv ((O5.out.set 5 (.slice (some ⟨sb, 0, none⟩) s1.m.screen.length s1.m.screen.length)).1.trans (O6.out.set 6 (.slice ta s1.m.tones.length tc)).1) (fun ad e => by cases e; rw [SB.out.1]; decide), Nat.lt_of_lt_of_le SB.out.2.2.1 ((O5.out.set 5 (.slice (some ⟨sb, 0, none⟩) s1.m.screen.length s1.m.screen.length)).1.trans (O6.out.set 6 (.slice ta s1.m.tones.length tc)).1).size, SB.out.2.2.2⟩)
      have RZ := Lib.hid (RB.out.adv ((O5.out.set 5 (.slice (some ⟨sb, 0, none⟩) s1.m.screen.length s1.m.screen.length)).1.trans (O6.out.set 6 (.slice ta s1.m.tones.length tc)).1) (by decide))
      rw [← hw6] at V7 O7 B7 C7 SZ RZ ⊢
      clear hw6
      have y0 := O7.out.cell 0 (.int .i64 s1.st) rfl
      have y1 := O7.out.cell 1 (.int .i64 s1.ft) rfl
      have y2 := O7.out.cell 2 (.int .i64 n) rfl
      have y3 := O7.out.cell 3 (.int .i64 c) rfl
      have y4 := O7.out.cell 4 (.int .i64 (budget - c)) rfl
      have y5 := O7.out.cell 5 (.slice (some ⟨sb, 0, none⟩) s1.m.screen.length s1.m.screen.length) rfl
      have y6 := O7.out.cell 6 (.slice ta s1.m.tones.length tc) rfl
      have z0 := B7.out.cell 0 (.int .i64 0) rfl
      have z1 := B7.out.cell 1 (.int .i64 0) rfl
      have z2 := B7.out.cell 2 (.int .i64 0) rfl
      have z3 := B7.out.cell 3 (.int .i64 0) rfl
      have z4 := B7.out.cell 4 (.int .i64 0) rfl
      have z5 := B7.out.cell 5 (.slice none 0 0) rfl
      have z6 := B7.out.cell 6 (.slice none 0 0) rfl
      have zf := B7.out.free
      go_wp2_with fail
      rw [HE.out]
      have a7 := own7 (w := w6) (G := Gb) w.heap.size B7.out.own (.int .i64 s1.st) (.int .i64 s1.ft) (.int .i64 n) (.int .i64 c) (.int .i64 (budget - c)) (.slice (some ⟨sb, 0, none⟩) s1.m.screen.length s1.m.screen.length) (.slice ta s1.m.tones.length tc)
      exact bodyPost_ret (v := .tuple #[.agg #[.int .i64 s1.st, .int .i64 s1.ft, .int .i64 n, .int .i64 c, .int .i64 (budget - c), .slice (some ⟨sb, 0, none⟩) s1.m.screen.length s1.m.screen.length, .slice ta s1.m.tones.length tc], .int .i64 0]) (by simp [results, Tryd.results36, go_sem, z0, z1, z2, z3, z4, z5, z6]) rfl
        ⟨sb, ta, tc, Gb, rfl, ((((((C7.out.setNew (p := ⟨w.heap.size, 0, none⟩) (Nat.le_refl _) _).setNew (p := ⟨w.heap.size, 1, none⟩) (Nat.le_refl _) _).setNew (p := ⟨w.heap.size, 2, none⟩) (Nat.le_refl _) _).setNew (p := ⟨w.heap.size, 3, none⟩) (Nat.le_refl _) _).setNew (p := ⟨w.heap.size, 4, none⟩) (Nat.le_refl _) _).setNew (p := ⟨w.heap.size, 5, none⟩) (Nat.le_refl _) _).setNew (p := ⟨w.heap.size, 6, none⟩) (Nat.le_refl _) _,
          V7.out.mine o hfar a7, ⟨SZ.out.1, SZ.out.2.1.adv a7 (fun ad e => by cases e; rw [SZ.out.1]; decide), Nat.lt_of_lt_of_le SZ.out.2.2.1 a7.size, SZ.out.2.2.2⟩, RZ.out.adv a7 (by decide)⟩
end
end Go.Proofs.YtdnalhjdmlkbmaaDoor
namespace Go.Proofs.YtdnalhjdmlkbmaaDoor
open Go.RowKit
set_option linter.unusedVariables false

def cartV (ca : Option Addr) (n cc : Nat) (entry : Int) (ea : Option Addr) (m ec : Nat) (ba : Option Addr) (k bc : Nat) : Value := .agg #[.slice ca n cc, .int .u16 entry, .slice ea m ec, .slice ba k bc]
/-- The machine that New makes. -/
def startS (entry : Int) (l : List (Int × List Int)) : VmS := { pc := (entry + 2) % 65536, st := 1, ft := 0, d := [], r := [], m := newM l }
/-- What New answers: a machine. -/
def NewIs (p i j q : Nat) (code : List Int) (entry : Int) (l : List (Int × List Int)) (w : World) (G : Nat → Nat) (e : Ending) (w' : World) : Prop :=
  ∃ P D R M G', e = .returned (.tuple #[.pointer (some ⟨P, 0, none⟩), .int .i64 0]) ∧ Adv (fun _ => False) w G w' G' ∧ VM w' G' p i j q P D R M code (startS entry l)
/-- An empty stack, just made. -/
theorem PU.made (w : World) (G : Nat → Nat) (i : Nat) : PU (w.alloc (.cells #[.slice none 0 0] 140)) (own1 w G i) i w.heap.size [] :=
  ⟨.slice none 0 0, heap_alloc_new w _, own1_new _ _ _, World.ownsRow_nil _ _ _ _, (fun b e => by cases e), (fun e => by cases e)⟩
theorem PR.made (w : World) (G : Nat → Nat) (i : Nat) : PR (w.alloc (.cells #[.slice none 0 0] 144)) (own1 w G i) i w.heap.size [] :=
  ⟨.slice none 0 0, heap_alloc_new w _, own1_new _ _ _, World.ownsRow_nil _ _ _ _, (fun b e => by cases e), (fun e => by cases e)⟩
set_option maxRecDepth 100000 in
set_option maxHeartbeats 2000000 in
theorem vmNew_ok (p i j q : Nat) (o : Own4 p i j q) (G : Nat → Nat) (ca : Addr) (n cc : Nat) (entry : Int) (e0 : 0 ≤ entry) (e1 : entry < 65536) (ea : Option Addr) (m ec : Nat) (ba : Option Addr) (k bc : Nat) (code : List Int) (l : List (Int × List Int)) (w : World)
    (hl : code.length = n) (hn : n ≤ 16384) (hcb : B8 code) (hr : Reads w (some ca) (u8s code)) (hlk : l.length = k) (hk : k ≤ 1000000) (hmay : mayBanks l = true) (hb8 : ∀ x ∈ l, B8 x.2) (hbl : ∀ x ∈ l, x.2.length ≤ 16384)
    (hin : ∀ (w' : World) (G' : Nat → Nat), Adv (fun _ => False) w G w' G' → BankIn w' ba l)
    (hcheck : ∀ (w' : World) (G' : Nat → Nat), Adv (fun _ => False) w G w' G' → Calls Tryd.prog 67 #[cartV ca n cc entry ea m ec ba k bc] w' (Looked w' G' (.int .i64 0))) (ht : Tabs w G) :
    Calls Tryd.prog 32 #[cartV ca n cc entry ea m ec ba k bc] w (NewIs p i j q code entry l w G) := by
  obtain ⟨i0, hi, hz0, hz1, hz2⟩ := info_parts infoU8
  have CV := Lib.hid (show cartV ca n cc entry ea m ec ba k bc = .agg #[.slice (some ca) n cc, .int .u16 entry, .slice ea m ec, .slice ba k bc] from rfl)
  have HL := Lib.hid hl
  have HR := Lib.hid hr
  have HI := Lib.hid hin
  have HC := Lib.hid hcheck
  have HT := Lib.hid ht
  have HK := Lib.hid hlk
  have HM := Lib.hid hmay
  have HB := Lib.hid (And.intro hb8 hbl)
  have HCB := Lib.hid hcb
  clear hl hr hin hcheck ht hlk hmay hb8 hbl hcb
  unfold cartV at HC ⊢
  have A0 := Lib.hid ((Adv.refl (fun _ => False) w G).alloc (.cells #[.slice (some ca) n cc, .int .u16 entry, .slice ea m ec, .slice ba k bc] 74) 0)
  have B0 := Lib.hid (heap_alloc_new w (.cells #[.slice (some ca) n cc, .int .u16 entry, .slice ea m ec, .slice ba k bc] 74))
  have hw := wrap_u16_mod (entry + 2)
  go_enter Tryd.func32, Tryd.ntmps32
  go_wp2_with fail
  refine (HC.out _ _ A0.out).mono ?_
  rintro e w1 ⟨rfl, G1, a1⟩
  have A1 := Lib.hid (A0.out.trans a1)
  have B1 := Lib.hid ((a1.keep w.heap.size (Array.getElem?_eq_some_iff.1 B0.out).1 id).trans B0.out)
  have b3 := block_cell B1.out 3 (.slice ba k bc) rfl
  clear a1
  go_wp2_with fail
  refine (new_ok G1 q o.o3.q0 ba k bc l HK.out hk HM.out w1 (fun w' G' h => HI.out w' G' (A1.out.trans h))).mono ?_
  rintro e w2 ⟨M, G2, rfl, a2, p2⟩
  have A2 := Lib.hid (A1.out.trans a2)
  have B2 := Lib.hid ((a2.keep w.heap.size (Array.getElem?_eq_some_iff.1 B1.out).1 id).trans B1.out)
  have P2 := Lib.hid p2
  have hwl : w.heap.size < w2.heap.size := (Array.getElem?_eq_some_iff.1 B2.out).1
  clear a2 p2 b3
  have b0 := block_cell B2.out 0 (.slice (some ca) n cc) rfl
  have b1 := block_cell B2.out 1 (.int .u16 entry) rfl
  -- the two stacks, the place
  have A3 := Lib.hid (((A2.out.alloc (.cells #[.slice none 0 0] 140) i).alloc (.cells #[.slice none 0 0] 144) j).alloc (.cells #[.int .u16 ((entry + 2) % 65536), .int .i64 1, .int .i64 0, .pointer (some ⟨w2.heap.size, 0, none⟩), .pointer (some ⟨w2.heap.size + 1, 0, none⟩)] 146) 0)
  go_wp2_with fail
  obtain ⟨w3, hw3⟩ : ∃ v, v = ((w2.alloc (.cells #[.slice none 0 0] 140)).alloc (.cells #[.slice none 0 0] 144)).alloc (.cells #[.int .u16 ((entry + 2) % 65536), .int .i64 1, .int .i64 0, .pointer (some ⟨w2.heap.size, 0, none⟩), .pointer (some ⟨w2.heap.size + 1, 0, none⟩)] 146) := ⟨_, rfl⟩
  have ad1 := (Adv.refl (fun _ => False) w2 G2).alloc (.cells #[.slice none 0 0] 140) i
  have ad2 := (Adv.refl (fun _ => False) _ (own1 w2 G2 i)).alloc (w := w2.alloc (.cells #[.slice none 0 0] 140)) (.cells #[.slice none 0 0] 144) j
  have ad3 := (Adv.refl (fun _ => False) _ (own1 (w2.alloc (.cells #[.slice none 0 0] 140)) (own1 w2 G2 i) j)).alloc (w := (w2.alloc (.cells #[.slice none 0 0] 140)).alloc (.cells #[.slice none 0 0] 144)) (.cells #[.int .u16 ((entry + 2) % 65536), .int .i64 1, .int .i64 0, .pointer (some ⟨w2.heap.size, 0, none⟩), .pointer (some ⟨w2.heap.size + 1, 0, none⟩)] 146) 0
  have U3 := ((PU.made w2 G2 i).adv ad2 id).adv ad3 id
  have V3 := (PR.made (w2.alloc (.cells #[.slice none 0 0] 140)) (own1 w2 G2 i) j).adv ad3 id
  have N3 := P2.out.adv (ad1.trans (ad2.trans ad3)) id
  have T3 := HT.out.adv A3.out id
  have E3 := heap_alloc_new ((w2.alloc (.cells #[.slice none 0 0] 140)).alloc (.cells #[.slice none 0 0] 144)) (.cells #[.int .u16 ((entry + 2) % 65536), .int .i64 1, .int .i64 0, .pointer (some ⟨w2.heap.size, 0, none⟩), .pointer (some ⟨w2.heap.size + 1, 0, none⟩)] 146)
  have F3 := ((ad1.trans (ad2.trans ad3)).keep w.heap.size hwl id).trans B2.out
  have R3 := HR.out.adv A3.out (fun _ _ => id)
  rw [← hw3] at U3 V3 N3 T3 E3 F3 R3 A3 ⊢
  rw [show (w2.alloc (.cells #[.slice none 0 0] 140)).heap.size = w2.heap.size + 1 from by simp] at V3
  rw [show ((w2.alloc (.cells #[.slice none 0 0] 140)).alloc (.cells #[.slice none 0 0] 144)).heap.size = w2.heap.size + 1 + 1 from by simp] at E3
  obtain ⟨G3, hG3⟩ : ∃ g, g = own1 ((w2.alloc (.cells #[.slice none 0 0] 140)).alloc (.cells #[.slice none 0 0] 144)) (own1 (w2.alloc (.cells #[.slice none 0 0] 140)) (own1 w2 G2 i) j) 0 := ⟨_, rfl⟩
  rw [← hG3] at U3 V3 N3 T3 A3
  clear hw3 ad1 ad2 ad3 hG3 b0 b1
  obtain ⟨D, hD⟩ : ∃ d, d = w2.heap.size := ⟨_, rfl⟩
  obtain ⟨R, hR⟩ : ∃ d, d = w2.heap.size + 1 := ⟨_, rfl⟩
  obtain ⟨Q, hQ⟩ : ∃ d, d = w2.heap.size + 1 + 1 := ⟨_, rfl⟩
  rw [← hQ] at E3 ⊢
  rw [← hR] at V3 E3 ⊢
  rw [← hD] at U3 E3 ⊢
  clear hD hR hQ hwl
  have TR3 := Lib.hid (show Trio w3 G3 i j q D R M [] [] (newM l) from ⟨U3, V3, N3⟩)
  have HT3 := Lib.hid T3
  have HR3 := Lib.hid R3
  have HE3 := Lib.hid E3
  have HF3 := Lib.hid F3
  have q0 := block_cell (w := w3.drew) E3 0 (.int .u16 ((entry + 2) % 65536)) rfl
  have q1 := block_cell (w := w3.drew) E3 1 (.int .i64 1) rfl
  have q2 := block_cell (w := w3.drew) E3 2 (.int .i64 0) rfl
  have q3 := block_cell (w := w3.drew) E3 3 (.pointer (some ⟨D, 0, none⟩)) rfl
  have q4 := block_cell (w := w3.drew) E3 4 (.pointer (some ⟨R, 0, none⟩)) rfl
  have q5 := block_cell (w := w3.drew) F3 0 (.slice (some ca) n cc) rfl
  have hkk : ∀ (w' : World) (G' : Nat → Nat), Adv (fun _ => False) w3.drew G3 w' G' → w'.cell? ⟨Q, 0, none⟩ = some (.int .u16 ((entry + 2) % 65536)) ∧ w'.cell? ⟨Q, 1, none⟩ = some (.int .i64 1) ∧ w'.cell? ⟨Q, 2, none⟩ = some (.int .i64 0) ∧ w'.cell? ⟨Q, 3, none⟩ = some (.pointer (some ⟨D, 0, none⟩)) ∧ w'.cell? ⟨Q, 4, none⟩ = some (.pointer (some ⟨R, 0, none⟩)) ∧ w'.cell? ⟨w.heap.size, 0, none⟩ = some (.slice (some ca) n cc) := fun w' G' h =>
    ⟨h.cell_some q0 id, h.cell_some q1 id, h.cell_some q2 id, h.cell_some q3 id, h.cell_some q4 id, h.cell_some q5 id⟩
  have HKK := Lib.hid hkk
  have hlen : (u8s code).length = n * 1 := by rw [u8s_length, HL.out, Nat.mul_one]
  have hcells : ∀ j u, (u8s code)[j]? = some u → w3.drew.cell? (ca.add j) = some u := by
    rcases R3 with h | ⟨b, o, e, h⟩
    · intro j u hu; rw [h] at hu; simp at hu
    · cases e; exact Reads.add (w := w3.drew) h
  have HX := Lib.hid (And.intro hlen hcells)
  clear U3 V3 N3 T3 R3 E3 F3 hkk hlen hcells
  go_region_held3 (fun w' => w'.cell? ⟨Q, 0, none⟩ = some (.int .u16 ((entry + 2) % 65536)) ∧ w'.cell? ⟨Q, 1, none⟩ = some (.int .i64 1) ∧ w'.cell? ⟨Q, 2, none⟩ = some (.int .i64 0) ∧ w'.cell? ⟨Q, 3, none⟩ = some (.pointer (some ⟨D, 0, none⟩)) ∧ w'.cell? ⟨Q, 4, none⟩ = some (.pointer (some ⟨R, 0, none⟩)) ∧ w'.cell? ⟨w.heap.size, 0, none⟩ = some (.slice (some ca) n cc)) (first | with_reducible exact ⟨q0, q1, q2, q3, q4, q5⟩ | with_reducible exact Q4.out | with_reducible exact Q5.out)
    ((refine step_append_row rfl (.const (.slice none 0 0)) (.tmp 32) 70 rfl 5 i0 (.int .u8 0) 1 1 Tryd.underlying70 hi hz0 hz1 hz2 rfl (by decide) (fun _ => 0) 9 none 0 0 [] rfl (Row.nil _ _ _ _ _) ca n cc (u8s code) rfl HX.out.1 HX.out.2 (u8s_one code) (by unfold maxLen; omega) (by omega) ?_; intro va vc w4 Gx h1 h2; rw [Nat.zero_add, List.nil_append] at h1; rw [Nat.zero_add]; obtain ⟨f1, f2⟩ := fresh_row h2 h1 G3 0; have A4 := Lib.hid f1; have R4 := Lib.hid f2; have Q4 := Lib.hid (HKK.out _ _ f1); have Q5 := Lib.hid (HKK.out _ _ (f1.alloc (.cells #[.int .u16 ((entry + 2) % 65536), .int .i64 1, .int .i64 0, .pointer (some ⟨D, 0, none⟩), .pointer (some ⟨R, 0, none⟩), .slice va n vc, .pointer (some ⟨M, 0, none⟩)] 148) p)); clear h1 h2 f1 f2))
  go_wp2_with fail
  go_ret2
  have a5 := A4.out.alloc (.cells #[.int .u16 ((entry + 2) % 65536), .int .i64 1, .int .i64 0, .pointer (some ⟨D, 0, none⟩), .pointer (some ⟨R, 0, none⟩), .slice va n vc, .pointer (some ⟨M, 0, none⟩)] 148) p
  have hrow := R4.out.adv (S := fun _ => False) ((Adv.refl (fun _ => False) w4 _).alloc (.cells #[.int .u16 ((entry + 2) % 65536), .int .i64 1, .int .i64 0, .pointer (some ⟨D, 0, none⟩), .pointer (some ⟨R, 0, none⟩), .slice va n vc, .pointer (some ⟨M, 0, none⟩)] 148) p) id
  refine ⟨w4.heap.size, D, R, M, _, rfl, A3.out.drew.trans a5, ⟨va, vc, by rw [HL.out]; exact heap_alloc_new w4 _, hrow.reads, fun ad e => ?_⟩, own1_new _ _ _, TR3.out.drew.still a5, (HT3.out.adv (Adv.refl (fun _ => False) w3 G3).drew id).adv a5 id, ⟨⟨D16.nil, (fun x hx => by cases hx), by show 0 ≤ 256; decide, by show 0 ≤ 128; decide, newM_ok l HB.out.2, newM_rng l HB.out.1⟩, (mod16 _).1, (mod16 _).2, HCB.out, by rw [HL.out]; exact hn⟩⟩
  have hz := hrow.row.2
  rcases hz with ⟨e1, _⟩ | ⟨g, cap, cur, e1, hg, hgl, _⟩
  · cases e1; cases e
  · cases e1; cases e
    exact ⟨hrow.own g rfl, (hrow.row.lt g rfl).2⟩
end Go.Proofs.YtdnalhjdmlkbmaaDoor
namespace Go.Proofs.YtdnalhjdmlkbmaaDoor
open Go.RowKit
set_option linter.unusedVariables false
def numsB : Nat → List Int
  | 0 => []
  | k + 1 => numsB k ++ [(k : Int) % 256, 0]
def cellsB : List Int → List Int
  | [] => []
  | x :: l => x % 256 :: x / 256 :: cellsB l
def threadB (l : List Int) : List Int := numsB 64 ++ [1, 0] ++ cellsB l
theorem cellsB_length : ∀ l : List Int, (cellsB l).length = 2 * l.length
  | [] => rfl
  | x :: l => by simp [cellsB, cellsB_length l]; omega
theorem numsB_length : ∀ k : Nat, (numsB k).length = 2 * k
  | 0 => rfl
  | k + 1 => by simp [numsB, numsB_length k]; omega
theorem cellsB_snoc : ∀ (l : List Int) (x : Int), cellsB (l ++ [x]) = cellsB l ++ [x % 256, x / 256]
  | [], x => rfl
  | y :: l, x => by simp [cellsB, cellsB_snoc l x]
theorem own4c {w : World} {G : Nat → Nat} {o : Nat} (b : Nat) (hb : G b = o) (v0 v1 v2 v3 : Value) : Adv (fun x => x = o) w G ((((w.setCell ⟨b, 0, none⟩ v0).setCell ⟨b, 1, none⟩ v1).setCell ⟨b, 2, none⟩ v2).setCell ⟨b, 3, none⟩ v3) G :=
  ((((Adv.refl (fun x => x = o) w G).setCell (p := ⟨b, 0, none⟩) hb v0).setCell (p := ⟨b, 1, none⟩) hb v1).setCell (p := ⟨b, 2, none⟩) hb v2).setCell (p := ⟨b, 3, none⟩) hb v3
/-- What threads answers. -/
def ThreadsIs (l : List Int) (w : World) (G : Nat → Nat) (e : Ending) (w' : World) : Prop :=
  ∃ ca cc G', e = .returned (cartV (some ca) (130 + 2 * l.length) cc 128 none 0 0 none 0 0) ∧ Adv (fun _ => False) w G w' G' ∧ Reads w' (some ca) (u8s (threadB l)) ∧ G' ca.block = 0 ∧ ca.block < w'.heap.size ∧ w.heap.size ≤ ca.block
set_option maxRecDepth 100000 in
set_option maxHeartbeats 2000000 in
theorem threads_any (G : Nat → Nat) (xa : Option Addr) (xc : Nat) (l : List Int) (hl : D16 l) (hn : l.length ≤ 1000) (w : World) (hr : Reads w xa (cellsU l)) :
    Calls Tryd.prog 69 #[.slice xa l.length xc] w (ThreadsIs l w G) := by
  obtain ⟨i0, hi, hz0, hz1, hz2⟩ := info_parts infoU8
  have Z0 := Lib.hid (Mine.made w (fun _ => 0) w (Nat.le_refl _) #[.slice none 0 0, .int .u16 0, .slice none 0 0, .slice none 0 0] 74)
  have A0 := Lib.hid ((Adv.refl (fun o => o = 9) w (fun _ => 0)).alloc (.cells #[.slice none 0 0, .int .u16 0, .slice none 0 0, .slice none 0 0] 74) 1000)
  have HR := Lib.hid hr
  have HL := Lib.hid hl
  clear hr hl
  go_enter Tryd.func69, Tryd.ntmps69
  go_wp2_with fail
  go_loopw [3, 4] (fun vb vk wr => ∃ k : Nat, k ≤ 64 ∧ vk = .int .i64 k ∧ ∃ va vc Gr, vb = .slice va (2 * k) vc ∧ Row 5 1 wr Gr 9 (.slice va (2 * k) vc) (2 * k) (u8s (numsB k)) ∧ Adv (fun o => o = 9) w (fun _ => 0) wr Gr ∧ Mine w wr Gr w.heap.size #[.slice none 0 0, .int .u16 0, .slice none 0 0, .slice none 0 0] 74) (fun _ vk _ => 64 - (intOf vk).toNat)
  case atStart => exact ⟨0, by omega, rfl, none, 0, _, rfl, Row.nil _ _ _ _ _, A0.out, Z0.out⟩
  case round =>
    obtain ⟨k, hk, rfl, va, vc, Gr, rfl, row, ar, mn⟩ := hrel
    have ROW := Lib.hid row
    have AR := Lib.hid ar
    clear row ar
    by_cases h : k < 64
    · have hb : decide ((k : Int) < 64) = true := by simp; omega
      have hwk : IntKind.wrap .u8 (k : Int) = k := wrap_u8_id _ (by omega) (by omega)
      have hwi : IntKind.i64.wrap ((k : Int) + 1) = (k : Int) + 1 := IntWalk.i64_in _ (by omega)
      have RN := Lib.hid (Reads.new wr [.int .u8 (k : Int), .int .u8 0] 5)
      have RW := Lib.hid (ROW.out.adv ((Adv.refl (fun _ => False) wr Gr).alloc (.cells #[.int .u8 (k : Int), .int .u8 0] 5) 9) id)
      have AW := Lib.hid (AR.out.alloc (.cells #[.int .u8 (k : Int), .int .u8 0] 5) 9)
      go_wp2_with (first
        | (at_builtin; refine wpList_append_reads rfl (.tmp 11) (.tmp 14) 70 rfl 5 i0 (.int .u8 0) 1 1 Tryd.underlying70 hi hz0 hz1 hz2 rfl (by decide) _ 9 va (2 * k) vc (u8s (numsB k)) rfl RW.out (some ⟨wr.heap.size, 0, none⟩) 2 2 [.int .u8 (k : Int), .int .u8 0] rfl rfl RN.out (by intro u hu; simp at hu; rcases hu with rfl | rfl <;> rfl) (by unfold maxLen; omega) (by omega) ?_; intro va1 vc1 w1 G1 h1 h2; have HR1 := Lib.hid h1; have HA1 := Lib.hid (AW.out.trans h2); have HS1 := Lib.hid (((Adv.refl (fun o => o = 9) wr Gr).alloc (.cells #[.int .u8 (k : Int), .int .u8 0] 5) 9).trans h2); clear h1 h2))
      refine ⟨⟨k + 1, by omega, by simp, va1, vc1, G1, rfl, ?_, HA1.out, mn.adv HS1.out (by decide)⟩, ?_⟩
      · have e := HR1.out
        rw [show u8s (numsB (k + 1)) = u8s (numsB k) ++ [.int .u8 (k : Int), .int .u8 0] from by rw [numsB, u8s_append]; simp only [u8s, List.map]; rw [Int.emod_eq_of_lt (by omega) (by omega)]]
        exact e
      · simp only [intOf]; omega
    · have hb : decide ((k : Int) < 64) = false := by simp; omega
      have AW := Lib.hid (AR.out.alloc (.cells #[.int .u8 1, .int .u8 0] 5) 9)
      have RN := Lib.hid (Reads.new wr [.int .u8 1, .int .u8 0] 5)
      have RW := Lib.hid (ROW.out.adv ((Adv.refl (fun _ => False) wr Gr).alloc (.cells #[.int .u8 1, .int .u8 0] 5) 9) id)
      go_wp2_with (first
        | (at_builtin; refine wpList_append_reads rfl (.tmp 16) (.tmp 17) 70 rfl 5 i0 (.int .u8 0) 1 1 Tryd.underlying70 hi hz0 hz1 hz2 rfl (by decide) _ 9 va (2 * k) vc (u8s (numsB k)) rfl RW.out (some ⟨wr.heap.size, 0, none⟩) 2 2 [.int .u8 1, .int .u8 0] rfl rfl RN.out (by intro u hu; simp at hu; rcases hu with rfl | rfl <;> rfl) (by unfold maxLen; omega) (by omega) ?_; intro va1 vc1 w1 G1 h1 h2; have HR1 := Lib.hid h1; have HA1 := Lib.hid (AW.out.trans h2); have HS1 := Lib.hid (((Adv.refl (fun o => o = 9) wr Gr).alloc (.cells #[.int .u8 1, .int .u8 0] 5) 9).trans h2); clear h1 h2))
      have HK := Lib.hid (show k = 64 by omega)
      clear h hk
      have RL := Lib.hid (HR.out.adv HA1.out (fun _ _ => by decide))
      go_loopw [3, 21] (fun vb vk wx => ∃ k : Nat, k ≤ l.length ∧ vk = .int .i64 k ∧ ∃ va vc Gr, vb = .slice va (130 + 2 * k) vc ∧ Row 5 1 wx Gr 9 (.slice va (130 + 2 * k) vc) (130 + 2 * k) (u8s (threadB (l.take k))) ∧ Adv (fun o => o = 9) w (fun _ => 0) wx Gr ∧ Mine w wx Gr w.heap.size #[.slice none 0 0, .int .u16 0, .slice none 0 0, .slice none 0 0] 74) (fun _ vk _ => l.length - (intOf vk).toNat)
      case atStart => exact ⟨0, by omega, rfl, va1, vc1, G1, by rw [HK.out], by have e := HR1.out; rw [show u8s (threadB (l.take 0)) = u8s (numsB k) ++ [.int .u8 1, .int .u8 0] from by rw [List.take_zero, threadB, u8s_append, u8s_append, HK.out]; simp [u8s, cellsB]]; rw [HK.out] at e ⊢; exact e, HA1.out, mn.adv HS1.out (by decide)⟩
      case round =>
        obtain ⟨k, hk, rfl, va, vc, Gr, rfl, row, ar, mn⟩ := hrel
        have ROW2 := Lib.hid row
        have AR2 := Lib.hid ar
        clear row ar
        by_cases h : k < l.length
        · obtain ⟨x, hx⟩ : ∃ x, l[k]? = some x := ⟨l[k], List.getElem?_eq_getElem h⟩
          obtain ⟨x0, x1⟩ := HL.out x (List.mem_of_getElem? hx)
          have hb : decide ((k : Int) < (l.length : Int)) = true := by simp; omega
          have hw1 : IntKind.wrap .u8 x = x % 256 := wrap_u8_mod x
          have hw2 : IntKind.wrap .u8 (x / 256) = x / 256 := wrap_u8_id _ (by omega) (by omega)
          have hq : Int.tdiv x 256 = x / 256 := Int.tdiv_eq_ediv_of_nonneg x0
          have hwi : IntKind.i64.wrap ((k : Int) + 1) = (k : Int) + 1 := IntWalk.i64_in _ (by omega)
          obtain ⟨b, o, e, hcell, hblt⟩ := (HR.out.adv AR2.out (fun _ _ => by decide)).atU k x hx
          subst e
          have hq16 : IntKind.wrap .u16 (x / 256) = x / 256 := wrap_u16_id _ (by omega) (by omega)
          have AW := Lib.hid (AR2.out.alloc (.cells #[.int .u8 (x % 256), .int .u8 (x / 256)] 5) 9)
          have RN := Lib.hid (Reads.new wr [.int .u8 (x % 256), .int .u8 (x / 256)] 5)
          have RW := Lib.hid (ROW2.out.adv ((Adv.refl (fun _ => False) wr Gr).alloc (.cells #[.int .u8 (x % 256), .int .u8 (x / 256)] 5) 9) id)
          go_wp2_with (first
            | (at_builtin; refine wpList_append_reads rfl (.tmp 25) (.tmp 31) 70 rfl 5 i0 (.int .u8 0) 1 1 Tryd.underlying70 hi hz0 hz1 hz2 rfl (by decide) _ 9 va (130 + 2 * k) vc (u8s (threadB (l.take k))) rfl RW.out (some ⟨wr.heap.size, 0, none⟩) 2 2 [.int .u8 (x % 256), .int .u8 (x / 256)] rfl rfl RN.out (by intro u hu; simp at hu; rcases hu with rfl | rfl <;> rfl) (by unfold maxLen; omega) (by omega) ?_; intro va2 vc2 w2 G2 h1 h2; have HR2 := Lib.hid h1; have HA2 := Lib.hid (AW.out.trans h2); have HS2 := Lib.hid (((Adv.refl (fun o => o = 9) wr Gr).alloc (.cells #[.int .u8 (x % 256), .int .u8 (x / 256)] 5) 9).trans h2); clear h1 h2))
          refine ⟨⟨k + 1, by omega, by simp, va2, vc2, G2, rfl, ?_, HA2.out, mn.adv HS2.out (by decide)⟩, ?_⟩
          · have e := HR2.out
            rw [show u8s (threadB (l.take (k + 1))) = u8s (threadB (l.take k)) ++ [.int .u8 (x % 256), .int .u8 (x / 256)] from by rw [List.take_add_one, hx, Option.toList_some, threadB, cellsB_snoc, ← List.append_assoc, u8s_append]; rfl]
            exact e
          · simp only [intOf]; omega
        · have hb : decide ((k : Int) < (l.length : Int)) = false := by simp; omega
          have hkk : k = l.length := by omega
          subst hkk
          have y0 := mn.cell 0 (.slice none 0 0) rfl
          have y1 := mn.cell 1 (.int .u16 0) rfl
          have y2 := mn.cell 2 (.slice none 0 0) rfl
          have y3 := mn.cell 3 (.slice none 0 0) rfl
          have yf := mn.free
          go_wp2_with fail
          have A5 := ((((AR2.out.setNew (p := ⟨w.heap.size, 0, none⟩) (Nat.le_refl _) (.slice va (130 + 2 * l.length) vc)).setNew (p := ⟨w.heap.size, 1, none⟩) (Nat.le_refl _) (.int .u16 128)).setNew (p := ⟨w.heap.size, 2, none⟩) (Nat.le_refl _) (.slice none 0 0)).setNew (p := ⟨w.heap.size, 3, none⟩) (Nat.le_refl _) (.slice none 0 0))
          have R5 := ROW2.out.adv (own4c (w := wr) (G := Gr) w.heap.size mn.own (.slice va (130 + 2 * l.length) vc) (.int .u16 128) (.slice none 0 0) (.slice none 0 0)) (by decide)
          obtain ⟨a, c, e, _, _, e2⟩ := R5.slice
          cases e
          obtain ⟨g, rfl⟩ := e2 (by omega)
          obtain ⟨f1, f2⟩ := fresh_row A5 R5 G 0
          have hlt := (R5.row.lt g rfl).2
          have hold : w.heap.size ≤ g := Nat.le_of_not_lt fun h => by have := A5.own g h; rw [R5.own g rfl] at this; cases this
          rw [List.take_length] at f2
          exact bodyPost_ret (v := cartV (some ⟨g, 0, none⟩) (130 + 2 * l.length) vc 128 none 0 0 none 0 0) (by simp [results, Tryd.results69, go_sem, cartV, y0, y1, y2, y3]) rfl
            ⟨⟨g, 0, none⟩, vc, _, rfl, f1, f2.reads, f2.own g rfl, hlt, hold⟩
end Go.Proofs.YtdnalhjdmlkbmaaDoor
namespace Go.Proofs.YtdnalhjdmlkbmaaDoor
set_option linter.unusedVariables false
def codeA : List Int := threadB [6, 7, 6, 0, 48, 16]
def endA : VmS × Int × Int := frameF codeA 0 100 (startS 128 [])
set_option maxRecDepth 1000000 in
theorem endA_is : (endA.1.st, endA.2.1, endA.2.2, endA.1.d) = (2, 4, 10, [0]) := by kernel_rfl
end Go.Proofs.YtdnalhjdmlkbmaaDoor
namespace Go.Proofs.YtdnalhjdmlkbmaaDoor
open Go.RowKit
set_option linter.unusedVariables false
theorem memory_nil (w : World) : Calls Tryd.prog 41 #[.pointer none] w fun e w' => e = .returned (.pointer none) ∧ w = w' := by
  go_enter Tryd.func41, Tryd.ntmps41
  go_wp2
  go_ret
  exact ⟨rfl, rfl⟩
theorem copy_nil (w : World) : Calls Tryd.prog 42 #[.pointer none] w fun e w' => e = .returned (.pointer none) ∧ w = w' := by
  go_enter Tryd.func42, Tryd.ntmps42
  go_wp2
  go_ret
  exact ⟨rfl, rfl⟩
/-- The state of none. -/
def noStateV : Value := .agg #[.int .u16 0, .int .i64 0, .int .i64 0, .slice none 0 0, .slice none 0 0]
set_option maxRecDepth 100000 in
set_option maxHeartbeats 1000000 in
theorem same_nil (w : World) (G : Nat → Nat) : Calls Tryd.prog 40 #[noStateV, noStateV] w (Looked w G (.bool true)) := by
  have A0 := Lib.hid (((Adv.refl (fun _ => False) w G).alloc (.cells #[.int .u16 0, .int .i64 0, .int .i64 0, .slice none 0 0, .slice none 0 0] 86) 0).alloc (.cells #[.int .u16 0, .int .i64 0, .int .i64 0, .slice none 0 0, .slice none 0 0] 93) 0)
  unfold noStateV
  go_enter Tryd.func40, Tryd.ntmps40
  go_wp2_with fail
  go_loop [47] (fun v => v = .int .i64 0) (fun _ => 0)
  case atStart => rfl
  case round =>
    obtain rfl := hrel
    go_wp2_with fail
    go_loop [65] (fun v => v = .int .i64 0) (fun _ => 0)
    case atStart => rfl
    case round =>
      obtain rfl := hrel
      go_wp2_with fail
      go_ret
      exact ⟨rfl, _, A0.out⟩
set_option maxRecDepth 100000 in
set_option maxHeartbeats 1000000 in
theorem check_plain (G : Nat → Nat) (ca : Option Addr) (n cc : Nat) (entry : Int) (hn : n ≤ 16384) (h2 : n % 2 = 0) (w : World) :
    Calls Tryd.prog 67 #[cartV ca n cc entry none 0 0 none 0 0] w (Looked w G (.int .i64 0)) := by
  have A0 := Lib.hid ((Adv.refl (fun _ => False) w G).alloc (.cells #[.slice ca n cc, .int .u16 entry, .slice none 0 0, .slice none 0 0] 74) 0)
  have t0 : Int.tmod (n : Int) 2 = 0 := by rw [Int.tmod_eq_emod_of_nonneg (by omega)]; omega
  have t1 : decide (16384 < (n : Int)) = false := by simp; omega
  unfold cartV
  go_enter Tryd.func67, Tryd.ntmps67
  go_wp2_with fail
  go_loop [27] (fun v => v = .int .i64 0) (fun _ => 0)
  case atStart => rfl
  case round =>
    obtain rfl := hrel
    go_wp2_with fail
    go_loop [62] (fun v => v = .int .i64 0) (fun _ => 0)
    case atStart => rfl
    case round =>
      obtain rfl := hrel
      go_wp2_with fail
      go_ret
      exact ⟨rfl, _, A0.out⟩
end Go.Proofs.YtdnalhjdmlkbmaaDoor
namespace Go.Proofs.YtdnalhjdmlkbmaaDoor
open Go.RowKit
set_option linter.unusedVariables false
theorem own4123 : Own4 4 1 2 3 := ⟨own123, by decide, by unfold S3; decide⟩
theorem far4123 : Far 4 1 2 3 := by unfold Far S4 S3; decide
theorem codeA_b8 : B8 codeA := by
  have h : (codeA.all fun x => decide (0 ≤ x) && decide (x < 256)) = true := by kernel_rfl
  intro x hx
  have := List.all_eq_true.1 h x hx
  simpa using this
/-- What is allowed of a machine's own and a call's own. -/
def S5k (p i j q : Nat) : Nat → Prop := fun o => S4 p i j q o ∨ o = 1000
set_option maxRecDepth 100000 in
set_option maxHeartbeats 2000000 in
theorem awake_any (G : Nat → Nat) (w : World) (ht : Tabs w (fun _ => 0)) : Calls Tryd.prog 34 #[] w (Looked w G (.bool true)) := by
  have A0 := Lib.hid ((Adv.refl (S5k 4 1 2 3) w (fun _ => 0)).alloc (.cells #[.int .u16 6, .int .u16 7, .int .u16 6, .int .u16 0, .int .u16 48, .int .u16 16] 41) 0)
  have R0 := Lib.hid (Reads.new w [.int .u16 6, .int .u16 7, .int .u16 6, .int .u16 0, .int .u16 48, .int .u16 16] 41)
  have HT := Lib.hid ht
  have n0 : ¬ S5k 4 1 2 3 0 := by unfold S5k S4 S3; decide
  clear ht
  go_enter Tryd.func34, Tryd.ntmps34
  go_wp2_with fail
  refine (threads_any (own1 w (fun _ => 0) 0) (some ⟨w.heap.size, 0, none⟩) 6 [6, 7, 6, 0, 48, 16] (by intro x hx; simp at hx; omega) (by decide) _ R0.out).mono ?_
  rintro e w1 ⟨ca, cc, G1, rfl, a1, r1, g1, l1, _⟩
  have A1 := Lib.hid (A0.out.trans (a1.mono (T := S5k 4 1 2 3) fun _ h => h.elim))
  have R1 := Lib.hid r1
  clear a1 r1
  go_wp2_with fail
  refine (vmNew_ok 4 1 2 3 own4123 G1 ca 142 cc 128 (by decide) (by decide) none 0 0 none 0 0 codeA [] w1 (by kernel_rfl) (by decide) codeA_b8 R1.out rfl (by decide) rfl (by intro x hx; cases hx) (by intro x hx; cases hx) (by intro w' G' _ k p hp; simp at hp) (fun w' G' _ => check_plain G' _ _ _ _ (by decide) (by decide) w') (HT.out.adv A1.out n0)).mono ?_
  rintro e w2 ⟨P, D, R, M, G2, rfl, a2, v2⟩
  have A2 := Lib.hid (A1.out.trans (a2.mono (T := S5k 4 1 2 3) fun _ h => h.elim))
  have V2 := Lib.hid v2
  clear a2 v2
  go_wp2_with fail
  refine (show Calls Tryd.prog 36 #[.pointer (some ⟨P, 0, none⟩), .int .u8 0, .int .i64 100] w2 (FrameIs 4 1 2 3 P D R M codeA w2 G2 endA.1 endA.2.1 endA.2.2 100) from frame_any own4123 far4123 0 100 (by decide) (by decide) (by decide) (by decide) V2.out).mono ?_
  rintro e w3 ⟨b, ta, tc, G3, rfl, a3, v3, -, -⟩
  have e1 : endA.1.st = 2 := congrArg (·.1) endA_is
  have e2 : endA.2.1 = 4 := congrArg (·.2.1) endA_is
  have e3 : endA.2.2 = 10 := congrArg (·.2.2.1) endA_is
  have e4 : endA.1.d = [0] := congrArg (·.2.2.2) endA_is
  rw [e1, e2, e3]
  have AR := Lib.hid a3
  have V3 := Lib.hid v3
  have E4 := Lib.hid e4
  clear a3 v3 e1 e2 e3 e4
  have ⟨z, hz⟩ : ∃ z, endA.1 = z := ⟨_, rfl⟩
  rw [hz] at V3 E4 ⊢
  clear hz
  have A3 := Lib.hid (A2.out.trans (AR.out.mono (T := S5k 4 1 2 3) fun _ h => .inl h))
  have M4 := Lib.hid (Mine.made w3 G3 w A3.out.size #[.int .i64 2, .int .i64 z.ft, .int .i64 4, .int .i64 10, .int .i64 90, .slice (some ⟨b, 0, none⟩) z.m.screen.length z.m.screen.length, .slice ta z.m.tones.length tc] 81)
  have AL4 := Lib.hid ((Adv.refl (fun o => o = 1000) w3 G3).alloc (.cells #[.int .i64 2, .int .i64 z.ft, .int .i64 4, .int .i64 10, .int .i64 90, .slice (some ⟨b, 0, none⟩) z.m.screen.length z.m.screen.length, .slice ta z.m.tones.length tc] 81) 1000)
  go_wp2_with fail
  obtain ⟨w4, hw4⟩ : ∃ v, v = w3.alloc (.cells #[.int .i64 2, .int .i64 z.ft, .int .i64 4, .int .i64 10, .int .i64 90, .slice (some ⟨b, 0, none⟩) z.m.screen.length z.m.screen.length, .slice ta z.m.tones.length tc] 81) := ⟨_, rfl⟩
  rw [← hw4] at M4 AL4 ⊢
  obtain ⟨G4, hG4⟩ : ∃ g, g = own1 w3 G3 1000 := ⟨_, rfl⟩
  rw [← hG4] at M4 AL4
  obtain ⟨bo, hbo⟩ : ∃ g, g = w3.heap.size := ⟨_, rfl⟩
  rw [← hbo] at M4 ⊢
  have V4 := Lib.hid (V3.out.mine own4123 far4123 AL4.out)
  have A4 := Lib.hid (A3.out.trans (AL4.out.mono (T := S5k 4 1 2 3) fun _ h => .inr h))
  clear hw4 hG4 hbo
  refine (state_any V4.out).mono ?_
  rintro e w5 ⟨sb, sc, rb, rc, G5, rfl, a5, r5, -, -, -⟩
  have E5 := Lib.hid (show Reads w5 sb (cellsU [0]) from E4.out ▸ r5)
  have M5 := Lib.hid (M4.out.adv a5 id)
  have A5 := Lib.hid (A4.out.trans (a5.mono (T := S5k 4 1 2 3) fun _ h => h.elim))
  have N0 := Lib.hid (Mine.made w5 G5 w A5.out.size #[.int .u16 z.pc, .int .i64 z.st, .int .i64 z.ft, .slice sb 1 sc, .slice rb z.r.length rc] 86)
  have AN := Lib.hid ((Adv.refl (fun _ => False) w5 G5).alloc (.cells #[.int .u16 z.pc, .int .i64 z.st, .int .i64 z.ft, .slice sb 1 sc, .slice rb z.r.length rc] 86) 1000)
  have hsl : z.d.length = 1 := by rw [E4.out]; rfl
  clear a5 r5
  unfold stateV
  rw [hsl]
  clear hsl
  obtain ⟨w6, hw6⟩ : ∃ v, v = w5.alloc (.cells #[.int .u16 z.pc, .int .i64 z.st, .int .i64 z.ft, .slice sb 1 sc, .slice rb z.r.length rc] 86) := ⟨_, rfl⟩
  obtain ⟨ab, ao, e, hcell, hab⟩ := (E5.out.adv AN.out (fun _ _ => id)).atU 0 0 rfl
  subst e
  have M6 := Lib.hid (M5.out.adv AN.out id)
  go_upto_region 6 with fail
  rw [← hw6] at N0 AN hcell M6 ⊢
  have A6 := Lib.hid (A5.out.trans (AN.out.mono (T := S5k 4 1 2 3) fun _ h => h.elim))
  have y0 := M6.out.cell 0 (.int .i64 2) rfl
  have y2 := M6.out.cell 2 (.int .i64 4) rfl
  have y3 := M6.out.cell 3 (.int .i64 10) rfl
  have y4 := M6.out.cell 4 (.int .i64 90) rfl
  have z3 := N0.out.cell 3 (.slice (some ⟨ab, ao, none⟩) 1 sc) rfl
  obtain ⟨so, hso⟩ : ∃ v, v = w5.heap.size := ⟨_, rfl⟩
  rw [← hso] at z3 ⊢
  rw [Nat.add_zero] at hcell
  clear hw6 hso
  go_wp2_with fail
  go_ret
  exact ⟨rfl, _, joined_adv A6.out n0⟩
end Go.Proofs.YtdnalhjdmlkbmaaDoor
namespace Go.Proofs.YtdnalhjdmlkbmaaDoor
open Go.RowKit
set_option linter.unusedVariables false
set_option maxRecDepth 100000 in
set_option maxHeartbeats 2000000 in
theorem vmNone_any (G : Nat → Nat) (x n : Int) (w : World) (ht : Tabs w (fun _ => 0)) : Calls Tryd.prog 8 #[.int .u8 x, .int .i64 n] w (Looked w G (.bool true)) := by
  have HT := Lib.hid ht
  clear ht
  go_enter Tryd.func8, Tryd.ntmps8
  go_wp2_with fail
  refine (look_nil w (fun _ => 0)).mono ?_
  rintro e w1 ⟨rfl, G1, a1⟩
  have A1 := Lib.hid a1
  clear a1
  unfold lookT primV0
  have P1 := Lib.hid (Mine.made w1 G1 w A1.out.size #[.int .i64 0, .string ⟨#[]⟩, .int .i64 0, .int .i64 0, .int .i64 0, .bool false] 25)
  have B1 := Lib.hid (A1.out.alloc (.cells #[.int .i64 0, .string ⟨#[]⟩, .int .i64 0, .int .i64 0, .int .i64 0, .bool false] 25) 1000)
  go_wp2_with fail
  obtain ⟨v1, hv1⟩ : ∃ v, v = w1.alloc (.cells #[.int .i64 0, .string ⟨#[]⟩, .int .i64 0, .int .i64 0, .int .i64 0, .bool false] 25) := ⟨_, rfl⟩
  obtain ⟨H1, hH1⟩ : ∃ v, v = own1 w1 G1 1000 := ⟨_, rfl⟩
  obtain ⟨b1, hb1⟩ : ∃ v, v = w1.heap.size := ⟨_, rfl⟩
  rw [← hv1] at P1 B1 ⊢
  rw [← hH1] at P1 B1
  rw [← hb1] at P1 ⊢
  clear hv1 hH1 hb1
  refine (frame_nil x n v1 H1).mono ?_
  rintro e w2 ⟨rfl, G2, a2⟩
  have A2 := Lib.hid (B1.out.trans a2)
  have P2 := Lib.hid (P1.out.adv a2 id)
  have Q2 := Lib.hid (Mine.made w2 G2 w A2.out.size #[.int .i64 0, .int .i64 0, .int .i64 0, .int .i64 0, .int .i64 0, .slice none 0 0, .slice none 0 0] 81)
  have B2 := Lib.hid (A2.out.alloc (.cells #[.int .i64 0, .int .i64 0, .int .i64 0, .int .i64 0, .int .i64 0, .slice none 0 0, .slice none 0 0] 81) 1000)
  have PP2 := Lib.hid (P2.out.adv (S := fun _ => False) ((Adv.refl _ w2 G2).alloc (.cells #[.int .i64 0, .int .i64 0, .int .i64 0, .int .i64 0, .int .i64 0, .slice none 0 0, .slice none 0 0] 81) 1000) id)
  clear a2 P1
  go_wp2_with fail
  obtain ⟨v2, hv2⟩ : ∃ v, v = w2.alloc (.cells #[.int .i64 0, .int .i64 0, .int .i64 0, .int .i64 0, .int .i64 0, .slice none 0 0, .slice none 0 0] 81) := ⟨_, rfl⟩
  obtain ⟨H2, hH2⟩ : ∃ v, v = own1 w2 G2 1000 := ⟨_, rfl⟩
  obtain ⟨b2, hb2⟩ : ∃ v, v = w2.heap.size := ⟨_, rfl⟩
  rw [← hv2] at Q2 B2 PP2 ⊢
  rw [← hH2] at Q2 B2 PP2
  rw [← hb2] at Q2 ⊢
  clear hv2 hH2 hb2
  refine (state_nil v2 H2).mono ?_
  rintro e w3 ⟨rfl, G3, a3⟩
  have A3 := Lib.hid (B2.out.trans a3)
  have P3 := Lib.hid (PP2.out.adv a3 id)
  have Q3 := Lib.hid (Q2.out.adv a3 id)
  have R3 := Lib.hid (Mine.made w3 G3 w A3.out.size #[.int .u16 0, .int .i64 0, .int .i64 0, .slice none 0 0, .slice none 0 0] 86)
  have B3 := Lib.hid (A3.out.alloc (.cells #[.int .u16 0, .int .i64 0, .int .i64 0, .slice none 0 0, .slice none 0 0] 86) 1000)
  have P4 := Lib.hid (P3.out.adv (S := fun _ => False) ((Adv.refl _ w3 G3).alloc (.cells #[.int .u16 0, .int .i64 0, .int .i64 0, .slice none 0 0, .slice none 0 0] 86) 1000) id)
  have Q4 := Lib.hid (Q3.out.adv (S := fun _ => False) ((Adv.refl _ w3 G3).alloc (.cells #[.int .u16 0, .int .i64 0, .int .i64 0, .slice none 0 0, .slice none 0 0] 86) 1000) id)
  clear a3 P2 Q2 P3 Q3
  go_upto_region 5 with fail
  obtain ⟨v3, hv3⟩ : ∃ v, v = w3.alloc (.cells #[.int .u16 0, .int .i64 0, .int .i64 0, .slice none 0 0, .slice none 0 0] 86) := ⟨_, rfl⟩
  obtain ⟨H3, hH3⟩ : ∃ v, v = own1 w3 G3 1000 := ⟨_, rfl⟩
  obtain ⟨b3, hb3⟩ : ∃ v, v = w3.heap.size := ⟨_, rfl⟩
  rw [← hv3] at P4 Q4 R3 B3 ⊢
  rw [← hH3] at P4 Q4 R3 B3
  rw [← hb3] at R3 ⊢
  clear hv3 hH3 hb3
  have p0 := P4.out.cell 0 (.int .i64 0) rfl
  have p1 := P4.out.cell 1 (.string ⟨#[]⟩) rfl
  have p2 := P4.out.cell 2 (.int .i64 0) rfl
  have p3 := P4.out.cell 3 (.int .i64 0) rfl
  have p4 := P4.out.cell 4 (.int .i64 0) rfl
  have p5 := P4.out.cell 5 (.bool false) rfl
  have q0 := Q4.out.cell 0 (.int .i64 0) rfl
  have q5 := Q4.out.cell 5 (.slice none 0 0) rfl
  have r0 := R3.out.cell 0 (.int .u16 0) rfl
  have r1 := R3.out.cell 1 (.int .i64 0) rfl
  have r2 := R3.out.cell 2 (.int .i64 0) rfl
  have r3 := R3.out.cell 3 (.slice none 0 0) rfl
  have r4 := R3.out.cell 4 (.slice none 0 0) rfl
  go_wp2_with fail
  refine (step_nil v3).mono ?_
  rintro e v4 ⟨rfl, rfl⟩
  go_wp2_with fail
  refine (show Calls Tryd.prog 40 #[.agg #[.int .u16 0, .int .i64 0, .int .i64 0, .slice none 0 0, .slice none 0 0], .agg #[.int .u16 0, .int .i64 0, .int .i64 0, .slice none 0 0, .slice none 0 0]] v3 (Looked v3 H3 (.bool true)) from same_nil v3 H3).mono ?_
  rintro e v4 ⟨rfl, H4, a4⟩
  have B4 := Lib.hid (B3.out.trans a4)
  clear a4
  clear p0 p1 p2 p3 p4 p5 q0 q5 r0 r1 r2 r3 r4
  go_wp2_with fail
  refine (memory_nil v4).mono ?_
  rintro e v5 ⟨rfl, rfl⟩
  go_wp2_with fail
  refine (copy_nil v4).mono ?_
  rintro e v5 ⟨rfl, rfl⟩
  go_wp2_with fail
  refine (awake_any H4 v4 ((HT.out.adv B4.out id).relabel fun _ _ _ => rfl)).mono ?_
  rintro e v5 ⟨rfl, H5, a5⟩
  have B5 := Lib.hid (B4.out.trans a5)
  clear a5
  go_wp2_with fail
  go_ret
  exact ⟨rfl, _, joined_adv B5.out id⟩
end Go.Proofs.YtdnalhjdmlkbmaaDoor
namespace Go.Proofs.YtdnalhjdmlkbmaaDoor.vmNone
open Go.RowKit Go.ChangeShapes Go.WideShapes
set_option linter.unusedVariables false
set_option maxRecDepth 100000 in
theorem vmNone_open {H : Type} {enc : TypeId × Value → H} (W : World) (base : Nat) (v0 : Value) (d0 : DataW H) (p0 : List MemPlace) (h0 : DataW.Trod enc Tryd.prog W 0 (fun _ => true) true 5 v0 d0 p0) (o0 : Value.okWide Tryd.prog W .any base 5 v0)
    (v1 : Value) (d1 : DataW H) (p1 : List MemPlace) (h1 : DataW.Trod enc Tryd.prog W 0 (fun _ => true) true 3 v1 d1 p1) (o1 : Value.okWide Tryd.prog W .any base 3 v1)
    (hsz : (DataW.weightsEach Tryd.prog ([5, 3] ++ []) ([d0, d1] ++ [])).all (· ≤ reachBytes) = true) (hL : laidMetH Tryd.prog laid4 W) :
    Calls Tryd.prog 8 #[v0, v1] W fun e w' => e = .returned (.bool true) ∧ Below W.heap.size W w' := by
  obtain ⟨x, rfl, _, _⟩ := open_int Tryd.underlying5 o0 h0
  obtain ⟨y, rfl, _, _⟩ := open_int Tryd.underlying3 o1 h1
  refine (vmNone_any (fun _ => 0) x y W (of_laid hL)).mono ?_
  rintro e w' ⟨rfl, G', ha⟩
  exact ⟨rfl, ha.below (Nat.le_refl _) fun _ _ => id⟩
end Go.Proofs.YtdnalhjdmlkbmaaDoor.vmNone
