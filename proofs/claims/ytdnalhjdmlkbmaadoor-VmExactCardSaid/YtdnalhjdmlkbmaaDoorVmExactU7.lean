/- Frame: the walk; New; own: a copy of bytes; threads: the cart of a few cells; ownCart: a cart in new memory; cart.Check: of every cart; A frame: what holds of every one (the plain law of VmExact); What Check's yes says of a cart; budget; awake: what its frame comes to; Calls of a machine that is none; Check of a plain cart; awake: a cart of four steps. -/
import Derived.Outline
import Derived.Deep.RegionLaw
import Derived.BigQuiet
import Derived.Deep.QuietTactic
import Derived.Test.YtdnalhjdmlkbmaaDoorVmExactU1
import Derived.Test.YtdnalhjdmlkbmaaDoorVmExactU2
import Derived.Test.YtdnalhjdmlkbmaaDoorVmExactU3
import Derived.Test.YtdnalhjdmlkbmaaDoorVmExactU4
import Derived.Test.YtdnalhjdmlkbmaaDoorVmExactU5
import Derived.Test.YtdnalhjdmlkbmaaDoorVmExactU6
set_option linter.unusedVariables false
set_option linter.unusedSimpArgs false
set_option linter.unnecessarySimpa false
namespace Go.Proofs.YtdnalhjdmlkbmaaDoor
open Go.RowKit
set_option linter.unusedVariables false
section
variable {w w' : World} {G G' : Nat → Nat} {p i j q P D R M : Nat} {code : List Int} {s s' : VmS}
set_option maxRecDepth 100000 in
set_option maxHeartbeats 8000000 in
theorem frame_any (o : Own4 p i j q) (hfar : Far p i j q) (x budget : Int) (x0 : 0 ≤ x) (x1 : x < 256) (b0 : 4 ≤ budget) (b1 : budget ≤ 16384) (h : VM w G p i j q P D R M code s) :
    Calls Tryd.prog 36 #[.pointer (some ⟨P, 0, none⟩), .int .u8 x, .int .i64 budget] w (FrameIs p i j q P D R M code w G (frameF code x budget s).1 (frameF code x budget s).2.1 (frameF code x budget s).2.2 budget) := by
  obtain ⟨F, hF⟩ : ∃ F, F = frameF code x budget s := ⟨_, rfl⟩
  rw [← hF]
  have HF := Lib.hid hF
  have OB := Lib.hid (Mine.made w G w (Nat.le_refl _) #[.int .i64 0, .int .i64 0, .int .i64 0, .int .i64 0, .int .i64 0, (.slice none 0 0), (.slice none 0 0)] 81)
  have H0 := Lib.hid (h.alloc (.cells #[.int .i64 0, .int .i64 0, .int .i64 0, .int .i64 0, .int .i64 0, (.slice none 0 0), (.slice none 0 0)] 81) 1000)
  have A0 := Lib.hid (((Adv.refl (fun _ => False) w G).alloc (.cells #[.int .i64 0, .int .i64 0, .int .i64 0, .int .i64 0, .int .i64 0, (.slice none 0 0), (.slice none 0 0)] 81) 1000).mono (T := S4 p i j q) fun _ h => h.elim)
  have t1 : decide (budget < 4) = false := by simp; omega
  have t2 : decide (16384 < budget) = false := by simp; omega
  have hP := h.lt
  obtain ⟨c0, c1, c2, c3, c4, c6⟩ := h.cells
  clear h hF
  go_enter Tryd.func36, Tryd.ntmps36
  go_wp2_with fail
  refine (begin_any _ q M s.m H0.out.ok.gd.mo H0.out.ok.gd.mr x _ H0.out.tr.pm).mono ?_
  rintro e w1 ⟨rfl, G1, a1, p1⟩
  have hb1 := VM.memCall o H0.out a1 p1 (beginF_ok H0.out.ok.gd.mo x) (beginF_rng H0.out.ok.gd.mr ⟨x0, x1⟩)
  have A1 := Lib.hid (A0.out.trans hb1.1)
  have H1 := Lib.hid (hb1.2.alloc (.cells #[.int .i64 0, .int .i64 0, .int .i64 0, .int .i64 0, .int .i64 0, (.slice none 0 0), (.slice none 0 0)] 81) 1000)
  have OB1 := Lib.hid ((OB.out.adv hb1.1 hfar).adv ((Adv.refl (fun _ => False) w1 G1).alloc (.cells #[.int .i64 0, .int .i64 0, .int .i64 0, .int .i64 0, .int .i64 0, (.slice none 0 0), (.slice none 0 0)] 81) 1000) id)
  have OO1 := Lib.hid (Mine.made w1 G1 w A1.out.size #[.int .i64 0, .int .i64 0, .int .i64 0, .int .i64 0, .int .i64 0, (.slice none 0 0), (.slice none 0 0)] 81)
  have A2 := Lib.hid (A1.out.alloc (.cells #[.int .i64 0, .int .i64 0, .int .i64 0, .int .i64 0, .int .i64 0, (.slice none 0 0), (.slice none 0 0)] 81) 1000)
  have hsz : w.heap.size < w1.heap.size := (Array.getElem?_eq_some_iff.1 (OB.out.adv hb1.1 hfar).blk).1
  clear a1 p1 hb1 c0 c1 c2 c3 c4 c6 hP t1 t2
  go_wp2_with fail
  obtain ⟨bo, hbo⟩ : ∃ b, b = w1.heap.size := ⟨_, rfl⟩
  rw [← hbo] at OO1 ⊢
  have hne : bo ≠ w.heap.size := by omega
  have hbs : w.heap.size < bo := by omega
  clear hbo hsz
  go_loopw [9] (fun vy wr => ∃ (y : Bool) (s1 : VmS) (n c : Int) (Gr : Nat → Nat) (f : Nat), vy = .bool y ∧ Adv (S4 p i j q) w G wr Gr ∧ VM wr Gr p i j q P D R M code s1 ∧ Mine w wr Gr w.heap.size #[.int .i64 0, .int .i64 0, .int .i64 0, .int .i64 0, .int .i64 0, (.slice none 0 0), (.slice none 0 0)] 81 ∧ Mine w wr Gr bo #[.int .i64 0, .int .i64 0, .int .i64 n, .int .i64 c, .int .i64 0, (.slice none 0 0), (.slice none 0 0)] 81 ∧
      0 ≤ n ∧ 0 ≤ c ∧ c ≤ budget ∧ n ≤ c ∧ (s1.m.tones.length : Int) ≤ 3 * c ∧ budget - c ≤ f ∧ frameRest code budget f y s1 n c = F)
    (fun _ wr => (2 * (budget - intOf ((wr.cell? ⟨bo, 3, none⟩).getD undef)) + (if intOf ((wr.cell? ⟨P, 1, none⟩).getD undef) = 1 then 1 else 0)).toNat)
  case atStart =>
    exact ⟨false, _, 0, 0, _, budget.toNat, rfl, A2.out, H1.out, OB1.out, OO1.out, Int.le_refl _, Int.le_refl _, by omega, Int.le_refl _, by simp [beginF], by omega, by rw [HF.out]; rfl⟩
  case round =>
    obtain ⟨y, s1, n, c, Gr, f, rfl, ar, hv, hbb, hoo, n0, cl0, cl1, nc, tn, fl, hrest⟩ := hrel
    have AR := Lib.hid ar
    have HV := Lib.hid hv
    have HB := Lib.hid hbb
    have HO := Lib.hid hoo
    have HR := Lib.hid hrest
    obtain ⟨c0, c1, c2, c3, c4, c6⟩ := hv.cells
    have o2 := hoo.cell 2 (.int .i64 n) rfl
    have o3 := hoo.cell 3 (.int .i64 c) rfl
    have hpc0 := hv.ok.pc0
    clear ar hv hbb hoo hrest
    by_cases hst : s1.st = 1
    · have hstb : (s1.st == 1) = true := by simp [hst]
      cases y with
      | true =>
        have HST := Lib.hid hst
        clear hst
        have HE := Lib.hid (show F = (s1, n, c) from HR.out.symm.trans (if_pos rfl))
        have o4 := HO.out.cell 4 (.int .i64 0) rfl
        have of := HO.out.free
        have i0 : 0 ≤ budget - c := by omega
        have i1 : budget - c ≤ 16384 := by omega
        have V0 := HV
        have O0 := HO
        have B0 := HB
        have C0 := AR
        have x1 := O0.out.set 4 (.int .i64 (budget - c))
        have V1 := Lib.hid (V0.out.mine o hfar x1.1)
        have O1 := Lib.hid (x1.2.sett (show _ = #[.int .i64 0, .int .i64 0, .int .i64 n, .int .i64 c, .int .i64 (budget - c), (.slice none 0 0), (.slice none 0 0)] from rfl))
        have B1 := Lib.hid (B0.out.other (b2 := bo) (Ne.symm hne) 4 (.int .i64 (budget - c)))
        have C1 := Lib.hid (C0.out.setNew (p := ⟨bo, 4, none⟩) O0.out.new (.int .i64 (budget - c)))
        clear x1
        go_wp2_with fail
        obtain ⟨wt, hwt⟩ : ∃ v, v = wr.setCell ⟨bo, 4, none⟩ (.int .i64 (budget - c)) := ⟨_, rfl⟩
        rw [← hwt] at V1 O1 B1 C1 ⊢
        clear hwt
        clear o4 of
        have p0 := O1.out.cell 0 (.int .i64 0) rfl
        have p1 := O1.out.cell 1 (.int .i64 0) rfl
        have pf := O1.out.free
        have x2 := O1.out.set 0 (.int .i64 s1.st)
        have V2 := Lib.hid (V1.out.mine o hfar x2.1)
        have O2 := Lib.hid (x2.2.sett (show _ = #[.int .i64 s1.st, .int .i64 0, .int .i64 n, .int .i64 c, .int .i64 (budget - c), (.slice none 0 0), (.slice none 0 0)] from rfl))
        have B2 := Lib.hid (B1.out.other (b2 := bo) (Ne.symm hne) 0 (.int .i64 s1.st))
        have C2 := Lib.hid (C1.out.setNew (p := ⟨bo, 0, none⟩) O1.out.new (.int .i64 s1.st))
        clear x2
        have x3 := O2.out.set 1 (.int .i64 s1.ft)
        have V3 := Lib.hid (V2.out.mine o hfar x3.1)
        have O3 := Lib.hid (x3.2.sett (show _ = #[.int .i64 s1.st, .int .i64 s1.ft, .int .i64 n, .int .i64 c, .int .i64 (budget - c), (.slice none 0 0), (.slice none 0 0)] from rfl))
        have B3 := Lib.hid (B2.out.other (b2 := bo) (Ne.symm hne) 1 (.int .i64 s1.ft))
        have C3 := Lib.hid (C2.out.setNew (p := ⟨bo, 1, none⟩) O2.out.new (.int .i64 s1.ft))
        clear x3
        have d1 := V1.out.drew.cells.2.1
        have d2 := V1.out.drew.cells.2.2.1
        have Q2 := Lib.hid (And.intro V2.out.drew.cells.2.1 V2.out.drew.cells.2.2.1)
        have Q3 := Lib.hid (And.intro V3.out.drew.cells.2.1 V3.out.drew.cells.2.2.1)
        go_region_held3 (fun w' => w'.cell? ⟨P, 1, none⟩ = some (.int .i64 s1.st) ∧ w'.cell? ⟨P, 2, none⟩ = some (.int .i64 s1.ft)) (first | with_reducible exact ⟨d1, d2⟩ | with_reducible exact Q2.out | with_reducible exact Q3.out) (fail)
        clear p0 p1 pf d1 d2 Q2 Q3
        obtain ⟨w3, hw3⟩ : ∃ v, v = ((wt.setCell ⟨bo, 0, none⟩ (.int .i64 s1.st)).setCell ⟨bo, 1, none⟩ (.int .i64 s1.ft)).drew := ⟨_, rfl⟩
        have V4 := Lib.hid V3.out.drew
        have O4 := Lib.hid O3.out.drew
        have B4 := Lib.hid B3.out.drew
        have C4 := Lib.hid C3.out.drew
        rw [← hw3] at V4 O4 B4 C4 ⊢
        clear hw3
        go_wp2_with fail
        have VD := Lib.hid V4.out.drew
        have c6 := V4.out.drew.cells.2.2.2.2.2
        go_region_held3 (fun w' => w'.cell? ⟨P, 6, none⟩ = some (.pointer (some ⟨M, 0, none⟩))) (first | with_reducible exact c6 | with_reducible exact QA.out | with_reducible exact QB.out | with_reducible exact QC.out | with_reducible exact QD.out)
          (first | (go_at_call 46; refine (screen_any _ q M s1.m VD.out.ok.gd.mo _ VD.out.tr.pm).mono ?_; rintro e wa ⟨sb, Ga, rfl, aa, sg, sn, sr, sl⟩; have VA := Lib.hid (VD.out.still aa); have OA := Lib.hid (O4.out.drew.adv aa id); have BA := Lib.hid (B4.out.drew.adv aa id); have CA := Lib.hid (C4.out.drew.trans (aa.mono (T := S4 p i j q) fun _ h => h.elim)); have SA := Lib.hid (And.intro sg (And.intro sr (And.intro sl (Nat.le_trans C4.out.drew.size sn)))); have QA := Lib.hid VA.out.cells.2.2.2.2.2; clear aa sg sn sr sl) | (go_at_call 31; refine (tones_any _ q 0 M s1.m VA.out.ok.gd.mo (by omega) _ VA.out.tr.pm).mono ?_; rintro e wb ⟨ta, tc, Gb, rfl, ab, rb⟩; have V5 := Lib.hid (VA.out.still ab); have O5 := Lib.hid (OA.out.adv ab id); have B5 := Lib.hid (BA.out.adv ab id); have C5 := Lib.hid (CA.out.trans (ab.mono (T := S4 p i j q) fun _ h => h.elim)); have SB := Lib.hid (And.intro ((ab.own _ SA.out.2.2.1).trans SA.out.1) (And.intro (SA.out.2.1.adv ab (fun _ _ => id)) (And.intro (Nat.lt_of_lt_of_le SA.out.2.2.1 ab.size) SA.out.2.2.2))); have RB := Lib.hid rb; have QB := Lib.hid V5.out.cells.2.2.2.2.2; have p5 := O5.out.cell 5 (.slice none 0 0) rfl; have p6 := O5.out.cell 6 (.slice none 0 0) rfl; have pf := O5.out.free; have x6 := O5.out.set 5 (.slice (some ⟨sb, 0, none⟩) s1.m.screen.length s1.m.screen.length); have V6 := Lib.hid (V5.out.mine o hfar x6.1); have O6 := Lib.hid (x6.2.sett (show _ = #[.int .i64 s1.st, .int .i64 s1.ft, .int .i64 n, .int .i64 c, .int .i64 (budget - c), (.slice (some ⟨sb, 0, none⟩) s1.m.screen.length s1.m.screen.length), (.slice none 0 0)] from rfl)); have B6 := Lib.hid (B5.out.other (b2 := bo) (Ne.symm hne) 5 (.slice (some ⟨sb, 0, none⟩) s1.m.screen.length s1.m.screen.length)); have C6 := Lib.hid (C5.out.setNew (p := ⟨bo, 5, none⟩) O5.out.new (.slice (some ⟨sb, 0, none⟩) s1.m.screen.length s1.m.screen.length)); clear x6; have x7 := O6.out.set 6 (.slice ta s1.m.tones.length tc); have V7 := Lib.hid (V6.out.mine o hfar x7.1); have O7 := Lib.hid (x7.2.sett (show _ = #[.int .i64 s1.st, .int .i64 s1.ft, .int .i64 n, .int .i64 c, .int .i64 (budget - c), (.slice (some ⟨sb, 0, none⟩) s1.m.screen.length s1.m.screen.length), (.slice ta s1.m.tones.length tc)] from rfl)); have B7 := Lib.hid (B6.out.other (b2 := bo) (Ne.symm hne) 6 (.slice ta s1.m.tones.length tc)); have C7 := Lib.hid (C6.out.setNew (p := ⟨bo, 6, none⟩) O6.out.new (.slice ta s1.m.tones.length tc)); clear x7; have QC := Lib.hid V6.out.cells.2.2.2.2.2; have QD := Lib.hid V7.out.cells.2.2.2.2.2; clear ab rb))
        clear p5 p6 pf c6
        obtain ⟨w6, hw6⟩ : ∃ v, v = (wb.setCell ⟨bo, 5, none⟩ (.slice (some ⟨sb, 0, none⟩) s1.m.screen.length s1.m.screen.length)).setCell ⟨bo, 6, none⟩ (.slice ta s1.m.tones.length tc) := ⟨_, rfl⟩
        have SZ := Lib.hid (show (Gb sb = 0 ∧ Reads ((wb.setCell ⟨bo, 5, none⟩ (.slice (some ⟨sb, 0, none⟩) s1.m.screen.length s1.m.screen.length)).setCell ⟨bo, 6, none⟩ (.slice ta s1.m.tones.length tc)) (some ⟨sb, 0, none⟩) (u8s s1.m.screen) ∧ sb < ((wb.setCell ⟨bo, 5, none⟩ (.slice (some ⟨sb, 0, none⟩) s1.m.screen.length s1.m.screen.length)).setCell ⟨bo, 6, none⟩ (.slice ta s1.m.tones.length tc)).heap.size ∧ w.heap.size ≤ sb) from ⟨SB.out.1, SB.out.2.1.adv ((O5.out.set 5 (.slice (some ⟨sb, 0, none⟩) s1.m.screen.length s1.m.screen.length)).1.trans (O6.out.set 6 (.slice ta s1.m.tones.length tc)).1) (fun ad e => by cases e; rw [SB.out.1]; decide), Nat.lt_of_lt_of_le SB.out.2.2.1 ((O5.out.set 5 (.slice (some ⟨sb, 0, none⟩) s1.m.screen.length s1.m.screen.length)).1.trans (O6.out.set 6 (.slice ta s1.m.tones.length tc)).1).size, SB.out.2.2.2⟩)
        have RZ := Lib.hid (RB.out.adv ((O5.out.set 5 (.slice (some ⟨sb, 0, none⟩) s1.m.screen.length s1.m.screen.length)).1.trans (O6.out.set 6 (.slice ta s1.m.tones.length tc)).1) (by decide))
        rw [← hw6] at V7 O7 B7 C7 SZ RZ ⊢
        clear hw6
        have y0 := O7.out.cell 0 (.int .i64 s1.st) rfl
        have y1 := O7.out.cell 1 (.int .i64 s1.ft) rfl
        have y2 := O7.out.cell 2 (.int .i64 n) rfl
        have y3 := O7.out.cell 3 (.int .i64 c) rfl
        have y4 := O7.out.cell 4 (.int .i64 (budget - c)) rfl
        have y5 := O7.out.cell 5 (.slice (some ⟨sb, 0, none⟩) s1.m.screen.length s1.m.screen.length) rfl
        have y6 := O7.out.cell 6 (.slice ta s1.m.tones.length tc) rfl
        have z0 := B7.out.cell 0 (.int .i64 0) rfl
        have z1 := B7.out.cell 1 (.int .i64 0) rfl
        have z2 := B7.out.cell 2 (.int .i64 0) rfl
        have z3 := B7.out.cell 3 (.int .i64 0) rfl
        have z4 := B7.out.cell 4 (.int .i64 0) rfl
        have z5 := B7.out.cell 5 (.slice none 0 0) rfl
        have z6 := B7.out.cell 6 (.slice none 0 0) rfl
        have zf := B7.out.free
        go_wp2_with fail
        rw [HE.out]
        have a7 := own7 (w := w6) (G := Gb) w.heap.size B7.out.own (.int .i64 s1.st) (.int .i64 s1.ft) (.int .i64 n) (.int .i64 c) (.int .i64 (budget - c)) (.slice (some ⟨sb, 0, none⟩) s1.m.screen.length s1.m.screen.length) (.slice ta s1.m.tones.length tc)
        exact bodyPost_ret (v := .tuple #[.agg #[.int .i64 s1.st, .int .i64 s1.ft, .int .i64 n, .int .i64 c, .int .i64 (budget - c), .slice (some ⟨sb, 0, none⟩) s1.m.screen.length s1.m.screen.length, .slice ta s1.m.tones.length tc], .int .i64 0]) (by simp [results, Tryd.results36, go_sem, z0, z1, z2, z3, z4, z5, z6]) rfl
          ⟨sb, ta, tc, Gb, rfl, ((((((C7.out.setNew (p := ⟨w.heap.size, 0, none⟩) (Nat.le_refl _) _).setNew (p := ⟨w.heap.size, 1, none⟩) (Nat.le_refl _) _).setNew (p := ⟨w.heap.size, 2, none⟩) (Nat.le_refl _) _).setNew (p := ⟨w.heap.size, 3, none⟩) (Nat.le_refl _) _).setNew (p := ⟨w.heap.size, 4, none⟩) (Nat.le_refl _) _).setNew (p := ⟨w.heap.size, 5, none⟩) (Nat.le_refl _) _).setNew (p := ⟨w.heap.size, 6, none⟩) (Nat.le_refl _) _,
            V7.out.mine o hfar a7, ⟨SZ.out.1, SZ.out.2.1.adv a7 (fun ad e => by cases e; rw [SZ.out.1]; decide), Nat.lt_of_lt_of_le SZ.out.2.2.1 a7.size, SZ.out.2.2.2⟩, RZ.out.adv a7 (by decide)⟩
      | false =>
        by_cases hc : c < budget
        · have hcb : decide (c < budget) = true := by simpa using hc
          have HST := Lib.hid hst
          clear hst
          have C1M := Lib.hid (show wr.cell? ⟨P, 1, none⟩ = some (.int .i64 s1.st) from c1)
          have C3M := Lib.hid o3
          go_wp2_with fail
          refine (look_any HV.out HST.out).mono ?_
          rintro e w2 ⟨rfl, G2, a2⟩
          have H2 := Lib.hid (HV.out.still a2)
          have O2 := Lib.hid (HO.out.adv a2 id)
          have B2 := Lib.hid (HB.out.adv a2 id)
          have A2 := Lib.hid (AR.out.trans (a2.mono (T := S4 p i j q) fun _ h => h.elim))
          clear a2 c0 c1 c2 c3 c4 c6 o2 o3
          by_cases hlk : lookE code s1 = 0
          · have hk := look_op code s1 hlk
            have hcr := cost_rng code s1 hlk
            have hco : costOf code s1 = costsN (lookOp code s1) := if_pos hlk
            rw [if_pos hlk, if_pos hlk, hlk, show primW (lookOp code s1) = primV (lookOp code s1) from if_neg (by omega)]
            obtain ⟨k, hke⟩ : ∃ k, k = lookOp code s1 := ⟨_, rfl⟩
            rw [← hke] at hco ⊢
            rw [hco] at hcr
            obtain ⟨q0, q1⟩ := hcr
            have HLK := Lib.hid hlk
            have HCO := Lib.hid hco
            clear hk hke hlk hco
            unfold lookT primV
            have V3 := Lib.hid (H2.out.alloc (.cells #[.int .i64 k, .string (nameB k), .int .i64 (takesN k), .int .i64 (leavesN k), .int .i64 (costsN k), .bool (operandB k)] 25) 0)
            have O3 := Lib.hid (O2.out.adv ((Adv.refl (fun _ => False) w2 G2).alloc (.cells #[.int .i64 k, .string (nameB k), .int .i64 (takesN k), .int .i64 (leavesN k), .int .i64 (costsN k), .bool (operandB k)] 25) 0) id)
            have B3 := Lib.hid (B2.out.adv ((Adv.refl (fun _ => False) w2 G2).alloc (.cells #[.int .i64 k, .string (nameB k), .int .i64 (takesN k), .int .i64 (leavesN k), .int .i64 (costsN k), .bool (operandB k)] 25) 0) id)
            have A3 := Lib.hid (A2.out.alloc (.cells #[.int .i64 k, .string (nameB k), .int .i64 (takesN k), .int .i64 (leavesN k), .int .i64 (costsN k), .bool (operandB k)] 25) 0)
            have P3 := Lib.hid (heap_alloc_new w2 (.cells #[.int .i64 k, .string (nameB k), .int .i64 (takesN k), .int .i64 (leavesN k), .int .i64 (costsN k), .bool (operandB k)] 25))
            have hb2 : bo < w2.heap.size := (Array.getElem?_eq_some_iff.1 O2.out.blk).1
            have hP2 := H2.out.lt
            have e3 := O2.out.cell 3 (.int .i64 c) rfl
            obtain ⟨c0, c1, c2, c3, c4, c6⟩ := H2.out.cells
            by_cases hbk : budget < c + costsN k
            · have hov : decide (budget < c + costsN k) = true := by simpa using hbk
              have HBK := Lib.hid hbk
              have HE := Lib.hid (show F = (s1, n, c) from HR.out.symm.trans ((if_neg (by decide)).trans (go_break code budget f s1 n c (by omega) ⟨HST.out, hc⟩ ⟨HLK.out, by rw [HCO.out]; exact HBK.out⟩)))
              have o4 := O2.out.cell 4 (.int .i64 0) rfl
              have of := O2.out.free
              have i0 : 0 ≤ budget - c := by omega
              have i1 : budget - c ≤ 16384 := by omega
              have V0 := H2
              have O0 := O2
              have B0 := B2
              have C0 := A2
              have x1 := O0.out.set 4 (.int .i64 (budget - c))
              have V1 := Lib.hid (V0.out.mine o hfar x1.1)
              have O1 := Lib.hid (x1.2.sett (show _ = #[.int .i64 0, .int .i64 0, .int .i64 n, .int .i64 c, .int .i64 (budget - c), (.slice none 0 0), (.slice none 0 0)] from rfl))
              have B1 := Lib.hid (B0.out.other (b2 := bo) (Ne.symm hne) 4 (.int .i64 (budget - c)))
              have C1 := Lib.hid (C0.out.setNew (p := ⟨bo, 4, none⟩) O0.out.new (.int .i64 (budget - c)))
              clear x1
              replace O1 := Lib.hid (O1.out.adv ((Adv.refl (fun _ => False) _ _).alloc (.cells #[.int .i64 k, .string (nameB k), .int .i64 (takesN k), .int .i64 (leavesN k), .int .i64 (costsN k), .bool (operandB k)] 25) 0) id)
              replace B1 := Lib.hid (B1.out.adv ((Adv.refl (fun _ => False) _ _).alloc (.cells #[.int .i64 k, .string (nameB k), .int .i64 (takesN k), .int .i64 (leavesN k), .int .i64 (costsN k), .bool (operandB k)] 25) 0) id)
              replace C1 := Lib.hid (C1.out.alloc (.cells #[.int .i64 k, .string (nameB k), .int .i64 (takesN k), .int .i64 (leavesN k), .int .i64 (costsN k), .bool (operandB k)] 25) 0)
              replace V1 := Lib.hid (V1.out.alloc (.cells #[.int .i64 k, .string (nameB k), .int .i64 (takesN k), .int .i64 (leavesN k), .int .i64 (costsN k), .bool (operandB k)] 25) 0)
              go_wp2_with fail
              obtain ⟨wt, hwt⟩ : ∃ v, v = (w2.setCell ⟨bo, 4, none⟩ (.int .i64 (budget - c))).alloc (.cells #[.int .i64 k, .string (nameB k), .int .i64 (takesN k), .int .i64 (leavesN k), .int .i64 (costsN k), .bool (operandB k)] 25) := ⟨_, rfl⟩
              rw [← hwt] at V1 O1 B1 C1 ⊢
              clear hwt
              clear o4 of
              have p0 := O1.out.cell 0 (.int .i64 0) rfl
              have p1 := O1.out.cell 1 (.int .i64 0) rfl
              have pf := O1.out.free
              have x2 := O1.out.set 0 (.int .i64 s1.st)
              have V2 := Lib.hid (V1.out.mine o hfar x2.1)
              have O2 := Lib.hid (x2.2.sett (show _ = #[.int .i64 s1.st, .int .i64 0, .int .i64 n, .int .i64 c, .int .i64 (budget - c), (.slice none 0 0), (.slice none 0 0)] from rfl))
              have B2 := Lib.hid (B1.out.other (b2 := bo) (Ne.symm hne) 0 (.int .i64 s1.st))
              have C2 := Lib.hid (C1.out.setNew (p := ⟨bo, 0, none⟩) O1.out.new (.int .i64 s1.st))
              clear x2
              have x3 := O2.out.set 1 (.int .i64 s1.ft)
              have V3 := Lib.hid (V2.out.mine o hfar x3.1)
              have O3 := Lib.hid (x3.2.sett (show _ = #[.int .i64 s1.st, .int .i64 s1.ft, .int .i64 n, .int .i64 c, .int .i64 (budget - c), (.slice none 0 0), (.slice none 0 0)] from rfl))
              have B3 := Lib.hid (B2.out.other (b2 := bo) (Ne.symm hne) 1 (.int .i64 s1.ft))
              have C3 := Lib.hid (C2.out.setNew (p := ⟨bo, 1, none⟩) O2.out.new (.int .i64 s1.ft))
              clear x3
              have d1 := V1.out.drew.cells.2.1
              have d2 := V1.out.drew.cells.2.2.1
              have Q2 := Lib.hid (And.intro V2.out.drew.cells.2.1 V2.out.drew.cells.2.2.1)
              have Q3 := Lib.hid (And.intro V3.out.drew.cells.2.1 V3.out.drew.cells.2.2.1)
              go_region_held3 (fun w' => w'.cell? ⟨P, 1, none⟩ = some (.int .i64 s1.st) ∧ w'.cell? ⟨P, 2, none⟩ = some (.int .i64 s1.ft)) (first | with_reducible exact ⟨d1, d2⟩ | with_reducible exact Q2.out | with_reducible exact Q3.out) (fail)
              clear p0 p1 pf d1 d2 Q2 Q3
              obtain ⟨w3, hw3⟩ : ∃ v, v = ((wt.setCell ⟨bo, 0, none⟩ (.int .i64 s1.st)).setCell ⟨bo, 1, none⟩ (.int .i64 s1.ft)).drew := ⟨_, rfl⟩
              have V4 := Lib.hid V3.out.drew
              have O4 := Lib.hid O3.out.drew
              have B4 := Lib.hid B3.out.drew
              have C4 := Lib.hid C3.out.drew
              rw [← hw3] at V4 O4 B4 C4 ⊢
              clear hw3
              go_wp2_with fail
              have VD := Lib.hid V4.out.drew
              have c6 := V4.out.drew.cells.2.2.2.2.2
              go_region_held3 (fun w' => w'.cell? ⟨P, 6, none⟩ = some (.pointer (some ⟨M, 0, none⟩))) (first | with_reducible exact c6 | with_reducible exact QA.out | with_reducible exact QB.out | with_reducible exact QC.out | with_reducible exact QD.out)
                (first | (go_at_call 46; refine (screen_any _ q M s1.m VD.out.ok.gd.mo _ VD.out.tr.pm).mono ?_; rintro e wa ⟨sb, Ga, rfl, aa, sg, sn, sr, sl⟩; have VA := Lib.hid (VD.out.still aa); have OA := Lib.hid (O4.out.drew.adv aa id); have BA := Lib.hid (B4.out.drew.adv aa id); have CA := Lib.hid (C4.out.drew.trans (aa.mono (T := S4 p i j q) fun _ h => h.elim)); have SA := Lib.hid (And.intro sg (And.intro sr (And.intro sl (Nat.le_trans C4.out.drew.size sn)))); have QA := Lib.hid VA.out.cells.2.2.2.2.2; clear aa sg sn sr sl) | (go_at_call 31; refine (tones_any _ q 0 M s1.m VA.out.ok.gd.mo (by omega) _ VA.out.tr.pm).mono ?_; rintro e wb ⟨ta, tc, Gb, rfl, ab, rb⟩; have V5 := Lib.hid (VA.out.still ab); have O5 := Lib.hid (OA.out.adv ab id); have B5 := Lib.hid (BA.out.adv ab id); have C5 := Lib.hid (CA.out.trans (ab.mono (T := S4 p i j q) fun _ h => h.elim)); have SB := Lib.hid (And.intro ((ab.own _ SA.out.2.2.1).trans SA.out.1) (And.intro (SA.out.2.1.adv ab (fun _ _ => id)) (And.intro (Nat.lt_of_lt_of_le SA.out.2.2.1 ab.size) SA.out.2.2.2))); have RB := Lib.hid rb; have QB := Lib.hid V5.out.cells.2.2.2.2.2; have p5 := O5.out.cell 5 (.slice none 0 0) rfl; have p6 := O5.out.cell 6 (.slice none 0 0) rfl; have pf := O5.out.free; have x6 := O5.out.set 5 (.slice (some ⟨sb, 0, none⟩) s1.m.screen.length s1.m.screen.length); have V6 := Lib.hid (V5.out.mine o hfar x6.1); have O6 := Lib.hid (x6.2.sett (show _ = #[.int .i64 s1.st, .int .i64 s1.ft, .int .i64 n, .int .i64 c, .int .i64 (budget - c), (.slice (some ⟨sb, 0, none⟩) s1.m.screen.length s1.m.screen.length), (.slice none 0 0)] from rfl)); have B6 := Lib.hid (B5.out.other (b2 := bo) (Ne.symm hne) 5 (.slice (some ⟨sb, 0, none⟩) s1.m.screen.length s1.m.screen.length)); have C6 := Lib.hid (C5.out.setNew (p := ⟨bo, 5, none⟩) O5.out.new (.slice (some ⟨sb, 0, none⟩) s1.m.screen.length s1.m.screen.length)); clear x6; have x7 := O6.out.set 6 (.slice ta s1.m.tones.length tc); have V7 := Lib.hid (V6.out.mine o hfar x7.1); have O7 := Lib.hid (x7.2.sett (show _ = #[.int .i64 s1.st, .int .i64 s1.ft, .int .i64 n, .int .i64 c, .int .i64 (budget - c), (.slice (some ⟨sb, 0, none⟩) s1.m.screen.length s1.m.screen.length), (.slice ta s1.m.tones.length tc)] from rfl)); have B7 := Lib.hid (B6.out.other (b2 := bo) (Ne.symm hne) 6 (.slice ta s1.m.tones.length tc)); have C7 := Lib.hid (C6.out.setNew (p := ⟨bo, 6, none⟩) O6.out.new (.slice ta s1.m.tones.length tc)); clear x7; have QC := Lib.hid V6.out.cells.2.2.2.2.2; have QD := Lib.hid V7.out.cells.2.2.2.2.2; clear ab rb))
              clear p5 p6 pf c6
              obtain ⟨w6, hw6⟩ : ∃ v, v = (wb.setCell ⟨bo, 5, none⟩ (.slice (some ⟨sb, 0, none⟩) s1.m.screen.length s1.m.screen.length)).setCell ⟨bo, 6, none⟩ (.slice ta s1.m.tones.length tc) := ⟨_, rfl⟩
              have SZ := Lib.hid (show (Gb sb = 0 ∧ Reads ((wb.setCell ⟨bo, 5, none⟩ (.slice (some ⟨sb, 0, none⟩) s1.m.screen.length s1.m.screen.length)).setCell ⟨bo, 6, none⟩ (.slice ta s1.m.tones.length tc)) (some ⟨sb, 0, none⟩) (u8s s1.m.screen) ∧ sb < ((wb.setCell ⟨bo, 5, none⟩ (.slice (some ⟨sb, 0, none⟩) s1.m.screen.length s1.m.screen.length)).setCell ⟨bo, 6, none⟩ (.slice ta s1.m.tones.length tc)).heap.size ∧ w.heap.size ≤ sb) from ⟨SB.out.1, SB.out.2.1.adv ((O5.out.set 5 (.slice (some ⟨sb, 0, none⟩) s1.m.screen.length s1.m.screen.length)).1.trans (O6.out.set 6 (.slice ta s1.m.tones.length tc)).1) (fun ad e => by cases e; rw [SB.out.1]; decide), Nat.lt_of_lt_of_le SB.out.2.2.1 ((O5.out.set 5 (.slice (some ⟨sb, 0, none⟩) s1.m.screen.length s1.m.screen.length)).1.trans (O6.out.set 6 (.slice ta s1.m.tones.length tc)).1).size, SB.out.2.2.2⟩)
              have RZ := Lib.hid (RB.out.adv ((O5.out.set 5 (.slice (some ⟨sb, 0, none⟩) s1.m.screen.length s1.m.screen.length)).1.trans (O6.out.set 6 (.slice ta s1.m.tones.length tc)).1) (by decide))
              rw [← hw6] at V7 O7 B7 C7 SZ RZ ⊢
              clear hw6
              have y0 := O7.out.cell 0 (.int .i64 s1.st) rfl
              have y1 := O7.out.cell 1 (.int .i64 s1.ft) rfl
              have y2 := O7.out.cell 2 (.int .i64 n) rfl
              have y3 := O7.out.cell 3 (.int .i64 c) rfl
              have y4 := O7.out.cell 4 (.int .i64 (budget - c)) rfl
              have y5 := O7.out.cell 5 (.slice (some ⟨sb, 0, none⟩) s1.m.screen.length s1.m.screen.length) rfl
              have y6 := O7.out.cell 6 (.slice ta s1.m.tones.length tc) rfl
              have z0 := B7.out.cell 0 (.int .i64 0) rfl
              have z1 := B7.out.cell 1 (.int .i64 0) rfl
              have z2 := B7.out.cell 2 (.int .i64 0) rfl
              have z3 := B7.out.cell 3 (.int .i64 0) rfl
              have z4 := B7.out.cell 4 (.int .i64 0) rfl
              have z5 := B7.out.cell 5 (.slice none 0 0) rfl
              have z6 := B7.out.cell 6 (.slice none 0 0) rfl
              have zf := B7.out.free
              go_wp2_with fail
              rw [HE.out]
              have a7 := own7 (w := w6) (G := Gb) w.heap.size B7.out.own (.int .i64 s1.st) (.int .i64 s1.ft) (.int .i64 n) (.int .i64 c) (.int .i64 (budget - c)) (.slice (some ⟨sb, 0, none⟩) s1.m.screen.length s1.m.screen.length) (.slice ta s1.m.tones.length tc)
              exact bodyPost_ret (v := .tuple #[.agg #[.int .i64 s1.st, .int .i64 s1.ft, .int .i64 n, .int .i64 c, .int .i64 (budget - c), .slice (some ⟨sb, 0, none⟩) s1.m.screen.length s1.m.screen.length, .slice ta s1.m.tones.length tc], .int .i64 0]) (by simp [results, Tryd.results36, go_sem, z0, z1, z2, z3, z4, z5, z6]) rfl
                ⟨sb, ta, tc, Gb, rfl, ((((((C7.out.setNew (p := ⟨w.heap.size, 0, none⟩) (Nat.le_refl _) _).setNew (p := ⟨w.heap.size, 1, none⟩) (Nat.le_refl _) _).setNew (p := ⟨w.heap.size, 2, none⟩) (Nat.le_refl _) _).setNew (p := ⟨w.heap.size, 3, none⟩) (Nat.le_refl _) _).setNew (p := ⟨w.heap.size, 4, none⟩) (Nat.le_refl _) _).setNew (p := ⟨w.heap.size, 5, none⟩) (Nat.le_refl _) _).setNew (p := ⟨w.heap.size, 6, none⟩) (Nat.le_refl _) _,
                  V7.out.mine o hfar a7, ⟨SZ.out.1, SZ.out.2.1.adv a7 (fun ad e => by cases e; rw [SZ.out.1]; decide), Nat.lt_of_lt_of_le SZ.out.2.2.1 a7.size, SZ.out.2.2.2⟩, RZ.out.adv a7 (by decide)⟩
            · have hov : decide (budget < c + costsN k) = false := by simpa using hbk
              have HNB := Lib.hid (show ¬ (lookE code s1 = 0 ∧ budget < c + costOf code s1) from fun h => hbk (by have := h.2; rw [HCO.out] at this; exact this))
              have V3d := Lib.hid V3.out.drew
              have d6 := V3.out.drew.cells.2.2.2.2.2
              have d3 := O3.out.drew.cell 3 (.int .i64 c) rfl
              go_upto_region 11 with fail
              clear c0 c1 c2 c3 c4 c6 e3
              go_region_held3 (fun w' => w'.cell? ⟨P, 6, none⟩ = some (.pointer (some ⟨M, 0, none⟩)) ∧ w'.cell? ⟨bo, 3, none⟩ = some (.int .i64 c)) (first | with_reducible exact ⟨d6, d3⟩ | with_reducible exact Q4.out)
                ((go_at_call 44; refine (memAt_any _ q M s1.m V3d.out.ok.gd.mo c _ V3d.out.tr.pm).mono ?_; rintro e w4 ⟨rfl, G4, a4, p4⟩; have hb4 := VM.memCall o V3d.out a4 p4 (atF_ok V3d.out.ok.gd.mo c) (atF_rng V3d.out.ok.gd.mr c); have V4 := Lib.hid hb4.2; have A4 := Lib.hid (A3.out.drew.trans hb4.1); have O4 := Lib.hid (O3.out.drew.adv hb4.1 hfar); have B4 := Lib.hid (B3.out.drew.adv hb4.1 hfar); have P4 := Lib.hid (And.intro ((hb4.1.keep w2.heap.size (Array.getElem?_eq_some_iff.1 P3.out).1 (by show ¬ S4 p i j q (own1 w2 G2 0 w2.heap.size); rw [own1_new]; exact o.zero)).trans P3.out) ((hb4.1.own w2.heap.size (Array.getElem?_eq_some_iff.1 P3.out).1).trans (own1_new w2 G2 0))); have Q4 := Lib.hid (And.intro V4.out.cells.2.2.2.2.2 (O4.out.cell 3 (.int .i64 c) rfl)); clear a4 p4 hb4))
              clear d6 d3 hP2
              obtain ⟨s2, hs2⟩ : ∃ z : VmS, z = { s1 with m := atF s1.m c } := ⟨_, rfl⟩
              have V4s := Lib.hid (show VM w4 G4 p i j q P D R M code s2 from hs2 ▸ V4.out)
              have H2S := Lib.hid hs2
              have hst2 : s2.st = 1 := by rw [hs2]; exact HST.out
              have htn2 : s2.m.tones.length ≤ 99999 := by rw [hs2]; show s1.m.tones.length ≤ 99999; omega
              have htn3 : (s2.m.tones.length : Int) ≤ 3 * c := by rw [hs2]; exact tn
              have hok2 := step_ok code s2 V4s.out.ok
              have hk2 := look_at code s1 (atF s1.m c)
              rw [← hs2] at hk2
              have HST2 := Lib.hid hst2
              clear hs2 hst2
              go_wp2_with fail
              refine (step_any o HST2.out htn2 V4s.out).mono ?_
              rintro e w5 ⟨rfl, G5, a5, h5⟩
              have V5 := Lib.hid h5
              have A5 := Lib.hid (A4.out.trans a5)
              have O5 := Lib.hid (O4.out.adv a5 hfar)
              have B5 := Lib.hid (B4.out.adv a5 hfar)
              have P5 := Lib.hid ((a5.keep w2.heap.size (Array.getElem?_eq_some_iff.1 P4.out.1).1 (by rw [P4.out.2]; exact o.zero)).trans P4.out.1)
              clear a5 h5
              by_cases hse : stepE code s2 = 0
              · have hs3 := step_st_ok code s2 HST2.out hse
                have hgo : ∃ f', f = f' + 1 ∧ frameGo code budget f s1 n c = frameRest code budget f' (stepY code s2) (stepS code s2) (n + 1) (c + costsN k) := by
                  obtain ⟨f', rfl⟩ : ∃ g, f = g + 1 := ⟨f - 1, by omega⟩
                  refine ⟨f', rfl, ?_⟩
                  rw [← HCO.out, H2S.out]
                  exact go_step code budget f' s1 n c ⟨HST.out, hc⟩ HNB.out (H2S.out ▸ hse)
                obtain ⟨f', hf', hgo⟩ := hgo
                obtain ⟨s3, hs3e⟩ : ∃ z : VmS, z = stepS code s2 := ⟨_, rfl⟩
                obtain ⟨y3, hy3⟩ : ∃ z : Bool, z = stepY code s2 := ⟨_, rfl⟩
                rw [← hs3e] at hs3 hok2
                rw [← hs3e, ← hy3] at hgo
                rw [← hy3]
                have V6 := Lib.hid (show VM w5 G5 p i j q P D R M code s3 from hs3e ▸ V5.out)
                have HGO := Lib.hid (And.intro hf' hgo)
                have htn4 := hok2.2
                have d1 := V6.out.cells.2.1
                have hne3 : (s3.st != 3) = true := by simp; omega
                have HS3 := Lib.hid hs3
                have m2 := O5.out.cell 2 (.int .i64 n) rfl
                have m3 := O5.out.cell 3 (.int .i64 c) rfl
                have mf := O5.out.free
                have q4 := block_cell P5.out 4 (.int .i64 (costsN k)) rfl
                have hbp : w2.heap.size ≠ bo := by omega
                have x6 := O5.out.set 2 (.int .i64 (n + 1))
                have V7 := Lib.hid (V6.out.mine o hfar x6.1)
                have O6 := Lib.hid (x6.2.sett (show _ = #[.int .i64 0, .int .i64 0, .int .i64 (n + 1), .int .i64 c, .int .i64 0, (.slice none 0 0), (.slice none 0 0)] from rfl))
                have B6 := Lib.hid (B5.out.other (b2 := bo) (Ne.symm hne) 2 (.int .i64 (n + 1)))
                have A6 := Lib.hid (A5.out.setNew (p := ⟨bo, 2, none⟩) O5.out.new (.int .i64 (n + 1)))
                have x7 := O6.out.set 3 (.int .i64 (c + costsN k))
                have V8 := Lib.hid (V7.out.mine o hfar x7.1)
                have O7 := Lib.hid (x7.2.sett (show _ = #[.int .i64 0, .int .i64 0, .int .i64 (n + 1), .int .i64 (c + costsN k), .int .i64 0, (.slice none 0 0), (.slice none 0 0)] from rfl))
                have B7 := Lib.hid (B6.out.other (b2 := bo) (Ne.symm hne) 3 (.int .i64 (c + costsN k)))
                have A7 := Lib.hid (A6.out.setNew (p := ⟨bo, 3, none⟩) O6.out.new (.int .i64 (c + costsN k)))
                have d8 := V8.out.cells.2.1
                have e8 := O7.out.cell 3 (.int .i64 (c + costsN k)) rfl
                have M8 := Lib.hid (And.intro d8 e8)
                clear x6 x7 hs3e hy3 hs3 hf' hgo hok2 hse d8 e8
                go_wp2
                go_roundw
                case rel =>
                  obtain ⟨hf', hgo⟩ := HGO.out
                  exact ⟨y3, s3, n + 1, c + costsN k, G5, f', rfl, A7.out, V8.out, B7.out, O7.out, by omega, by omega, by omega, by omega, by omega, by omega, by rw [← HR.out]; exact hgo.symm⟩
                case measure =>
                  simp only [M8.out.1, M8.out.2, C1M.out, C3M.out, HST.out, Option.getD_some, intOf]
                  rw [if_pos trivial]
                  split <;> omega
              · have hy : stepY code s2 = false := by
                  unfold stepY
                  have : (stepE code s2 == 0) = false := by simpa using hse
                  rw [this]; rfl
                have hs3 : (stepS code s2).st = 3 := by rw [step_st code s2 hse]
                have hgo : frameGo code budget f s1 n c = (stepS code s2, n, c) := by
                  rw [H2S.out]
                  exact go_fault code budget f s1 n c (by omega) ⟨HST.out, hc⟩ HNB.out (H2S.out ▸ hse)
                rw [hy]
                obtain ⟨s3, hs3e⟩ : ∃ z : VmS, z = stepS code s2 := ⟨_, rfl⟩
                rw [← hs3e] at hs3 hgo hok2
                have V6 := Lib.hid (show VM w5 G5 p i j q P D R M code s3 from hs3e ▸ V5.out)
                have HGO := Lib.hid hgo
                have HS3 := Lib.hid hs3
                have tn3 : s3.m.tones.length ≤ s2.m.tones.length := by rw [hs3e, step_st code s2 hse]; exact Nat.le_refl _
                have d1 : w5.cell? ⟨P, 1, none⟩ = some (.int .i64 3) := by rw [V6.out.cells.2.1, HS3.out]
                have m3 := O5.out.cell 3 (.int .i64 c) rfl
                clear hs3e hs3 hgo hy hse
                go_wp2
                go_roundw
                case rel =>
                  exact ⟨false, s3, n, c, G5, f, rfl, A5.out, V6.out, B5.out, O5.out, n0, cl0, cl1, nc, by omega, fl, by rw [← HR.out]; show frameGo code budget f s3 n c = frameGo code budget f s1 n c; rw [HGO.out]; exact go_stop _ _ _ _ _ _ (fun h => by rw [HS3.out] at h; exact absurd h.1 (by decide))⟩
                case measure =>
                  simp only [d1, m3, C1M.out, C3M.out, HST.out, Option.getD_some, intOf]
                  rw [if_neg (by decide), if_pos trivial]
                  omega
          · rw [if_neg hlk, if_neg hlk, show primW 0 = primV0 from rfl]
            have hlb : (lookE code s1 == 0) = false := by simpa using hlk
            obtain ⟨L, hL⟩ : ∃ L, L = lookE code s1 := ⟨_, rfl⟩
            have HLN := Lib.hid hlk
            have HLE := Lib.hid hL
            rw [← hL] at hlb ⊢
            clear hL hlk
            unfold lookT primV0
            have V3 := Lib.hid (H2.out.alloc (.cells #[.int .i64 0, .string ⟨#[]⟩, .int .i64 0, .int .i64 0, .int .i64 0, .bool false] 25) 0)
            have O3 := Lib.hid (O2.out.adv ((Adv.refl (fun _ => False) w2 G2).alloc (.cells #[.int .i64 0, .string ⟨#[]⟩, .int .i64 0, .int .i64 0, .int .i64 0, .bool false] 25) 0) id)
            have B3 := Lib.hid (B2.out.adv ((Adv.refl (fun _ => False) w2 G2).alloc (.cells #[.int .i64 0, .string ⟨#[]⟩, .int .i64 0, .int .i64 0, .int .i64 0, .bool false] 25) 0) id)
            have A3 := Lib.hid (A2.out.alloc (.cells #[.int .i64 0, .string ⟨#[]⟩, .int .i64 0, .int .i64 0, .int .i64 0, .bool false] 25) 0)
            have P3 := Lib.hid (heap_alloc_new w2 (.cells #[.int .i64 0, .string ⟨#[]⟩, .int .i64 0, .int .i64 0, .int .i64 0, .bool false] 25))
            have hb2 : bo < w2.heap.size := (Array.getElem?_eq_some_iff.1 O2.out.blk).1
            have hP2 := H2.out.lt
            have e3 := O2.out.cell 3 (.int .i64 c) rfl
            obtain ⟨c0, c1, c2, c3, c4, c6⟩ := H2.out.cells
            have V3d := Lib.hid V3.out.drew
            have d6 := V3.out.drew.cells.2.2.2.2.2
            have d3 := O3.out.drew.cell 3 (.int .i64 c) rfl
            go_upto_region 11 with fail
            clear c0 c1 c2 c3 c4 c6 e3
            go_region_held3 (fun w' => w'.cell? ⟨P, 6, none⟩ = some (.pointer (some ⟨M, 0, none⟩)) ∧ w'.cell? ⟨bo, 3, none⟩ = some (.int .i64 c)) (first | with_reducible exact ⟨d6, d3⟩ | with_reducible exact Q4.out)
              ((go_at_call 44; refine (memAt_any _ q M s1.m V3d.out.ok.gd.mo c _ V3d.out.tr.pm).mono ?_; rintro e w4 ⟨rfl, G4, a4, p4⟩; have hb4 := VM.memCall o V3d.out a4 p4 (atF_ok V3d.out.ok.gd.mo c) (atF_rng V3d.out.ok.gd.mr c); have V4 := Lib.hid hb4.2; have A4 := Lib.hid (A3.out.drew.trans hb4.1); have O4 := Lib.hid (O3.out.drew.adv hb4.1 hfar); have B4 := Lib.hid (B3.out.drew.adv hb4.1 hfar); have P4 := Lib.hid (And.intro ((hb4.1.keep w2.heap.size (Array.getElem?_eq_some_iff.1 P3.out).1 (by show ¬ S4 p i j q (own1 w2 G2 0 w2.heap.size); rw [own1_new]; exact o.zero)).trans P3.out) ((hb4.1.own w2.heap.size (Array.getElem?_eq_some_iff.1 P3.out).1).trans (own1_new w2 G2 0))); have Q4 := Lib.hid (And.intro V4.out.cells.2.2.2.2.2 (O4.out.cell 3 (.int .i64 c) rfl)); clear a4 p4 hb4))
            clear d6 d3 hP2
            obtain ⟨s2, hs2⟩ : ∃ z : VmS, z = { s1 with m := atF s1.m c } := ⟨_, rfl⟩
            have V4s := Lib.hid (show VM w4 G4 p i j q P D R M code s2 from hs2 ▸ V4.out)
            have H2S := Lib.hid hs2
            have hst2 : s2.st = 1 := by rw [hs2]; exact HST.out
            have htn2 : s2.m.tones.length ≤ 99999 := by rw [hs2]; show s1.m.tones.length ≤ 99999; omega
            have htn3 : (s2.m.tones.length : Int) ≤ 3 * c := by rw [hs2]; exact tn
            have hok2 := step_ok code s2 V4s.out.ok
            have hk2 := look_at code s1 (atF s1.m c)
            rw [← hs2] at hk2
            have HST2 := Lib.hid hst2
            clear hs2 hst2
            go_wp2_with fail
            refine (step_any o HST2.out htn2 V4s.out).mono ?_
            rintro e w5 ⟨rfl, G5, a5, h5⟩
            have V5 := Lib.hid h5
            have A5 := Lib.hid (A4.out.trans a5)
            have O5 := Lib.hid (O4.out.adv a5 hfar)
            have B5 := Lib.hid (B4.out.adv a5 hfar)
            have P5 := Lib.hid ((a5.keep w2.heap.size (Array.getElem?_eq_some_iff.1 P4.out.1).1 (by rw [P4.out.2]; exact o.zero)).trans P4.out.1)
            clear a5 h5
            have hse : stepE code s2 ≠ 0 := by
              unfold stepE
              rw [hk2.1, if_pos HLN.out]; exact HLN.out
            have hy : stepY code s2 = false := by
              unfold stepY
              have : (stepE code s2 == 0) = false := by simpa using hse
              rw [this]; rfl
            have hs3 : (stepS code s2).st = 3 := by rw [step_st code s2 hse]
            have hgo : frameGo code budget f s1 n c = (stepS code s2, n, c) := by
              rw [H2S.out]
              exact go_fault code budget f s1 n c (by omega) ⟨HST.out, hc⟩ (fun h => HLN.out h.1) (H2S.out ▸ hse)
            rw [hy]
            obtain ⟨s3, hs3e⟩ : ∃ z : VmS, z = stepS code s2 := ⟨_, rfl⟩
            rw [← hs3e] at hs3 hgo hok2
            have V6 := Lib.hid (show VM w5 G5 p i j q P D R M code s3 from hs3e ▸ V5.out)
            have HGO := Lib.hid hgo
            have HS3 := Lib.hid hs3
            have tn3 : s3.m.tones.length ≤ s2.m.tones.length := by rw [hs3e, step_st code s2 hse]; exact Nat.le_refl _
            have d1 : w5.cell? ⟨P, 1, none⟩ = some (.int .i64 3) := by rw [V6.out.cells.2.1, HS3.out]
            have m3 := O5.out.cell 3 (.int .i64 c) rfl
            clear hs3e hs3 hgo hy hse
            go_wp2
            go_roundw
            case rel =>
              exact ⟨false, s3, n, c, G5, f, rfl, A5.out, V6.out, B5.out, O5.out, n0, cl0, cl1, nc, by omega, fl, by rw [← HR.out]; show frameGo code budget f s3 n c = frameGo code budget f s1 n c; rw [HGO.out]; exact go_stop _ _ _ _ _ _ (fun h => by rw [HS3.out] at h; exact absurd h.1 (by decide))⟩
            case measure =>
              simp only [d1, m3, C1M.out, C3M.out, HST.out, Option.getD_some, intOf]
              rw [if_neg (by decide), if_pos trivial]
              omega
        · have hcb : decide (c < budget) = false := by simpa using hc
          have HST := Lib.hid hst
          clear hst
          have HE := Lib.hid (show F = (s1, n, c) from HR.out.symm.trans ((if_neg (by decide)).trans (go_stop _ _ _ _ _ _ (fun h => hc h.2))))
          have o4 := HO.out.cell 4 (.int .i64 0) rfl
          have of := HO.out.free
          have i0 : 0 ≤ budget - c := by omega
          have i1 : budget - c ≤ 16384 := by omega
          have V0 := HV
          have O0 := HO
          have B0 := HB
          have C0 := AR
          have x1 := O0.out.set 4 (.int .i64 (budget - c))
          have V1 := Lib.hid (V0.out.mine o hfar x1.1)
          have O1 := Lib.hid (x1.2.sett (show _ = #[.int .i64 0, .int .i64 0, .int .i64 n, .int .i64 c, .int .i64 (budget - c), (.slice none 0 0), (.slice none 0 0)] from rfl))
          have B1 := Lib.hid (B0.out.other (b2 := bo) (Ne.symm hne) 4 (.int .i64 (budget - c)))
          have C1 := Lib.hid (C0.out.setNew (p := ⟨bo, 4, none⟩) O0.out.new (.int .i64 (budget - c)))
          clear x1
          go_wp2_with fail
          obtain ⟨wt, hwt⟩ : ∃ v, v = wr.setCell ⟨bo, 4, none⟩ (.int .i64 (budget - c)) := ⟨_, rfl⟩
          rw [← hwt] at V1 O1 B1 C1 ⊢
          clear hwt
          clear o4 of
          have p0 := O1.out.cell 0 (.int .i64 0) rfl
          have p1 := O1.out.cell 1 (.int .i64 0) rfl
          have pf := O1.out.free
          have x2 := O1.out.set 0 (.int .i64 s1.st)
          have V2 := Lib.hid (V1.out.mine o hfar x2.1)
          have O2 := Lib.hid (x2.2.sett (show _ = #[.int .i64 s1.st, .int .i64 0, .int .i64 n, .int .i64 c, .int .i64 (budget - c), (.slice none 0 0), (.slice none 0 0)] from rfl))
          have B2 := Lib.hid (B1.out.other (b2 := bo) (Ne.symm hne) 0 (.int .i64 s1.st))
          have C2 := Lib.hid (C1.out.setNew (p := ⟨bo, 0, none⟩) O1.out.new (.int .i64 s1.st))
          clear x2
          have x3 := O2.out.set 1 (.int .i64 s1.ft)
          have V3 := Lib.hid (V2.out.mine o hfar x3.1)
          have O3 := Lib.hid (x3.2.sett (show _ = #[.int .i64 s1.st, .int .i64 s1.ft, .int .i64 n, .int .i64 c, .int .i64 (budget - c), (.slice none 0 0), (.slice none 0 0)] from rfl))
          have B3 := Lib.hid (B2.out.other (b2 := bo) (Ne.symm hne) 1 (.int .i64 s1.ft))
          have C3 := Lib.hid (C2.out.setNew (p := ⟨bo, 1, none⟩) O2.out.new (.int .i64 s1.ft))
          clear x3
          have d1 := V1.out.drew.cells.2.1
          have d2 := V1.out.drew.cells.2.2.1
          have Q2 := Lib.hid (And.intro V2.out.drew.cells.2.1 V2.out.drew.cells.2.2.1)
          have Q3 := Lib.hid (And.intro V3.out.drew.cells.2.1 V3.out.drew.cells.2.2.1)
          go_region_held3 (fun w' => w'.cell? ⟨P, 1, none⟩ = some (.int .i64 s1.st) ∧ w'.cell? ⟨P, 2, none⟩ = some (.int .i64 s1.ft)) (first | with_reducible exact ⟨d1, d2⟩ | with_reducible exact Q2.out | with_reducible exact Q3.out) (fail)
          clear p0 p1 pf d1 d2 Q2 Q3
          obtain ⟨w3, hw3⟩ : ∃ v, v = ((wt.setCell ⟨bo, 0, none⟩ (.int .i64 s1.st)).setCell ⟨bo, 1, none⟩ (.int .i64 s1.ft)).drew := ⟨_, rfl⟩
          have V4 := Lib.hid V3.out.drew
          have O4 := Lib.hid O3.out.drew
          have B4 := Lib.hid B3.out.drew
          have C4 := Lib.hid C3.out.drew
          rw [← hw3] at V4 O4 B4 C4 ⊢
          clear hw3
          go_wp2_with fail
          have VD := Lib.hid V4.out.drew
          have c6 := V4.out.drew.cells.2.2.2.2.2
          go_region_held3 (fun w' => w'.cell? ⟨P, 6, none⟩ = some (.pointer (some ⟨M, 0, none⟩))) (first | with_reducible exact c6 | with_reducible exact QA.out | with_reducible exact QB.out | with_reducible exact QC.out | with_reducible exact QD.out)
            (first | (go_at_call 46; refine (screen_any _ q M s1.m VD.out.ok.gd.mo _ VD.out.tr.pm).mono ?_; rintro e wa ⟨sb, Ga, rfl, aa, sg, sn, sr, sl⟩; have VA := Lib.hid (VD.out.still aa); have OA := Lib.hid (O4.out.drew.adv aa id); have BA := Lib.hid (B4.out.drew.adv aa id); have CA := Lib.hid (C4.out.drew.trans (aa.mono (T := S4 p i j q) fun _ h => h.elim)); have SA := Lib.hid (And.intro sg (And.intro sr (And.intro sl (Nat.le_trans C4.out.drew.size sn)))); have QA := Lib.hid VA.out.cells.2.2.2.2.2; clear aa sg sn sr sl) | (go_at_call 31; refine (tones_any _ q 0 M s1.m VA.out.ok.gd.mo (by omega) _ VA.out.tr.pm).mono ?_; rintro e wb ⟨ta, tc, Gb, rfl, ab, rb⟩; have V5 := Lib.hid (VA.out.still ab); have O5 := Lib.hid (OA.out.adv ab id); have B5 := Lib.hid (BA.out.adv ab id); have C5 := Lib.hid (CA.out.trans (ab.mono (T := S4 p i j q) fun _ h => h.elim)); have SB := Lib.hid (And.intro ((ab.own _ SA.out.2.2.1).trans SA.out.1) (And.intro (SA.out.2.1.adv ab (fun _ _ => id)) (And.intro (Nat.lt_of_lt_of_le SA.out.2.2.1 ab.size) SA.out.2.2.2))); have RB := Lib.hid rb; have QB := Lib.hid V5.out.cells.2.2.2.2.2; have p5 := O5.out.cell 5 (.slice none 0 0) rfl; have p6 := O5.out.cell 6 (.slice none 0 0) rfl; have pf := O5.out.free; have x6 := O5.out.set 5 (.slice (some ⟨sb, 0, none⟩) s1.m.screen.length s1.m.screen.length); have V6 := Lib.hid (V5.out.mine o hfar x6.1); have O6 := Lib.hid (x6.2.sett (show _ = #[.int .i64 s1.st, .int .i64 s1.ft, .int .i64 n, .int .i64 c, .int .i64 (budget - c), (.slice (some ⟨sb, 0, none⟩) s1.m.screen.length s1.m.screen.length), (.slice none 0 0)] from rfl)); have B6 := Lib.hid (B5.out.other (b2 := bo) (Ne.symm hne) 5 (.slice (some ⟨sb, 0, none⟩) s1.m.screen.length s1.m.screen.length)); have C6 := Lib.hid (C5.out.setNew (p := ⟨bo, 5, none⟩) O5.out.new (.slice (some ⟨sb, 0, none⟩) s1.m.screen.length s1.m.screen.length)); clear x6; have x7 := O6.out.set 6 (.slice ta s1.m.tones.length tc); have V7 := Lib.hid (V6.out.mine o hfar x7.1); have O7 := Lib.hid (x7.2.sett (show _ = #[.int .i64 s1.st, .int .i64 s1.ft, .int .i64 n, .int .i64 c, .int .i64 (budget - c), (.slice (some ⟨sb, 0, none⟩) s1.m.screen.length s1.m.screen.length), (.slice ta s1.m.tones.length tc)] from rfl)); have B7 := Lib.hid (B6.out.other (b2 := bo) (Ne.symm hne) 6 (.slice ta s1.m.tones.length tc)); have C7 := Lib.hid (C6.out.setNew (p := ⟨bo, 6, none⟩) O6.out.new (.slice ta s1.m.tones.length tc)); clear x7; have QC := Lib.hid V6.out.cells.2.2.2.2.2; have QD := Lib.hid V7.out.cells.2.2.2.2.2; clear ab rb))
          clear p5 p6 pf c6
          obtain ⟨w6, hw6⟩ : ∃ v, v = (wb.setCell ⟨bo, 5, none⟩ (.slice (some ⟨sb, 0, none⟩) s1.m.screen.length s1.m.screen.length)).setCell ⟨bo, 6, none⟩ (.slice ta s1.m.tones.length tc) := ⟨_, rfl⟩
          have SZ := Lib.hid (show (Gb sb = 0 ∧ Reads ((wb.setCell ⟨bo, 5, none⟩ (.slice (some ⟨sb, 0, none⟩) s1.m.screen.length s1.m.screen.length)).setCell ⟨bo, 6, none⟩ (.slice ta s1.m.tones.length tc)) (some ⟨sb, 0, none⟩) (u8s s1.m.screen) ∧ sb < ((wb.setCell ⟨bo, 5, none⟩ (.slice (some ⟨sb, 0, none⟩) s1.m.screen.length s1.m.screen.length)).setCell ⟨bo, 6, none⟩ (.slice ta s1.m.tones.length tc)).heap.size ∧ w.heap.size ≤ sb) from ⟨SB.out.1, SB.out.2.1.adv ((O5.out.set 5 (.slice (some ⟨sb, 0, none⟩) s1.m.screen.length s1.m.screen.length)).1.trans (O6.out.set 6 (.slice ta s1.m.tones.length tc)).1) (fun ad e => by cases e; rw [SB.out.1]; decide), Nat.lt_of_lt_of_le SB.out.2.2.1 ((O5.out.set 5 (.slice (some ⟨sb, 0, none⟩) s1.m.screen.length s1.m.screen.length)).1.trans (O6.out.set 6 (.slice ta s1.m.tones.length tc)).1).size, SB.out.2.2.2⟩)
          have RZ := Lib.hid (RB.out.adv ((O5.out.set 5 (.slice (some ⟨sb, 0, none⟩) s1.m.screen.length s1.m.screen.length)).1.trans (O6.out.set 6 (.slice ta s1.m.tones.length tc)).1) (by decide))
          rw [← hw6] at V7 O7 B7 C7 SZ RZ ⊢
          clear hw6
          have y0 := O7.out.cell 0 (.int .i64 s1.st) rfl
          have y1 := O7.out.cell 1 (.int .i64 s1.ft) rfl
          have y2 := O7.out.cell 2 (.int .i64 n) rfl
          have y3 := O7.out.cell 3 (.int .i64 c) rfl
          have y4 := O7.out.cell 4 (.int .i64 (budget - c)) rfl
          have y5 := O7.out.cell 5 (.slice (some ⟨sb, 0, none⟩) s1.m.screen.length s1.m.screen.length) rfl
          have y6 := O7.out.cell 6 (.slice ta s1.m.tones.length tc) rfl
          have z0 := B7.out.cell 0 (.int .i64 0) rfl
          have z1 := B7.out.cell 1 (.int .i64 0) rfl
          have z2 := B7.out.cell 2 (.int .i64 0) rfl
          have z3 := B7.out.cell 3 (.int .i64 0) rfl
          have z4 := B7.out.cell 4 (.int .i64 0) rfl
          have z5 := B7.out.cell 5 (.slice none 0 0) rfl
          have z6 := B7.out.cell 6 (.slice none 0 0) rfl
          have zf := B7.out.free
          go_wp2_with fail
          rw [HE.out]
          have a7 := own7 (w := w6) (G := Gb) w.heap.size B7.out.own (.int .i64 s1.st) (.int .i64 s1.ft) (.int .i64 n) (.int .i64 c) (.int .i64 (budget - c)) (.slice (some ⟨sb, 0, none⟩) s1.m.screen.length s1.m.screen.length) (.slice ta s1.m.tones.length tc)
          exact bodyPost_ret (v := .tuple #[.agg #[.int .i64 s1.st, .int .i64 s1.ft, .int .i64 n, .int .i64 c, .int .i64 (budget - c), .slice (some ⟨sb, 0, none⟩) s1.m.screen.length s1.m.screen.length, .slice ta s1.m.tones.length tc], .int .i64 0]) (by simp [results, Tryd.results36, go_sem, z0, z1, z2, z3, z4, z5, z6]) rfl
            ⟨sb, ta, tc, Gb, rfl, ((((((C7.out.setNew (p := ⟨w.heap.size, 0, none⟩) (Nat.le_refl _) _).setNew (p := ⟨w.heap.size, 1, none⟩) (Nat.le_refl _) _).setNew (p := ⟨w.heap.size, 2, none⟩) (Nat.le_refl _) _).setNew (p := ⟨w.heap.size, 3, none⟩) (Nat.le_refl _) _).setNew (p := ⟨w.heap.size, 4, none⟩) (Nat.le_refl _) _).setNew (p := ⟨w.heap.size, 5, none⟩) (Nat.le_refl _) _).setNew (p := ⟨w.heap.size, 6, none⟩) (Nat.le_refl _) _,
              V7.out.mine o hfar a7, ⟨SZ.out.1, SZ.out.2.1.adv a7 (fun ad e => by cases e; rw [SZ.out.1]; decide), Nat.lt_of_lt_of_le SZ.out.2.2.1 a7.size, SZ.out.2.2.2⟩, RZ.out.adv a7 (by decide)⟩
    · have hstb : (s1.st == 1) = false := by simpa using hst
      have HE := Lib.hid (show F = (s1, n, c) from by rw [← HR.out]; unfold frameRest; split; exact rfl; exact go_stop _ _ _ _ _ _ (fun h => hst h.1))
      have o4 := HO.out.cell 4 (.int .i64 0) rfl
      have of := HO.out.free
      have i0 : 0 ≤ budget - c := by omega
      have i1 : budget - c ≤ 16384 := by omega
      have V0 := HV
      have O0 := HO
      have B0 := HB
      have C0 := AR
      have x1 := O0.out.set 4 (.int .i64 (budget - c))
      have V1 := Lib.hid (V0.out.mine o hfar x1.1)
      have O1 := Lib.hid (x1.2.sett (show _ = #[.int .i64 0, .int .i64 0, .int .i64 n, .int .i64 c, .int .i64 (budget - c), (.slice none 0 0), (.slice none 0 0)] from rfl))
      have B1 := Lib.hid (B0.out.other (b2 := bo) (Ne.symm hne) 4 (.int .i64 (budget - c)))
      have C1 := Lib.hid (C0.out.setNew (p := ⟨bo, 4, none⟩) O0.out.new (.int .i64 (budget - c)))
      clear x1
      go_wp2_with fail
      obtain ⟨wt, hwt⟩ : ∃ v, v = wr.setCell ⟨bo, 4, none⟩ (.int .i64 (budget - c)) := ⟨_, rfl⟩
      rw [← hwt] at V1 O1 B1 C1 ⊢
      clear hwt
      clear o4 of
      have p0 := O1.out.cell 0 (.int .i64 0) rfl
      have p1 := O1.out.cell 1 (.int .i64 0) rfl
      have pf := O1.out.free
      have x2 := O1.out.set 0 (.int .i64 s1.st)
      have V2 := Lib.hid (V1.out.mine o hfar x2.1)
      have O2 := Lib.hid (x2.2.sett (show _ = #[.int .i64 s1.st, .int .i64 0, .int .i64 n, .int .i64 c, .int .i64 (budget - c), (.slice none 0 0), (.slice none 0 0)] from rfl))
      have B2 := Lib.hid (B1.out.other (b2 := bo) (Ne.symm hne) 0 (.int .i64 s1.st))
      have C2 := Lib.hid (C1.out.setNew (p := ⟨bo, 0, none⟩) O1.out.new (.int .i64 s1.st))
      clear x2
      have x3 := O2.out.set 1 (.int .i64 s1.ft)
      have V3 := Lib.hid (V2.out.mine o hfar x3.1)
      have O3 := Lib.hid (x3.2.sett (show _ = #[.int .i64 s1.st, .int .i64 s1.ft, .int .i64 n, .int .i64 c, .int .i64 (budget - c), (.slice none 0 0), (.slice none 0 0)] from rfl))
      have B3 := Lib.hid (B2.out.other (b2 := bo) (Ne.symm hne) 1 (.int .i64 s1.ft))
      have C3 := Lib.hid (C2.out.setNew (p := ⟨bo, 1, none⟩) O2.out.new (.int .i64 s1.ft))
      clear x3
      have d1 := V1.out.drew.cells.2.1
      have d2 := V1.out.drew.cells.2.2.1
      have Q2 := Lib.hid (And.intro V2.out.drew.cells.2.1 V2.out.drew.cells.2.2.1)
      have Q3 := Lib.hid (And.intro V3.out.drew.cells.2.1 V3.out.drew.cells.2.2.1)
      go_region_held3 (fun w' => w'.cell? ⟨P, 1, none⟩ = some (.int .i64 s1.st) ∧ w'.cell? ⟨P, 2, none⟩ = some (.int .i64 s1.ft)) (first | with_reducible exact ⟨d1, d2⟩ | with_reducible exact Q2.out | with_reducible exact Q3.out) (fail)
      clear p0 p1 pf d1 d2 Q2 Q3
      obtain ⟨w3, hw3⟩ : ∃ v, v = ((wt.setCell ⟨bo, 0, none⟩ (.int .i64 s1.st)).setCell ⟨bo, 1, none⟩ (.int .i64 s1.ft)).drew := ⟨_, rfl⟩
      have V4 := Lib.hid V3.out.drew
      have O4 := Lib.hid O3.out.drew
      have B4 := Lib.hid B3.out.drew
      have C4 := Lib.hid C3.out.drew
      rw [← hw3] at V4 O4 B4 C4 ⊢
      clear hw3
      go_wp2_with fail
      have VD := Lib.hid V4.out.drew
      have c6 := V4.out.drew.cells.2.2.2.2.2
      go_region_held3 (fun w' => w'.cell? ⟨P, 6, none⟩ = some (.pointer (some ⟨M, 0, none⟩))) (first | with_reducible exact c6 | with_reducible exact QA.out | with_reducible exact QB.out | with_reducible exact QC.out | with_reducible exact QD.out)
        (first | (go_at_call 46; refine (screen_any _ q M s1.m VD.out.ok.gd.mo _ VD.out.tr.pm).mono ?_; rintro e wa ⟨sb, Ga, rfl, aa, sg, sn, sr, sl⟩; have VA := Lib.hid (VD.out.still aa); have OA := Lib.hid (O4.out.drew.adv aa id); have BA := Lib.hid (B4.out.drew.adv aa id); have CA := Lib.hid (C4.out.drew.trans (aa.mono (T := S4 p i j q) fun _ h => h.elim)); have SA := Lib.hid (And.intro sg (And.intro sr (And.intro sl (Nat.le_trans C4.out.drew.size sn)))); have QA := Lib.hid VA.out.cells.2.2.2.2.2; clear aa sg sn sr sl) | (go_at_call 31; refine (tones_any _ q 0 M s1.m VA.out.ok.gd.mo (by omega) _ VA.out.tr.pm).mono ?_; rintro e wb ⟨ta, tc, Gb, rfl, ab, rb⟩; have V5 := Lib.hid (VA.out.still ab); have O5 := Lib.hid (OA.out.adv ab id); have B5 := Lib.hid (BA.out.adv ab id); have C5 := Lib.hid (CA.out.trans (ab.mono (T := S4 p i j q) fun _ h => h.elim)); have SB := Lib.hid (And.intro ((ab.own _ SA.out.2.2.1).trans SA.out.1) (And.intro (SA.out.2.1.adv ab (fun _ _ => id)) (And.intro (Nat.lt_of_lt_of_le SA.out.2.2.1 ab.size) SA.out.2.2.2))); have RB := Lib.hid rb; have QB := Lib.hid V5.out.cells.2.2.2.2.2; have p5 := O5.out.cell 5 (.slice none 0 0) rfl; have p6 := O5.out.cell 6 (.slice none 0 0) rfl; have pf := O5.out.free; have x6 := O5.out.set 5 (.slice (some ⟨sb, 0, none⟩) s1.m.screen.length s1.m.screen.length); have V6 := Lib.hid (V5.out.mine o hfar x6.1); have O6 := Lib.hid (x6.2.sett (show _ = #[.int .i64 s1.st, .int .i64 s1.ft, .int .i64 n, .int .i64 c, .int .i64 (budget - c), (.slice (some ⟨sb, 0, none⟩) s1.m.screen.length s1.m.screen.length), (.slice none 0 0)] from rfl)); have B6 := Lib.hid (B5.out.other (b2 := bo) (Ne.symm hne) 5 (.slice (some ⟨sb, 0, none⟩) s1.m.screen.length s1.m.screen.length)); have C6 := Lib.hid (C5.out.setNew (p := ⟨bo, 5, none⟩) O5.out.new (.slice (some ⟨sb, 0, none⟩) s1.m.screen.length s1.m.screen.length)); clear x6; have x7 := O6.out.set 6 (.slice ta s1.m.tones.length tc); have V7 := Lib.hid (V6.out.mine o hfar x7.1); have O7 := Lib.hid (x7.2.sett (show _ = #[.int .i64 s1.st, .int .i64 s1.ft, .int .i64 n, .int .i64 c, .int .i64 (budget - c), (.slice (some ⟨sb, 0, none⟩) s1.m.screen.length s1.m.screen.length), (.slice ta s1.m.tones.length tc)] from rfl)); have B7 := Lib.hid (B6.out.other (b2 := bo) (Ne.symm hne) 6 (.slice ta s1.m.tones.length tc)); have C7 := Lib.hid (C6.out.setNew (p := ⟨bo, 6, none⟩) O6.out.new (.slice ta s1.m.tones.length tc)); clear x7; have QC := Lib.hid V6.out.cells.2.2.2.2.2; have QD := Lib.hid V7.out.cells.2.2.2.2.2; clear ab rb))
      clear p5 p6 pf c6
      obtain ⟨w6, hw6⟩ : ∃ v, v = (wb.setCell ⟨bo, 5, none⟩ (.slice (some ⟨sb, 0, none⟩) s1.m.screen.length s1.m.screen.length)).setCell ⟨bo, 6, none⟩ (.slice ta s1.m.tones.length tc) := ⟨_, rfl⟩
      have SZ := Lib.hid (show (Gb sb = 0 ∧ Reads ((wb.setCell ⟨bo, 5, none⟩ (.slice (some ⟨sb, 0, none⟩) s1.m.screen.length s1.m.screen.length)).setCell ⟨bo, 6, none⟩ (.slice ta s1.m.tones.length tc)) (some ⟨sb, 0, none⟩) (u8s s1.m.screen) ∧ sb < ((wb.setCell ⟨bo, 5, none⟩ (.slice (some ⟨sb, 0, none⟩) s1.m.screen.length s1.m.screen.length)).setCell ⟨bo, 6, none⟩ (.slice ta s1.m.tones.length tc)).heap.size ∧ w.heap.size ≤ sb) from ⟨SB.out.1, SB.out.2.1.adv ((O5.out.set 5 (.slice (some ⟨sb, 0, none⟩) s1.m.screen.length s1.m.screen.length)).1.trans (O6.out.set 6 (.slice ta s1.m.tones.length tc)).1) (fun ad e => by cases e; rw [SB.out.1]; decide), Nat.lt_of_lt_of_le SB.out.2.2.1 ((O5.out.set 5 (.slice (some ⟨sb, 0, none⟩) s1.m.screen.length s1.m.screen.length)).1.trans (O6.out.set 6 (.slice ta s1.m.tones.length tc)).1).size, SB.out.2.2.2⟩)
      have RZ := Lib.hid (RB.out.adv ((O5.out.set 5 (.slice (some ⟨sb, 0, none⟩) s1.m.screen.length s1.m.screen.length)).1.trans (O6.out.set 6 (.slice ta s1.m.tones.length tc)).1) (by decide))
      rw [← hw6] at V7 O7 B7 C7 SZ RZ ⊢
      clear hw6
      have y0 := O7.out.cell 0 (.int .i64 s1.st) rfl
      have y1 := O7.out.cell 1 (.int .i64 s1.ft) rfl
      have y2 := O7.out.cell 2 (.int .i64 n) rfl
      have y3 := O7.out.cell 3 (.int .i64 c) rfl
      have y4 := O7.out.cell 4 (.int .i64 (budget - c)) rfl
      have y5 := O7.out.cell 5 (.slice (some ⟨sb, 0, none⟩) s1.m.screen.length s1.m.screen.length) rfl
      have y6 := O7.out.cell 6 (.slice ta s1.m.tones.length tc) rfl
      have z0 := B7.out.cell 0 (.int .i64 0) rfl
      have z1 := B7.out.cell 1 (.int .i64 0) rfl
      have z2 := B7.out.cell 2 (.int .i64 0) rfl
      have z3 := B7.out.cell 3 (.int .i64 0) rfl
      have z4 := B7.out.cell 4 (.int .i64 0) rfl
      have z5 := B7.out.cell 5 (.slice none 0 0) rfl
      have z6 := B7.out.cell 6 (.slice none 0 0) rfl
      have zf := B7.out.free
      go_wp2_with fail
      rw [HE.out]
      have a7 := own7 (w := w6) (G := Gb) w.heap.size B7.out.own (.int .i64 s1.st) (.int .i64 s1.ft) (.int .i64 n) (.int .i64 c) (.int .i64 (budget - c)) (.slice (some ⟨sb, 0, none⟩) s1.m.screen.length s1.m.screen.length) (.slice ta s1.m.tones.length tc)
      exact bodyPost_ret (v := .tuple #[.agg #[.int .i64 s1.st, .int .i64 s1.ft, .int .i64 n, .int .i64 c, .int .i64 (budget - c), .slice (some ⟨sb, 0, none⟩) s1.m.screen.length s1.m.screen.length, .slice ta s1.m.tones.length tc], .int .i64 0]) (by simp [results, Tryd.results36, go_sem, z0, z1, z2, z3, z4, z5, z6]) rfl
        ⟨sb, ta, tc, Gb, rfl, ((((((C7.out.setNew (p := ⟨w.heap.size, 0, none⟩) (Nat.le_refl _) _).setNew (p := ⟨w.heap.size, 1, none⟩) (Nat.le_refl _) _).setNew (p := ⟨w.heap.size, 2, none⟩) (Nat.le_refl _) _).setNew (p := ⟨w.heap.size, 3, none⟩) (Nat.le_refl _) _).setNew (p := ⟨w.heap.size, 4, none⟩) (Nat.le_refl _) _).setNew (p := ⟨w.heap.size, 5, none⟩) (Nat.le_refl _) _).setNew (p := ⟨w.heap.size, 6, none⟩) (Nat.le_refl _) _,
          V7.out.mine o hfar a7, ⟨SZ.out.1, SZ.out.2.1.adv a7 (fun ad e => by cases e; rw [SZ.out.1]; decide), Nat.lt_of_lt_of_le SZ.out.2.2.1 a7.size, SZ.out.2.2.2⟩, RZ.out.adv a7 (by decide)⟩
end
end Go.Proofs.YtdnalhjdmlkbmaaDoor
namespace Go.Proofs.YtdnalhjdmlkbmaaDoor
open Go.RowKit
set_option linter.unusedVariables false

def cartV (ca : Option Addr) (n cc : Nat) (entry : Int) (ea : Option Addr) (m ec : Nat) (ba : Option Addr) (k bc : Nat) : Value := .agg #[.slice ca n cc, .int .u16 entry, .slice ea m ec, .slice ba k bc]
/-- The machine that New makes. -/
def startS (entry : Int) (l : List (Int × List Int)) : VmS := { pc := (entry + 2) % 65536, st := 1, ft := 0, d := [], r := [], m := newM l }
/-- append of whatever is read to a row, as one step of a region that draws its order. -/
theorem step_append_any {P : Program} {ops : Array Oper} {o : Oper} {a : Act} {w : World} {K : Act → World → Prop} {Q : Exit → Act → World → Prop} {E : Prop}
    (hg : o.guard = none) (s x : Operand) (t : TypeId) (hop : o.op = Op.call { callee := Callee.builtin Builtin.append, args := #[s, x], argTypes := #[t, t] })
    (e : TypeId) (i : TypeInfo) (z : Value) (size bytes : Nat) (h1 : P.underlying t = some (.slice e)) (h2 : P.info? e = some i) (h3 : i.zero = some z) (h4 : i.size = size) (h5 : i.bytes = bytes) (h6 : z.cells.size = size) (h7 : 0 < size)
    (G : Nat → Nat) (q : Nat) (va : Option Addr) (n vc : Nat) (xs : List Value) (hs : a.eval s = .slice va n vc) (hrow : Row e size w G q (.slice va n vc) n xs)
    (xa : Option Addr) (m c : Nat) (news : List Value) (hx : a.eval x = .slice xa m c) (hn : news.length = m * size) (hc : Reads w xa news) (h1c : ∀ u ∈ news, u.oneCell' = true)
    (b1 : n + m ≤ maxLen) (b2 : (n + m) * bytes ≤ 140737488355328)
    (hK : ∀ va' vc' w' G', Row e size w' G' q (.slice va' (n + m) vc') (n + m) (xs ++ news) → Adv (· = q) w G w' G' → K (a.put o.dst (.slice va' (n + m) vc')) w') :
    if Region.wanted o (yielded ops a.tmps) = true then Oper.wp P o a w K Q else E := by
  by_cases hm : m = 0 ∧ xa = none
  · obtain ⟨rfl, rfl⟩ := hm
    obtain rfl : news = [] := List.eq_nil_of_length_eq_zero (by simpa using hn)
    have hw : Region.wanted o (yielded ops a.tmps) = true := by simp [Region.wanted, hg]
    rw [if_pos hw]
    have hnc : n ≤ vc := by
      obtain ⟨a', c', e1, _, h2, _⟩ := hrow.slice
      cases e1; exact h2
    have hr := run_append_nothing (P := P) w t o.type e i h1 h2 va n vc c hnc
    unfold Oper.wp
    simp [execOp, hop, resolve, invoke, builtin, hs, hx, hr, Result.andThen]
    exact hK va vc w G (by simpa using hrow) (Adv.refl _ _ _)
  · obtain ⟨ad, rfl, hn2⟩ : ∃ ad, xa = some ad ∧ ∀ j u, news[j]? = some u → w.cell? (ad.add j) = some u := by
      rcases hc with rfl | ⟨b, o, rfl, hr⟩
      · cases xa with
        | none =>
          exfalso
          apply hm
          refine ⟨?_, rfl⟩
          rcases Nat.eq_zero_or_pos m with h | h
          · exact h
          · exfalso
            have : 0 < m * size := Nat.mul_pos h h7
            simp at hn; omega
        | some ad => exact ⟨ad, rfl, fun j u hu => by simp at hu⟩
      · exact ⟨_, rfl, Reads.add hr⟩
    exact step_append_row hg s x t hop e i z size bytes h1 h2 h3 h4 h5 h6 h7 G q va n vc xs hs hrow ad m c news hx hn hn2 h1c b1 b2 hK
/-- What New answers: a machine. -/
def NewIs (p i j q : Nat) (code : List Int) (entry : Int) (l : List (Int × List Int)) (w : World) (G : Nat → Nat) (e : Ending) (w' : World) : Prop :=
  ∃ P D R M G', e = .returned (.tuple #[.pointer (some ⟨P, 0, none⟩), .int .i64 0]) ∧ Adv (fun _ => False) w G w' G' ∧ VM w' G' p i j q P D R M code (startS entry l)
/-- An empty stack, just made. -/
theorem PU.made (w : World) (G : Nat → Nat) (i : Nat) : PU (w.alloc (.cells #[.slice none 0 0] 140)) (own1 w G i) i w.heap.size [] :=
  ⟨.slice none 0 0, heap_alloc_new w _, own1_new _ _ _, World.ownsRow_nil _ _ _ _, (fun b e => by cases e), (fun e => by cases e)⟩
theorem PR.made (w : World) (G : Nat → Nat) (i : Nat) : PR (w.alloc (.cells #[.slice none 0 0] 144)) (own1 w G i) i w.heap.size [] :=
  ⟨.slice none 0 0, heap_alloc_new w _, own1_new _ _ _, World.ownsRow_nil _ _ _ _, (fun b e => by cases e), (fun e => by cases e)⟩
set_option maxRecDepth 100000 in
set_option maxHeartbeats 2000000 in
theorem vmNew_ok (p i j q : Nat) (o : Own4 p i j q) (G : Nat → Nat) (ca : Option Addr) (n cc : Nat) (entry : Int) (e0 : 0 ≤ entry) (e1 : entry < 65536) (ea : Option Addr) (m ec : Nat) (ba : Option Addr) (k bc : Nat) (code : List Int) (l : List (Int × List Int)) (w : World)
    (hl : code.length = n) (hn : n ≤ 16384) (hcb : B8 code) (hr : Reads w ca (u8s code)) (hlk : l.length = k) (hk : k ≤ 1000000) (hmay : mayBanks l = true) (hb8 : ∀ x ∈ l, B8 x.2) (hbl : ∀ x ∈ l, x.2.length ≤ 16384)
    (hin : ∀ (w' : World) (G' : Nat → Nat), Adv (fun _ => False) w G w' G' → BankIn w' ba l)
    (hcheck : ∀ (w' : World) (G' : Nat → Nat), Adv (fun _ => False) w G w' G' → Calls Tryd.prog 67 #[cartV ca n cc entry ea m ec ba k bc] w' (Looked w' G' (.int .i64 0))) (ht : Tabs w G) :
    Calls Tryd.prog 32 #[cartV ca n cc entry ea m ec ba k bc] w (NewIs p i j q code entry l w G) := by
  obtain ⟨i0, hi, hz0, hz1, hz2⟩ := info_parts infoU8
  have CV := Lib.hid (show cartV ca n cc entry ea m ec ba k bc = .agg #[.slice ca n cc, .int .u16 entry, .slice ea m ec, .slice ba k bc] from rfl)
  have HL := Lib.hid hl
  have HR := Lib.hid hr
  have HI := Lib.hid hin
  have HC := Lib.hid hcheck
  have HT := Lib.hid ht
  have HK := Lib.hid hlk
  have HM := Lib.hid hmay
  have HB := Lib.hid (And.intro hb8 hbl)
  have HCB := Lib.hid hcb
  clear hl hr hin hcheck ht hlk hmay hb8 hbl hcb
  unfold cartV at HC ⊢
  have A0 := Lib.hid ((Adv.refl (fun _ => False) w G).alloc (.cells #[.slice ca n cc, .int .u16 entry, .slice ea m ec, .slice ba k bc] 74) 0)
  have B0 := Lib.hid (heap_alloc_new w (.cells #[.slice ca n cc, .int .u16 entry, .slice ea m ec, .slice ba k bc] 74))
  have hw := wrap_u16_mod (entry + 2)
  go_enter Tryd.func32, Tryd.ntmps32
  go_wp2_with fail
  refine (HC.out _ _ A0.out).mono ?_
  rintro e w1 ⟨rfl, G1, a1⟩
  have A1 := Lib.hid (A0.out.trans a1)
  have B1 := Lib.hid ((a1.keep w.heap.size (Array.getElem?_eq_some_iff.1 B0.out).1 id).trans B0.out)
  have b3 := block_cell B1.out 3 (.slice ba k bc) rfl
  clear a1
  go_wp2_with fail
  refine (new_ok G1 q o.o3.q0 ba k bc l HK.out hk HM.out w1 (fun w' G' h => HI.out w' G' (A1.out.trans h))).mono ?_
  rintro e w2 ⟨M, G2, rfl, a2, p2⟩
  have A2 := Lib.hid (A1.out.trans a2)
  have B2 := Lib.hid ((a2.keep w.heap.size (Array.getElem?_eq_some_iff.1 B1.out).1 id).trans B1.out)
  have P2 := Lib.hid p2
  have hwl : w.heap.size < w2.heap.size := (Array.getElem?_eq_some_iff.1 B2.out).1
  clear a2 p2 b3
  have b0 := block_cell B2.out 0 (.slice ca n cc) rfl
  have b1 := block_cell B2.out 1 (.int .u16 entry) rfl
  -- the two stacks, the place
  have A3 := Lib.hid (((A2.out.alloc (.cells #[.slice none 0 0] 140) i).alloc (.cells #[.slice none 0 0] 144) j).alloc (.cells #[.int .u16 ((entry + 2) % 65536), .int .i64 1, .int .i64 0, .pointer (some ⟨w2.heap.size, 0, none⟩), .pointer (some ⟨w2.heap.size + 1, 0, none⟩)] 146) 0)
  go_wp2_with fail
  obtain ⟨w3, hw3⟩ : ∃ v, v = ((w2.alloc (.cells #[.slice none 0 0] 140)).alloc (.cells #[.slice none 0 0] 144)).alloc (.cells #[.int .u16 ((entry + 2) % 65536), .int .i64 1, .int .i64 0, .pointer (some ⟨w2.heap.size, 0, none⟩), .pointer (some ⟨w2.heap.size + 1, 0, none⟩)] 146) := ⟨_, rfl⟩
  have ad1 := (Adv.refl (fun _ => False) w2 G2).alloc (.cells #[.slice none 0 0] 140) i
  have ad2 := (Adv.refl (fun _ => False) _ (own1 w2 G2 i)).alloc (w := w2.alloc (.cells #[.slice none 0 0] 140)) (.cells #[.slice none 0 0] 144) j
  have ad3 := (Adv.refl (fun _ => False) _ (own1 (w2.alloc (.cells #[.slice none 0 0] 140)) (own1 w2 G2 i) j)).alloc (w := (w2.alloc (.cells #[.slice none 0 0] 140)).alloc (.cells #[.slice none 0 0] 144)) (.cells #[.int .u16 ((entry + 2) % 65536), .int .i64 1, .int .i64 0, .pointer (some ⟨w2.heap.size, 0, none⟩), .pointer (some ⟨w2.heap.size + 1, 0, none⟩)] 146) 0
  have U3 := ((PU.made w2 G2 i).adv ad2 id).adv ad3 id
  have V3 := (PR.made (w2.alloc (.cells #[.slice none 0 0] 140)) (own1 w2 G2 i) j).adv ad3 id
  have N3 := P2.out.adv (ad1.trans (ad2.trans ad3)) id
  have T3 := HT.out.adv A3.out id
  have E3 := heap_alloc_new ((w2.alloc (.cells #[.slice none 0 0] 140)).alloc (.cells #[.slice none 0 0] 144)) (.cells #[.int .u16 ((entry + 2) % 65536), .int .i64 1, .int .i64 0, .pointer (some ⟨w2.heap.size, 0, none⟩), .pointer (some ⟨w2.heap.size + 1, 0, none⟩)] 146)
  have F3 := ((ad1.trans (ad2.trans ad3)).keep w.heap.size hwl id).trans B2.out
  have R3 := HR.out.adv A3.out (fun _ _ => id)
  rw [← hw3] at U3 V3 N3 T3 E3 F3 R3 A3 ⊢
  rw [show (w2.alloc (.cells #[.slice none 0 0] 140)).heap.size = w2.heap.size + 1 from by simp] at V3
  rw [show ((w2.alloc (.cells #[.slice none 0 0] 140)).alloc (.cells #[.slice none 0 0] 144)).heap.size = w2.heap.size + 1 + 1 from by simp] at E3
  obtain ⟨G3, hG3⟩ : ∃ g, g = own1 ((w2.alloc (.cells #[.slice none 0 0] 140)).alloc (.cells #[.slice none 0 0] 144)) (own1 (w2.alloc (.cells #[.slice none 0 0] 140)) (own1 w2 G2 i) j) 0 := ⟨_, rfl⟩
  rw [← hG3] at U3 V3 N3 T3 A3
  clear hw3 ad1 ad2 ad3 hG3 b0 b1
  obtain ⟨D, hD⟩ : ∃ d, d = w2.heap.size := ⟨_, rfl⟩
  obtain ⟨R, hR⟩ : ∃ d, d = w2.heap.size + 1 := ⟨_, rfl⟩
  obtain ⟨Q, hQ⟩ : ∃ d, d = w2.heap.size + 1 + 1 := ⟨_, rfl⟩
  rw [← hQ] at E3 ⊢
  rw [← hR] at V3 E3 ⊢
  rw [← hD] at U3 E3 ⊢
  clear hD hR hQ hwl
  have TR3 := Lib.hid (show Trio w3 G3 i j q D R M [] [] (newM l) from ⟨U3, V3, N3⟩)
  have HT3 := Lib.hid T3
  have HR3 := Lib.hid R3
  have HE3 := Lib.hid E3
  have HF3 := Lib.hid F3
  have q0 := block_cell (w := w3.drew) E3 0 (.int .u16 ((entry + 2) % 65536)) rfl
  have q1 := block_cell (w := w3.drew) E3 1 (.int .i64 1) rfl
  have q2 := block_cell (w := w3.drew) E3 2 (.int .i64 0) rfl
  have q3 := block_cell (w := w3.drew) E3 3 (.pointer (some ⟨D, 0, none⟩)) rfl
  have q4 := block_cell (w := w3.drew) E3 4 (.pointer (some ⟨R, 0, none⟩)) rfl
  have q5 := block_cell (w := w3.drew) F3 0 (.slice ca n cc) rfl
  have hkk : ∀ (w' : World) (G' : Nat → Nat), Adv (fun _ => False) w3.drew G3 w' G' → w'.cell? ⟨Q, 0, none⟩ = some (.int .u16 ((entry + 2) % 65536)) ∧ w'.cell? ⟨Q, 1, none⟩ = some (.int .i64 1) ∧ w'.cell? ⟨Q, 2, none⟩ = some (.int .i64 0) ∧ w'.cell? ⟨Q, 3, none⟩ = some (.pointer (some ⟨D, 0, none⟩)) ∧ w'.cell? ⟨Q, 4, none⟩ = some (.pointer (some ⟨R, 0, none⟩)) ∧ w'.cell? ⟨w.heap.size, 0, none⟩ = some (.slice ca n cc) := fun w' G' h =>
    ⟨h.cell_some q0 id, h.cell_some q1 id, h.cell_some q2 id, h.cell_some q3 id, h.cell_some q4 id, h.cell_some q5 id⟩
  have HKK := Lib.hid hkk
  have hlen : (u8s code).length = n * 1 := by rw [u8s_length, HL.out, Nat.mul_one]
  have hcells : Reads w3.drew ca (u8s code) := R3.adv (S := fun _ => False) (Adv.refl _ w3 G3).drew (fun _ _ => id)
  have HX := Lib.hid (And.intro hlen hcells)
  clear U3 V3 N3 T3 R3 E3 F3 hkk hlen hcells
  go_region_held3 (fun w' => w'.cell? ⟨Q, 0, none⟩ = some (.int .u16 ((entry + 2) % 65536)) ∧ w'.cell? ⟨Q, 1, none⟩ = some (.int .i64 1) ∧ w'.cell? ⟨Q, 2, none⟩ = some (.int .i64 0) ∧ w'.cell? ⟨Q, 3, none⟩ = some (.pointer (some ⟨D, 0, none⟩)) ∧ w'.cell? ⟨Q, 4, none⟩ = some (.pointer (some ⟨R, 0, none⟩)) ∧ w'.cell? ⟨w.heap.size, 0, none⟩ = some (.slice ca n cc)) (first | with_reducible exact ⟨q0, q1, q2, q3, q4, q5⟩ | with_reducible exact Q4.out | with_reducible exact Q5.out)
    ((refine step_append_any rfl (.const (.slice none 0 0)) (.tmp 32) 70 rfl 5 i0 (.int .u8 0) 1 1 Tryd.underlying70 hi hz0 hz1 hz2 rfl (by decide) (fun _ => 0) 9 none 0 0 [] rfl (Row.nil _ _ _ _ _) ca n cc (u8s code) rfl HX.out.1 HX.out.2 (u8s_one code) (by unfold maxLen; omega) (by omega) ?_; intro va vc w4 Gx h1 h2; rw [Nat.zero_add, List.nil_append] at h1; rw [Nat.zero_add]; obtain ⟨f1, f2⟩ := fresh_row h2 h1 G3 0; have A4 := Lib.hid f1; have R4 := Lib.hid f2; have Q4 := Lib.hid (HKK.out _ _ f1); have Q5 := Lib.hid (HKK.out _ _ (f1.alloc (.cells #[.int .u16 ((entry + 2) % 65536), .int .i64 1, .int .i64 0, .pointer (some ⟨D, 0, none⟩), .pointer (some ⟨R, 0, none⟩), .slice va n vc, .pointer (some ⟨M, 0, none⟩)] 148) p)); clear h1 h2 f1 f2))
  go_wp2_with fail
  go_ret2
  have a5 := A4.out.alloc (.cells #[.int .u16 ((entry + 2) % 65536), .int .i64 1, .int .i64 0, .pointer (some ⟨D, 0, none⟩), .pointer (some ⟨R, 0, none⟩), .slice va n vc, .pointer (some ⟨M, 0, none⟩)] 148) p
  have hrow := R4.out.adv (S := fun _ => False) ((Adv.refl (fun _ => False) w4 _).alloc (.cells #[.int .u16 ((entry + 2) % 65536), .int .i64 1, .int .i64 0, .pointer (some ⟨D, 0, none⟩), .pointer (some ⟨R, 0, none⟩), .slice va n vc, .pointer (some ⟨M, 0, none⟩)] 148) p) id
  refine ⟨w4.heap.size, D, R, M, _, rfl, A3.out.drew.trans a5, ⟨va, vc, by rw [HL.out]; exact heap_alloc_new w4 _, hrow.reads, fun ad e => ?_⟩, own1_new _ _ _, TR3.out.drew.still a5, (HT3.out.adv (Adv.refl (fun _ => False) w3 G3).drew id).adv a5 id, ⟨⟨D16.nil, (fun x hx => by cases hx), by show 0 ≤ 256; decide, by show 0 ≤ 128; decide, newM_ok l HB.out.2, newM_rng l HB.out.1⟩, (mod16 _).1, (mod16 _).2, HCB.out, by rw [HL.out]; exact hn⟩⟩
  have hz := hrow.row.2
  rcases hz with ⟨e1, _⟩ | ⟨g, cap, cur, e1, hg, hgl, _⟩
  · cases e1; cases e
  · cases e1; cases e
    exact ⟨hrow.own g rfl, (hrow.row.lt g rfl).2⟩
/-- New of a cart that Check refuses. -/
theorem vmNew_bad (G : Nat → Nat) (ca : Option Addr) (n cc : Nat) (entry : Int) (ea : Option Addr) (m ec : Nat) (ba : Option Addr) (k bc : Nat) (w : World) (E : Int) (hE : E ≠ 0)
    (hcheck : ∀ (w' : World) (G' : Nat → Nat), Adv (fun _ => False) w G w' G' → Calls Tryd.prog 67 #[cartV ca n cc entry ea m ec ba k bc] w' (Looked w' G' (.int .i64 E))) :
    Calls Tryd.prog 32 #[cartV ca n cc entry ea m ec ba k bc] w (Looked w G (.tuple #[.pointer none, .int .i64 E])) := by
  have HC := Lib.hid hcheck
  have hE' : (E == 0) = false := by simpa using hE
  clear hcheck
  unfold cartV at HC ⊢
  have A0 := Lib.hid ((Adv.refl (fun _ => False) w G).alloc (.cells #[.slice ca n cc, .int .u16 entry, .slice ea m ec, .slice ba k bc] 74) 0)
  have B0 := Lib.hid (heap_alloc_new w (.cells #[.slice ca n cc, .int .u16 entry, .slice ea m ec, .slice ba k bc] 74))
  go_enter Tryd.func32, Tryd.ntmps32
  go_wp2_with fail
  refine (HC.out _ _ A0.out).mono ?_
  rintro e w1 ⟨rfl, G1, a1⟩
  have A1 := Lib.hid (A0.out.trans a1)
  clear a1
  go_wp2_with fail
  go_ret2
  exact ⟨rfl, G1, A1.out⟩
end Go.Proofs.YtdnalhjdmlkbmaaDoor
namespace Go.Proofs.YtdnalhjdmlkbmaaDoor
open Go.RowKit
set_option linter.unusedVariables false
/-- A new row of a label. -/
def RowIs (e size : Nat) (p n : Nat) (xs : List Value) (w : World) (G : Nat → Nat) (en : Ending) (w' : World) : Prop :=
  ∃ va vc G', en = .returned (.slice va n vc) ∧ Adv (fun _ => False) w G w' G' ∧ Row e size w' G' p (.slice va n vc) n xs
set_option maxRecDepth 100000 in
set_option maxHeartbeats 1000000 in
theorem own_any (p : Nat) (G : Nat → Nat) (xa : Option Addr) (n xc : Nat) (l : List Int) (hl : l.length = n) (hn : n ≤ 140737488351232) (w : World) (hr : Reads w xa (u8s l)) :
    Calls Tryd.prog 68 #[.slice xa n xc] w (RowIs 5 1 p n (u8s l) w G) := by
  obtain ⟨i0, hi, hz0, hz1, hz2⟩ := info_parts infoU8
  have HL := Lib.hid hl
  have A0 := Lib.hid ((Adv.refl (fun b => b = 9) w (fun _ => 0)).alloc (.cells #[] 5) 9)
  have R0 := Lib.hid (Row.new w (fun _ => 0) 5 1 9 0 [] (Nat.zero_le _) rfl)
  have X0 := Lib.hid (hr.alloc (.cells #[] 5))
  clear hl hr
  go_enter Tryd.func68, Tryd.ntmps68
  go_wp2_with (first
    | (at_builtin; refine wpList_append_reads rfl (.tmp 3) (.tmp 4) 70 rfl 5 i0 (.int .u8 0) 1 1 Tryd.underlying70 hi hz0 hz1 hz2 rfl (by decide) _ 9 (some ⟨w.heap.size, 0, none⟩) 0 0 [] rfl R0.out xa n xc (u8s l) rfl (by rw [u8s_length, HL.out, Nat.mul_one]) X0.out (u8s_one l) (by unfold maxLen; omega) (by omega) ?_; intro va1 vc1 w1 G1 h1 h2; rw [Nat.zero_add, List.nil_append] at h1; rw [Nat.zero_add]; have HR1 := Lib.hid h1; have HA1 := Lib.hid (A0.out.trans h2); clear h1 h2))
  go_ret
  obtain ⟨f1, f2⟩ := fresh_row HA1.out HR1.out G p
  exact ⟨va1, vc1, _, rfl, f1, f2⟩
end Go.Proofs.YtdnalhjdmlkbmaaDoor
namespace Go.Proofs.YtdnalhjdmlkbmaaDoor
open Go.RowKit
set_option linter.unusedVariables false
def numsB : Nat → List Int
  | 0 => []
  | k + 1 => numsB k ++ [(k : Int) % 256, 0]
def cellsB : List Int → List Int
  | [] => []
  | x :: l => x % 256 :: x / 256 :: cellsB l
def threadB (l : List Int) : List Int := numsB 64 ++ [1, 0] ++ cellsB l
theorem cellsB_length : ∀ l : List Int, (cellsB l).length = 2 * l.length
  | [] => rfl
  | x :: l => by simp [cellsB, cellsB_length l]; omega
theorem numsB_length : ∀ k : Nat, (numsB k).length = 2 * k
  | 0 => rfl
  | k + 1 => by simp [numsB, numsB_length k]; omega
theorem cellsB_snoc : ∀ (l : List Int) (x : Int), cellsB (l ++ [x]) = cellsB l ++ [x % 256, x / 256]
  | [], x => rfl
  | y :: l, x => by simp [cellsB, cellsB_snoc l x]
theorem own4c {w : World} {G : Nat → Nat} {o : Nat} (b : Nat) (hb : G b = o) (v0 v1 v2 v3 : Value) : Adv (fun x => x = o) w G ((((w.setCell ⟨b, 0, none⟩ v0).setCell ⟨b, 1, none⟩ v1).setCell ⟨b, 2, none⟩ v2).setCell ⟨b, 3, none⟩ v3) G :=
  ((((Adv.refl (fun x => x = o) w G).setCell (p := ⟨b, 0, none⟩) hb v0).setCell (p := ⟨b, 1, none⟩) hb v1).setCell (p := ⟨b, 2, none⟩) hb v2).setCell (p := ⟨b, 3, none⟩) hb v3
/-- What threads answers. -/
def ThreadsIs (l : List Int) (w : World) (G : Nat → Nat) (e : Ending) (w' : World) : Prop :=
  ∃ ca cc G', e = .returned (cartV (some ca) (130 + 2 * l.length) cc 128 none 0 0 none 0 0) ∧ Adv (fun _ => False) w G w' G' ∧ Reads w' (some ca) (u8s (threadB l)) ∧ G' ca.block = 0 ∧ ca.block < w'.heap.size ∧ w.heap.size ≤ ca.block
set_option maxRecDepth 100000 in
set_option maxHeartbeats 2000000 in
theorem threads_any (G : Nat → Nat) (xa : Option Addr) (xc : Nat) (l : List Int) (hl : D16 l) (hn : l.length ≤ 1000) (w : World) (hr : Reads w xa (cellsU l)) :
    Calls Tryd.prog 69 #[.slice xa l.length xc] w (ThreadsIs l w G) := by
  obtain ⟨i0, hi, hz0, hz1, hz2⟩ := info_parts infoU8
  have Z0 := Lib.hid (Mine.made w (fun _ => 0) w (Nat.le_refl _) #[.slice none 0 0, .int .u16 0, .slice none 0 0, .slice none 0 0] 74)
  have A0 := Lib.hid ((Adv.refl (fun o => o = 9) w (fun _ => 0)).alloc (.cells #[.slice none 0 0, .int .u16 0, .slice none 0 0, .slice none 0 0] 74) 1000)
  have HR := Lib.hid hr
  have HL := Lib.hid hl
  clear hr hl
  go_enter Tryd.func69, Tryd.ntmps69
  go_wp2_with fail
  go_loopw [3, 4] (fun vb vk wr => ∃ k : Nat, k ≤ 64 ∧ vk = .int .i64 k ∧ ∃ va vc Gr, vb = .slice va (2 * k) vc ∧ Row 5 1 wr Gr 9 (.slice va (2 * k) vc) (2 * k) (u8s (numsB k)) ∧ Adv (fun o => o = 9) w (fun _ => 0) wr Gr ∧ Mine w wr Gr w.heap.size #[.slice none 0 0, .int .u16 0, .slice none 0 0, .slice none 0 0] 74) (fun _ vk _ => 64 - (intOf vk).toNat)
  case atStart => exact ⟨0, by omega, rfl, none, 0, _, rfl, Row.nil _ _ _ _ _, A0.out, Z0.out⟩
  case round =>
    obtain ⟨k, hk, rfl, va, vc, Gr, rfl, row, ar, mn⟩ := hrel
    have ROW := Lib.hid row
    have AR := Lib.hid ar
    clear row ar
    by_cases h : k < 64
    · have hb : decide ((k : Int) < 64) = true := by simp; omega
      have hwk : IntKind.wrap .u8 (k : Int) = k := wrap_u8_id _ (by omega) (by omega)
      have hwi : IntKind.i64.wrap ((k : Int) + 1) = (k : Int) + 1 := IntWalk.i64_in _ (by omega)
      have RN := Lib.hid (Reads.new wr [.int .u8 (k : Int), .int .u8 0] 5)
      have RW := Lib.hid (ROW.out.adv ((Adv.refl (fun _ => False) wr Gr).alloc (.cells #[.int .u8 (k : Int), .int .u8 0] 5) 9) id)
      have AW := Lib.hid (AR.out.alloc (.cells #[.int .u8 (k : Int), .int .u8 0] 5) 9)
      go_wp2_with (first
        | (at_builtin; refine wpList_append_reads rfl (.tmp 11) (.tmp 14) 70 rfl 5 i0 (.int .u8 0) 1 1 Tryd.underlying70 hi hz0 hz1 hz2 rfl (by decide) _ 9 va (2 * k) vc (u8s (numsB k)) rfl RW.out (some ⟨wr.heap.size, 0, none⟩) 2 2 [.int .u8 (k : Int), .int .u8 0] rfl rfl RN.out (by intro u hu; simp at hu; rcases hu with rfl | rfl <;> rfl) (by unfold maxLen; omega) (by omega) ?_; intro va1 vc1 w1 G1 h1 h2; have HR1 := Lib.hid h1; have HA1 := Lib.hid (AW.out.trans h2); have HS1 := Lib.hid (((Adv.refl (fun o => o = 9) wr Gr).alloc (.cells #[.int .u8 (k : Int), .int .u8 0] 5) 9).trans h2); clear h1 h2))
      refine ⟨⟨k + 1, by omega, by simp, va1, vc1, G1, rfl, ?_, HA1.out, mn.adv HS1.out (by decide)⟩, ?_⟩
      · have e := HR1.out
        rw [show u8s (numsB (k + 1)) = u8s (numsB k) ++ [.int .u8 (k : Int), .int .u8 0] from by rw [numsB, u8s_append]; simp only [u8s, List.map]; rw [Int.emod_eq_of_lt (by omega) (by omega)]]
        exact e
      · simp only [intOf]; omega
    · have hb : decide ((k : Int) < 64) = false := by simp; omega
      have AW := Lib.hid (AR.out.alloc (.cells #[.int .u8 1, .int .u8 0] 5) 9)
      have RN := Lib.hid (Reads.new wr [.int .u8 1, .int .u8 0] 5)
      have RW := Lib.hid (ROW.out.adv ((Adv.refl (fun _ => False) wr Gr).alloc (.cells #[.int .u8 1, .int .u8 0] 5) 9) id)
      go_wp2_with (first
        | (at_builtin; refine wpList_append_reads rfl (.tmp 16) (.tmp 17) 70 rfl 5 i0 (.int .u8 0) 1 1 Tryd.underlying70 hi hz0 hz1 hz2 rfl (by decide) _ 9 va (2 * k) vc (u8s (numsB k)) rfl RW.out (some ⟨wr.heap.size, 0, none⟩) 2 2 [.int .u8 1, .int .u8 0] rfl rfl RN.out (by intro u hu; simp at hu; rcases hu with rfl | rfl <;> rfl) (by unfold maxLen; omega) (by omega) ?_; intro va1 vc1 w1 G1 h1 h2; have HR1 := Lib.hid h1; have HA1 := Lib.hid (AW.out.trans h2); have HS1 := Lib.hid (((Adv.refl (fun o => o = 9) wr Gr).alloc (.cells #[.int .u8 1, .int .u8 0] 5) 9).trans h2); clear h1 h2))
      have HK := Lib.hid (show k = 64 by omega)
      clear h hk
      have RL := Lib.hid (HR.out.adv HA1.out (fun _ _ => by decide))
      go_loopw [3, 21] (fun vb vk wx => ∃ k : Nat, k ≤ l.length ∧ vk = .int .i64 k ∧ ∃ va vc Gr, vb = .slice va (130 + 2 * k) vc ∧ Row 5 1 wx Gr 9 (.slice va (130 + 2 * k) vc) (130 + 2 * k) (u8s (threadB (l.take k))) ∧ Adv (fun o => o = 9) w (fun _ => 0) wx Gr ∧ Mine w wx Gr w.heap.size #[.slice none 0 0, .int .u16 0, .slice none 0 0, .slice none 0 0] 74) (fun _ vk _ => l.length - (intOf vk).toNat)
      case atStart => exact ⟨0, by omega, rfl, va1, vc1, G1, by rw [HK.out], by have e := HR1.out; rw [show u8s (threadB (l.take 0)) = u8s (numsB k) ++ [.int .u8 1, .int .u8 0] from by rw [List.take_zero, threadB, u8s_append, u8s_append, HK.out]; simp [u8s, cellsB]]; rw [HK.out] at e ⊢; exact e, HA1.out, mn.adv HS1.out (by decide)⟩
      case round =>
        obtain ⟨k, hk, rfl, va, vc, Gr, rfl, row, ar, mn⟩ := hrel
        have ROW2 := Lib.hid row
        have AR2 := Lib.hid ar
        clear row ar
        by_cases h : k < l.length
        · obtain ⟨x, hx⟩ : ∃ x, l[k]? = some x := ⟨l[k], List.getElem?_eq_getElem h⟩
          obtain ⟨x0, x1⟩ := HL.out x (List.mem_of_getElem? hx)
          have hb : decide ((k : Int) < (l.length : Int)) = true := by simp; omega
          have hw1 : IntKind.wrap .u8 x = x % 256 := wrap_u8_mod x
          have hw2 : IntKind.wrap .u8 (x / 256) = x / 256 := wrap_u8_id _ (by omega) (by omega)
          have hq : Int.tdiv x 256 = x / 256 := Int.tdiv_eq_ediv_of_nonneg x0
          have hwi : IntKind.i64.wrap ((k : Int) + 1) = (k : Int) + 1 := IntWalk.i64_in _ (by omega)
          obtain ⟨b, o, e, hcell, hblt⟩ := (HR.out.adv AR2.out (fun _ _ => by decide)).atU k x hx
          subst e
          have hq16 : IntKind.wrap .u16 (x / 256) = x / 256 := wrap_u16_id _ (by omega) (by omega)
          have AW := Lib.hid (AR2.out.alloc (.cells #[.int .u8 (x % 256), .int .u8 (x / 256)] 5) 9)
          have RN := Lib.hid (Reads.new wr [.int .u8 (x % 256), .int .u8 (x / 256)] 5)
          have RW := Lib.hid (ROW2.out.adv ((Adv.refl (fun _ => False) wr Gr).alloc (.cells #[.int .u8 (x % 256), .int .u8 (x / 256)] 5) 9) id)
          go_wp2_with (first
            | (at_builtin; refine wpList_append_reads rfl (.tmp 25) (.tmp 31) 70 rfl 5 i0 (.int .u8 0) 1 1 Tryd.underlying70 hi hz0 hz1 hz2 rfl (by decide) _ 9 va (130 + 2 * k) vc (u8s (threadB (l.take k))) rfl RW.out (some ⟨wr.heap.size, 0, none⟩) 2 2 [.int .u8 (x % 256), .int .u8 (x / 256)] rfl rfl RN.out (by intro u hu; simp at hu; rcases hu with rfl | rfl <;> rfl) (by unfold maxLen; omega) (by omega) ?_; intro va2 vc2 w2 G2 h1 h2; have HR2 := Lib.hid h1; have HA2 := Lib.hid (AW.out.trans h2); have HS2 := Lib.hid (((Adv.refl (fun o => o = 9) wr Gr).alloc (.cells #[.int .u8 (x % 256), .int .u8 (x / 256)] 5) 9).trans h2); clear h1 h2))
          refine ⟨⟨k + 1, by omega, by simp, va2, vc2, G2, rfl, ?_, HA2.out, mn.adv HS2.out (by decide)⟩, ?_⟩
          · have e := HR2.out
            rw [show u8s (threadB (l.take (k + 1))) = u8s (threadB (l.take k)) ++ [.int .u8 (x % 256), .int .u8 (x / 256)] from by rw [List.take_add_one, hx, Option.toList_some, threadB, cellsB_snoc, ← List.append_assoc, u8s_append]; rfl]
            exact e
          · simp only [intOf]; omega
        · have hb : decide ((k : Int) < (l.length : Int)) = false := by simp; omega
          have hkk : k = l.length := by omega
          subst hkk
          have y0 := mn.cell 0 (.slice none 0 0) rfl
          have y1 := mn.cell 1 (.int .u16 0) rfl
          have y2 := mn.cell 2 (.slice none 0 0) rfl
          have y3 := mn.cell 3 (.slice none 0 0) rfl
          have yf := mn.free
          go_wp2_with fail
          have A5 := ((((AR2.out.setNew (p := ⟨w.heap.size, 0, none⟩) (Nat.le_refl _) (.slice va (130 + 2 * l.length) vc)).setNew (p := ⟨w.heap.size, 1, none⟩) (Nat.le_refl _) (.int .u16 128)).setNew (p := ⟨w.heap.size, 2, none⟩) (Nat.le_refl _) (.slice none 0 0)).setNew (p := ⟨w.heap.size, 3, none⟩) (Nat.le_refl _) (.slice none 0 0))
          have R5 := ROW2.out.adv (own4c (w := wr) (G := Gr) w.heap.size mn.own (.slice va (130 + 2 * l.length) vc) (.int .u16 128) (.slice none 0 0) (.slice none 0 0)) (by decide)
          obtain ⟨a, c, e, _, _, e2⟩ := R5.slice
          cases e
          obtain ⟨g, rfl⟩ := e2 (by omega)
          obtain ⟨f1, f2⟩ := fresh_row A5 R5 G 0
          have hlt := (R5.row.lt g rfl).2
          have hold : w.heap.size ≤ g := Nat.le_of_not_lt fun h => by have := A5.own g h; rw [R5.own g rfl] at this; cases this
          rw [List.take_length] at f2
          exact bodyPost_ret (v := cartV (some ⟨g, 0, none⟩) (130 + 2 * l.length) vc 128 none 0 0 none 0 0) (by simp [results, Tryd.results69, go_sem, cartV, y0, y1, y2, y3]) rfl
            ⟨⟨g, 0, none⟩, vc, _, rfl, f1, f2.reads, f2.own g rfl, hlt, hold⟩
end Go.Proofs.YtdnalhjdmlkbmaaDoor
namespace Go.Proofs.YtdnalhjdmlkbmaaDoor
open Go.RowKit
set_option linter.unusedVariables false
def effC (l : List (Int × Int × Int)) : List Value := l.flatMap fun x => [.int .u16 x.1, .int .i64 x.2.1, .int .i64 x.2.2]
theorem effC_length : ∀ l : List (Int × Int × Int), (effC l).length = l.length * 3
  | [] => rfl
  | x :: l => by rw [effC, List.flatMap_cons, List.length_append, ← effC, effC_length l, List.length_cons]; simp; omega
theorem effC_one (l : List (Int × Int × Int)) : ∀ u ∈ effC l, u.oneCell' = true := by
  intro u hu
  obtain ⟨x, _, hx⟩ := List.mem_flatMap.1 hu
  simp at hx
  rcases hx with rfl | rfl | rfl <;> rfl
theorem infoEff : (Tryd.prog.info? 168).map (fun i => (i.zero, i.size, i.bytes)) = some (some (.agg #[.int .u16 0, .int .i64 0, .int .i64 0]), 3, 24) := by kernel_rfl
theorem BankIn.adv {w w' : World} {G' : Nat → Nat} {S : Nat → Prop} {la : Option Addr} {l : List (Int × List Int)} (h : BankIn w la l) (ha : Adv S w (fun _ => 0) w' G') (h0 : ¬ S 0) : BankIn w' la l := by
  intro k p hp
  obtain ⟨b, o, da, dc, e, h1, h2, h3⟩ := h k p hp
  exact ⟨b, o, da, dc, e, ha.cell_some h1 h0, ha.cell_some h2 h0, h3.adv ha (fun _ _ => h0)⟩
/-- A cart as it lies in memory. -/
structure CartIn (w : World) (ca ea ba : Option Addr) (code : List Int) (effs : List (Int × Int × Int)) (banks : List (Int × List Int)) : Prop where
  code : Reads w ca (u8s code)
  effs : Reads w ea (effC effs)
  banks : BankIn w ba banks
theorem CartIn.adv {w w' : World} {G' : Nat → Nat} {S : Nat → Prop} {ca ea ba : Option Addr} {code : List Int} {effs : List (Int × Int × Int)} {banks : List (Int × List Int)} (h : CartIn w ca ea ba code effs banks) (ha : Adv S w (fun _ => 0) w' G') (h0 : ¬ S 0) : CartIn w' ca ea ba code effs banks :=
  ⟨h.code.adv ha (fun _ _ => h0), h.effs.adv ha (fun _ _ => h0), h.banks.adv ha h0⟩
/-- A list of banks that is being laid. -/
def Laying (w : World) (G : Nat → Nat) (l : List (Int × List Int)) (cs : List Value) : Prop :=
  cs.length = l.length * 2 ∧ (∀ u ∈ cs, u.oneCell' = true) ∧ ∀ (k : Nat) (p : Int × List Int), l[k]? = some p → ∃ da dc, cs[k * 2]? = some (.int .i64 p.1) ∧ cs[k * 2 + 1]? = some (.slice da p.2.length dc) ∧ Reads w da (u8s p.2) ∧ ∀ ad, da = some ad → ad.block < w.heap.size ∧ G ad.block = 8
theorem Laying.nil (w : World) (G : Nat → Nat) : Laying w G [] [] := ⟨rfl, (fun u hu => by cases hu), (fun k p hp => by cases hp)⟩
theorem Laying.adv {w w' : World} {G G' : Nat → Nat} {S : Nat → Prop} {l : List (Int × List Int)} {cs : List Value} (h : Laying w G l cs) (ha : Adv S w G w' G') (h8 : ¬ S 8) : Laying w' G' l cs := by
  refine ⟨h.1, h.2.1, fun k p hp => ?_⟩
  obtain ⟨da, dc, h1, h2, h3, h4⟩ := h.2.2 k p hp
  exact ⟨da, dc, h1, h2, h3.adv ha (fun ad e => by rw [(h4 ad e).2]; exact h8), fun ad e => ⟨Nat.lt_of_lt_of_le (h4 ad e).1 ha.size, (ha.own _ (h4 ad e).1).trans (h4 ad e).2⟩⟩
theorem Laying.snoc {w : World} {G : Nat → Nat} {l : List (Int × List Int)} {cs : List Value} (h : Laying w G l cs) (p : Int × List Int) (da : Option Addr) (dc : Nat) (hr : Reads w da (u8s p.2)) (ho : ∀ ad, da = some ad → ad.block < w.heap.size ∧ G ad.block = 8) :
    Laying w G (l ++ [p]) (cs ++ [.int .i64 p.1, .slice da p.2.length dc]) := by
  refine ⟨by simp [h.1]; omega, fun u hu => ?_, fun k q hq => ?_⟩
  · rcases List.mem_append.1 hu with hu | hu
    · exact h.2.1 u hu
    · simp at hu
      rcases hu with rfl | rfl <;> rfl
  · by_cases hk : k < l.length
    · rw [List.getElem?_append_left hk] at hq
      obtain ⟨a, c, h1, h2, h3, h4⟩ := h.2.2 k q hq
      have hl := h.1
      exact ⟨a, c, by rw [List.getElem?_append_left (by omega)]; exact h1, by rw [List.getElem?_append_left (by omega)]; exact h2, h3, h4⟩
    · rw [List.getElem?_append_right (by omega)] at hq
      obtain ⟨hk0, rfl⟩ : k - l.length = 0 ∧ p = q := by
        cases hz : k - l.length with
        | zero => rw [hz] at hq; exact ⟨rfl, by simpa using hq⟩
        | succ j => rw [hz] at hq; simp at hq
      have hl := h.1
      have e : k = l.length := by omega
      subst e
      exact ⟨da, dc, by rw [List.getElem?_append_right (by omega), hl, Nat.sub_self]; rfl, by rw [List.getElem?_append_right (by omega), show l.length * 2 + 1 - cs.length = 1 from by omega]; rfl, hr, ho⟩
theorem Laying.bankIn {w : World} {G : Nat → Nat} {l : List (Int × List Int)} {cs : List Value} (h : Laying w G l cs) {la : Option Addr} (hr : Reads w la cs) : BankIn w la l := by
  intro k p hp
  obtain ⟨da, dc, h1, h2, h3, -⟩ := h.2.2 k p hp
  rcases hr with hz | ⟨b, o, e, hc⟩
  · rw [hz] at h1; cases h1
  · refine ⟨b, o, da, dc, e, hc _ _ h1, ?_, h3⟩
    have := hc _ _ h2
    rwa [← Nat.add_assoc] at this
theorem Row.adr {e size : Nat} {w : World} {G : Nat → Nat} {i : Nat} {va : Option Addr} {n vc : Nat} {xs : List Value} (h : Row e size w G i (.slice va n vc) n xs) : ∀ ad, va = some ad → ad.block < w.heap.size ∧ G ad.block = i := by
  intro ad e
  rcases h.row.2 with ⟨e1, _⟩ | ⟨g, cap, cur, e1, _⟩
  · cases e1; cases e
  · cases e1; cases e
    exact ⟨(h.row.lt g rfl).2, h.own g rfl⟩
/-- What ownCart answers. -/
def OwnedCart (n m k : Nat) (entry : Int) (code : List Int) (effs : List (Int × Int × Int)) (banks : List (Int × List Int)) (w : World) (G : Nat → Nat) (e : Ending) (w' : World) : Prop :=
  ∃ ca cc ea ec ba bc G', e = .returned (cartV ca n cc entry ea m ec ba k bc) ∧ Adv (fun _ => False) w G w' G' ∧ CartIn w' ca ea ba code effs banks
def SC : Nat → Prop := fun o => o = 7 ∨ o = 9
set_option maxRecDepth 100000 in
set_option maxHeartbeats 4000000 in
theorem ownCart_any (G : Nat → Nat) (ca : Option Addr) (n cc : Nat) (entry : Int) (ea : Option Addr) (m ec : Nat) (ba : Option Addr) (k bc : Nat) (code : List Int) (effs : List (Int × Int × Int)) (banks : List (Int × List Int)) (w : World)
    (hn : code.length = n) (hm : effs.length = m) (hk : banks.length = k) (hc : CartIn w ca ea ba code effs banks) (bn : n ≤ 140737488351232) (bm : m * 24 ≤ 140737488351232) (bk : k * 32 ≤ 140737488351232) (bb : ∀ p ∈ banks, p.2.length ≤ 140737488351232) :
    Calls Tryd.prog 33 #[cartV ca n cc entry ea m ec ba k bc] w (OwnedCart n m k entry code effs banks w G) := by
  obtain ⟨i0, hi, hz0, hz1, hz2⟩ := info_parts infoEff
  obtain ⟨j0, hj, hy0, hy1, hy2⟩ := info_parts infoBank
  have HN := Lib.hid (And.intro hn (And.intro hm hk))
  have HC := Lib.hid hc
  have HB := Lib.hid bb
  have A0 := Lib.hid (((Adv.refl SC w (fun _ => 0)).alloc (.cells #[.slice ca n cc, .int .u16 entry, .slice ea m ec, .slice ba k bc] 74) 1000).alloc (.cells #[.slice none 0 0, .int .u16 0, .slice none 0 0, .slice none 0 0] 74) 1000)
  have M1 := Lib.hid ((Mine.made w (fun _ => 0) w (Nat.le_refl _) #[.slice ca n cc, .int .u16 entry, .slice ea m ec, .slice ba k bc] 74).adv ((Adv.refl (fun _ => False) _ _).alloc (.cells #[.slice none 0 0, .int .u16 0, .slice none 0 0, .slice none 0 0] 74) 1000) id)
  have M2 := Lib.hid (Mine.made (w.alloc (.cells #[.slice ca n cc, .int .u16 entry, .slice ea m ec, .slice ba k bc] 74)) (own1 w (fun _ => 0) 1000) w (by simp) #[.slice none 0 0, .int .u16 0, .slice none 0 0, .slice none 0 0] 74)
  have s0 : ¬ SC 0 := by unfold SC; decide
  have s1k : ¬ SC 1000 := by unfold SC; decide
  clear hn hm hk hc bb
  unfold cartV
  go_enter Tryd.func33, Tryd.ntmps33
  go_wp2_with fail
  obtain ⟨W0, hW0⟩ : ∃ v, v = (w.alloc (.cells #[.slice ca n cc, .int .u16 entry, .slice ea m ec, .slice ba k bc] 74)).alloc (.cells #[.slice none 0 0, .int .u16 0, .slice none 0 0, .slice none 0 0] 74) := ⟨_, rfl⟩
  obtain ⟨G0, hG0⟩ : ∃ v, v = own1 (w.alloc (.cells #[.slice ca n cc, .int .u16 entry, .slice ea m ec, .slice ba k bc] 74)) (own1 w (fun _ => 0) 1000) 1000 := ⟨_, rfl⟩
  rw [show (w.alloc (.cells #[.slice ca n cc, .int .u16 entry, .slice ea m ec, .slice ba k bc] 74)).heap.size = w.heap.size + 1 from by simp] at M2
  rw [← hW0] at A0 M1 M2 ⊢
  rw [← hG0] at A0 M1 M2
  clear hW0 hG0
  refine (own_any 0 G0 ca n cc code HN.out.1 bn _ (HC.out.code.adv A0.out (fun _ _ => s0))).mono ?_
  rintro e w1 ⟨va, vc, G1, rfl, a1, r1⟩
  have A1 := Lib.hid (A0.out.trans (a1.mono (T := SC) fun _ h => h.elim))
  have N1 := Lib.hid (M1.out.adv a1 id)
  have N2 := Lib.hid (M2.out.adv a1 id)
  have y0 := N1.out.cell 0 (.slice ca n cc) rfl
  have yf := N1.out.free
  have x1 := N1.out.set 0 (.slice va n vc)
  have P1 := Lib.hid (x1.2.sett (C' := #[.slice va n vc, .int .u16 entry, .slice ea m ec, .slice ba k bc]) rfl)
  have P2 := Lib.hid (N2.out.other (b2 := w.heap.size) (by omega) 0 (.slice va n vc))
  have R1 := Lib.hid (r1.adv x1.1 (by decide))
  have B1 := Lib.hid (A1.out.setNew (p := ⟨w.heap.size, 0, none⟩) (Nat.le_refl _) (.slice va n vc))
  clear x1 a1 r1 M1 M2
  obtain ⟨W1, hW1⟩ : ∃ v, v = w1.setCell ⟨w.heap.size, 0, none⟩ (.slice va n vc) := ⟨_, rfl⟩
  go_upto_region 2 with fail
  rw [← hW1] at P1 P2 R1 B1 ⊢
  clear hW1 y0 yf N1 N2
  have y2 := P1.out.cell 2 (.slice ea m ec) rfl
  have yf := P1.out.free
  have C1 := Lib.hid (B1.out.alloc (.cells #[] 168) 7)
  have E1 := Lib.hid (Row.new W1 G1 168 3 7 0 [] (Nat.zero_le _) rfl)
  have X1 := Lib.hid ((HC.out.effs.adv B1.out (fun _ _ => s0)).alloc (.cells #[] 168))
  have Q1 := Lib.hid (P1.out.adv ((Adv.refl (fun _ => False) W1 G1).alloc (.cells #[] 168) 7) id)
  have Q2 := Lib.hid (P2.out.adv ((Adv.refl (fun _ => False) W1 G1).alloc (.cells #[] 168) 7) id)
  have S1 := Lib.hid (R1.out.adv ((Adv.refl (fun _ => False) W1 G1).alloc (.cells #[] 168) 7) id)
  have y2 := Q1.out.cell 2 (.slice ea m ec) rfl
  go_upto_region 3 with (first
    | (at_builtin; refine wpList_append_reads rfl (.tmp 10) (.tmp 12) 71 rfl 168 i0 (.agg #[.int .u16 0, .int .i64 0, .int .i64 0]) 3 24 Tryd.underlying71 hi hz0 hz1 hz2 rfl (by decide) _ 7 (some ⟨W1.heap.size, 0, none⟩) 0 0 [] rfl E1.out ea m ec (effC effs) rfl (by rw [effC_length, HN.out.2.1]) X1.out (effC_one effs) (by unfold maxLen; omega) (by omega) ?_; intro va2 vc2 w2 G2 h1 h2; rw [Nat.zero_add, List.nil_append] at h1; rw [Nat.zero_add]; have E2 := Lib.hid h1; have C2 := Lib.hid (C1.out.trans (h2.mono (T := SC) fun _ h => .inl h)); have T1 := Lib.hid (Q1.out.adv h2 (by decide)); have T2 := Lib.hid (Q2.out.adv h2 (by decide)); have S2 := Lib.hid (S1.out.adv h2 (by decide)); have tf := T1.out.free; have ty := T1.out.cell 2 (.slice ea m ec) rfl; clear h1 h2))
  have x2 := T1.out.set 2 (.slice va2 m vc2)
  have P3 := Lib.hid (x2.2.sett (C' := #[.slice va n vc, .int .u16 entry, .slice va2 m vc2, .slice ba k bc]) rfl)
  have P4 := Lib.hid (T2.out.other (b2 := w.heap.size) (by omega) 2 (.slice va2 m vc2))
  have R3 := Lib.hid (S2.out.adv x2.1 (by decide))
  have E3 := Lib.hid (E2.out.adv x2.1 (by decide))
  have B3 := Lib.hid (C2.out.setNew (p := ⟨w.heap.size, 2, none⟩) (Nat.le_refl _) (.slice va2 m vc2))
  obtain ⟨W3, hW3⟩ : ∃ v, v = w2.setCell ⟨w.heap.size, 2, none⟩ (.slice va2 m vc2) := ⟨_, rfl⟩
  rw [← hW3] at P3 P4 R3 B3 E3 ⊢
  clear hW3 x2 y2 yf tf ty T1 T2 S2 E2 C2 Q1 Q2 S1 E1 X1 C1 P1 P2 R1 B1
  have y3 := P3.out.cell 3 (.slice ba k bc) rfl
  go_wp2_with fail
  go_loopw [3, 18] (fun vb vi wr => ∃ j : Nat, j ≤ k ∧ vi = .int .i64 j ∧ ∃ da dc cs Gr, vb = .slice da j dc ∧ Row 106 2 wr Gr 9 (.slice da j dc) j cs ∧ Laying wr Gr (banks.take j) cs ∧ Adv SC w (fun _ => 0) wr Gr ∧
      Mine w wr Gr w.heap.size #[.slice va n vc, .int .u16 entry, .slice va2 m vc2, .slice ba k bc] 74 ∧ Mine w wr Gr (w.heap.size + 1) #[.slice none 0 0, .int .u16 0, .slice none 0 0, .slice none 0 0] 74 ∧ Row 5 1 wr Gr 0 (.slice va n vc) n (u8s code) ∧ Row 168 3 wr Gr 7 (.slice va2 m vc2) m (effC effs)) (fun _ vi _ => k - (intOf vi).toNat)
  case atStart => exact ⟨0, by omega, rfl, none, 0, [], _, rfl, Row.nil _ _ _ _ _, Laying.nil _ _, B3.out, P3.out, P4.out, R3.out, E3.out⟩
  case round =>
    obtain ⟨j, hj0, rfl, da, dc, cs, Gr, rfl, rw9, la, ar, m1, m2, rc, re⟩ := hrel
    have ROW := Lib.hid rw9
    have LA := Lib.hid la
    have AR := Lib.hid ar
    have M1 := Lib.hid m1
    have M2 := Lib.hid m2
    have RC := Lib.hid rc
    have RE := Lib.hid re
    clear rw9 la ar m1 m2 rc re y3 P3 P4 R3 E3 B3
    by_cases h : j < k
    · have hb : decide ((j : Int) < (k : Int)) = true := by simp; omega
      have hkl := HN.out.2.2
      obtain ⟨x, hx⟩ : ∃ x, banks[j]? = some x := ⟨banks[j], List.getElem?_eq_getElem (by omega)⟩
      obtain ⟨b, o, xa, xc, e, c0, c1, rx⟩ := (HC.out.banks.adv AR.out s0) j x hx
      subst e
      have HX := Lib.hid hx
      have RX := Lib.hid rx
      have hlen : x.2.length ≤ 140737488351232 := HB.out x (List.mem_of_getElem? hx)
      have hwi : IntKind.i64.wrap ((j : Int) + 1) = (j : Int) + 1 := IntWalk.i64_in _ (by omega)
      clear hx rx hkl
      go_upto_region 7 with fail
      obtain ⟨wb, hwb⟩ : ∃ v, v = wr.alloc (.cells #[.int .i64 x.1, .slice xa x.2.length xc] 106) := ⟨_, rfl⟩
      obtain ⟨Gb, hGb⟩ : ∃ v, v = own1 wr Gr 1000 := ⟨_, rfl⟩
      obtain ⟨b5, hb5⟩ : ∃ v, v = wr.heap.size := ⟨_, rfl⟩
      have al : Adv (fun _ => False) wr Gr wb.drew Gb := by rw [hwb, hGb]; exact ((Adv.refl (fun _ => False) wr Gr).alloc (.cells #[.int .i64 x.1, .slice xa x.2.length xc] 106) 1000).drew
      have mb : Mine w wb.drew Gb b5 #[.int .i64 x.1, .slice xa x.2.length xc] 106 := by rw [hwb, hGb, hb5]; exact (Mine.made wr Gr w AR.out.size #[.int .i64 x.1, .slice xa x.2.length xc] 106).drew
      rw [← hwb, ← hb5]
      clear hwb hGb hb5
      have AL := Lib.hid al
      have RX1 := Lib.hid (RX.out.adv al (fun _ _ => id))
      have q0 := mb.cell 0 (.int .i64 x.1) rfl
      have q1 := mb.cell 1 (.slice xa x.2.length xc) rfl
      have KK := Lib.hid (show ∀ (w' : World) (G' : Nat → Nat), Adv (fun _ => False) wb.drew Gb w' G' → w'.cell? ⟨b5, 0, none⟩ = some (.int .i64 x.1) ∧ w'.cell? ⟨b5, 1, none⟩ = some (.slice xa x.2.length xc) from fun w' G' h => ⟨h.cell_some q0 id, h.cell_some q1 id⟩)
      have KM := Lib.hid mb
      clear al mb
      go_region_held3 (fun w' => w'.cell? ⟨b5, 0, none⟩ = some (.int .i64 x.1) ∧ w'.cell? ⟨b5, 1, none⟩ = some (.slice xa x.2.length xc)) (first | with_reducible exact ⟨q0, q1⟩ | with_reducible exact Q4.out | with_reducible exact Q5.out | with_reducible exact Q6.out)
        (first | (go_at_call 68; refine (own_any 8 Gb xa x.2.length xc x.2 rfl hlen _ RX1.out).mono ?_; rintro e w5 ⟨ya, yc, G5, rfl, a5, r5⟩; have A5 := Lib.hid a5; have R5 := Lib.hid r5; have Q4 := Lib.hid (KK.out _ _ a5); have a6 := a5.alloc (.cells #[.int .i64 x.1, .slice ya x.2.length yc] 106) 1000; have A6 := Lib.hid a6; have Q5 := Lib.hid (KK.out _ _ a6); have ROW6 := Lib.hid (ROW.out.adv (AL.out.trans a6) id); clear a5 r5 a6) | (refine step_append_row rfl (.tmp 22) (.tmp 29) 72 rfl 106 j0 (.agg #[.int .i64 0, .slice none 0 0]) 2 32 Tryd.underlying72 hj hy0 hy1 hy2 rfl (by decide) (own1 w5 G5 1000) 9 da j dc cs rfl ROW6.out ⟨w5.heap.size, 0, none⟩ 1 1 [.int .i64 x.1, .slice ya x.2.length yc] rfl rfl (new_cells w5 _ _) (by intro u hu; simp at hu; rcases hu with rfl | rfl <;> rfl) (by unfold maxLen; omega) (by omega) ?_; intro va3 vc3 w7 G7 h1 h2; have ROW7 := Lib.hid h1; have A7 := Lib.hid h2; have Q6 := Lib.hid (And.intro ((KM.out.adv A6.out id).adv h2 (by decide) |>.cell 0 (.int .i64 x.1) rfl) ((KM.out.adv A6.out id).adv h2 (by decide) |>.cell 1 (.slice xa x.2.length xc) rfl)); clear h1 h2))
      go_wp2_with fail
      have a9 : Adv (fun o => o = 9) wr Gr w7 G7 := ((AL.out.trans A6.out).mono fun _ h => h.elim).trans A7.out
      have r7 := (R5.out.adv (S := fun _ => False) ((Adv.refl (fun _ => False) w5 G5).alloc (.cells #[.int .i64 x.1, .slice ya x.2.length yc] 106) 1000) id).adv A7.out (by decide)
      have lay := (LA.out.adv a9 (by decide)).snoc x ya yc r7.reads r7.adr
      refine ⟨⟨j + 1, by omega, by simp, va3, vc3, _, G7, rfl, ROW7.out, ?_, AR.out.trans (a9.mono fun _ h => .inr h), M1.out.adv a9 (by decide), M2.out.adv a9 (by decide), RC.out.adv a9 (by decide), RE.out.adv a9 (by decide)⟩, by simp only [intOf]; omega⟩
      rw [List.take_add_one, HX.out, Option.toList_some]
      exact lay
    · have hb : decide ((j : Int) < (k : Int)) = false := by simp; omega
      have HJ := Lib.hid (show j = k by omega)
      have y3 := M1.out.cell 3 (.slice ba k bc) rfl
      have yf := M1.out.free
      have x3 := M1.out.set 3 (.slice da j dc)
      have P5 := Lib.hid (x3.2.sett (C' := #[.slice va n vc, .int .u16 entry, .slice va2 m vc2, .slice da j dc]) rfl)
      have P6 := Lib.hid (M2.out.other (b2 := w.heap.size) (by omega) 3 (.slice da j dc))
      have A5 := Lib.hid (AR.out.setNew (p := ⟨w.heap.size, 3, none⟩) (Nat.le_refl _) (.slice da j dc))
      have RC5 := Lib.hid (RC.out.adv x3.1 (by decide))
      have RE5 := Lib.hid (RE.out.adv x3.1 (by decide))
      have RB5 := Lib.hid (ROW.out.adv x3.1 (by decide))
      have LA5 := Lib.hid (LA.out.adv x3.1 (by decide))
      clear x3
      go_upto_region 10 with fail
      obtain ⟨W5, hW5⟩ : ∃ v, v = wr.setCell ⟨w.heap.size, 3, none⟩ (.slice da j dc) := ⟨_, rfl⟩
      rw [← hW5] at P5 P6 A5 RC5 RE5 RB5 LA5 ⊢
      clear hW5 y3 yf M1 M2 RC RE ROW LA AR
      have z0 := P5.out.cell 0 (.slice va n vc) rfl
      have z1 := P5.out.cell 1 (.int .u16 entry) rfl
      have z2 := P5.out.cell 2 (.slice va2 m vc2) rfl
      have z3 := P5.out.cell 3 (.slice da j dc) rfl
      have y0 := P6.out.cell 0 (.slice none 0 0) rfl
      have y1 := P6.out.cell 1 (.int .u16 0) rfl
      have y2 := P6.out.cell 2 (.slice none 0 0) rfl
      have y3 := P6.out.cell 3 (.slice none 0 0) rfl
      have yf := P6.out.free
      go_wp2_with fail
      have o4 := own4c (w := W5) (G := Gr) (w.heap.size + 1) P6.out.own (.slice va n vc) (.int .u16 entry) (.slice va2 m vc2) (.slice da j dc)
      have A6 := ((((A5.out.setNew (p := ⟨w.heap.size + 1, 0, none⟩) (Nat.le_succ _) (.slice va n vc)).setNew (p := ⟨w.heap.size + 1, 1, none⟩) (Nat.le_succ _) (.int .u16 entry)).setNew (p := ⟨w.heap.size + 1, 2, none⟩) (Nat.le_succ _) (.slice va2 m vc2)).setNew (p := ⟨w.heap.size + 1, 3, none⟩) (Nat.le_succ _) (.slice da j dc))
      have hla := (LA5.out.adv o4 (by decide)).bankIn (RB5.out.adv o4 (by decide)).reads
      rw [show banks.take j = banks from by rw [HJ.out, ← HN.out.2.2, List.take_length]] at hla
      exact bodyPost_ret (v := cartV va n vc entry va2 m vc2 da k dc) (by simp [results, Tryd.results33, go_sem, cartV, y0, y1, y2, y3, HJ.out]) rfl
        ⟨va, vc, va2, vc2, da, dc, _, rfl, joined_adv A6 s0, ⟨(RC5.out.adv o4 (by decide)).reads, (RE5.out.adv o4 (by decide)).reads, hla⟩⟩
end Go.Proofs.YtdnalhjdmlkbmaaDoor
namespace Go.Proofs.YtdnalhjdmlkbmaaDoor
open Go.RowKit
set_option linter.unusedVariables false
def withinB (x y : Int) : Bool := decide (0 ≤ x) && decide (x ≤ y)
theorem within_any (x y : Int) (w : World) : Calls Tryd.prog 82 #[.int .i64 x, .int .i64 y] w fun e w' => e = .returned (.bool (withinB x y)) ∧ w' = w := by
  by_cases h : 0 ≤ x
  · have h1 : decide (0 ≤ x) = true := by simpa using h
    go_enter Tryd.func82, Tryd.ntmps82
    go_wp2
    go_ret
    exact ⟨by simp [withinB, h], rfl⟩
  · have h1 : decide (0 ≤ x) = false := by simpa using h
    go_enter Tryd.func82, Tryd.ntmps82
    go_wp2
    go_ret
    exact ⟨by simp [withinB]; omega, rfl⟩
/-- Is the k-th effect one that may not be? The k-th bank? -/
def effBad (l : List (Int × Int × Int)) (k : Nat) : Bool := match l[k]? with
  | none => false
  | some x => !withinB x.2.1 256 || (!withinB x.2.2 256 || (decide (0 < k) && decide (x.1 ≤ (l.getD (k - 1) (0, 0, 0)).1)))
def bankBad (l : List (Int × List Int)) (k : Nat) : Bool := match l[k]? with
  | none => false
  | some x => !withinB x.1 15 || (decide (16384 < (x.2.length : Int)) || (decide (0 < k) && decide (x.1 ≤ (l.getD (k - 1) (0, [])).1)))
def headBad (n m : Nat) : Bool := decide (n % 2 ≠ 0) || (decide (16384 < n) || decide (8192 < m))
/-- What Check answers. -/
def checkF (n : Nat) (effs : List (Int × Int × Int)) (banks : List (Int × List Int)) : Int :=
  if headBad n effs.length = true then 74 else if (List.range effs.length).any (effBad effs) = true then 74 else if (List.range banks.length).any (bankBad banks) = true then 74 else 0
theorem Mine.drewN {w0 w : World} {G : Nat → Nat} {b : Nat} {C : Array Value} {T : TypeId} (h : Mine w0 w G b C T) (n : Nat) : Mine w0 (w.drewN n) G b C T := by
  induction n with
  | zero => exact h
  | succ n ih => exact ih.drew
theorem BankIn.keep {w w' : World} {G G' : Nat → Nat} {la : Option Addr} {l : List (Int × List Int)} (h : BankIn w la l) (ha : Adv (fun _ => False) w G w' G') : BankIn w' la l := by
  intro k p hp
  obtain ⟨b, o, da, dc, e, h1, h2, h3⟩ := h k p hp
  exact ⟨b, o, da, dc, e, ha.cell_some h1 id, ha.cell_some h2 id, h3.adv ha (fun _ _ => id)⟩
theorem Reads.atF {w : World} {a : Option Addr} {l : List (Int × Int × Int)} (h : Reads w a (effC l)) (k : Nat) (x : Int × Int × Int) (hk : l[k]? = .some x) : ∃ b o, a = .some ⟨b, o, none⟩ ∧ w.cell? ⟨b, o + k * 3, none⟩ = .some (.int .u16 x.1) ∧ w.cell? ⟨b, o + k * 3 + 1, none⟩ = .some (.int .i64 x.2.1) ∧ w.cell? ⟨b, o + k * 3 + 2, none⟩ = .some (.int .i64 x.2.2) := by
  have hc : ∀ (l : List (Int × Int × Int)) (k : Nat), l[k]? = .some x → (effC l)[k * 3]? = .some (.int .u16 x.1) ∧ (effC l)[k * 3 + 1]? = .some (.int .i64 x.2.1) ∧ (effC l)[k * 3 + 2]? = .some (.int .i64 x.2.2) := by
    intro l
    induction l with
    | nil => intro k h; cases h
    | cons y l ih =>
      intro k h
      cases k with
      | zero => cases h; exact ⟨rfl, rfl, rfl⟩
      | succ k =>
        have e : effC (y :: l) = [.int .u16 y.1, .int .i64 y.2.1, .int .i64 y.2.2] ++ effC l := by simp [effC]
        have := ih k h
        rw [e]
        refine ⟨?_, ?_, ?_⟩
        · rw [List.getElem?_append_right (by simp; omega)]; rw [show (k + 1) * 3 - [Value.int IntKind.u16 y.1, .int .i64 y.2.1, .int .i64 y.2.2].length = k * 3 from by simp; omega]; exact this.1
        · rw [List.getElem?_append_right (by simp; omega)]; rw [show (k + 1) * 3 + 1 - [Value.int IntKind.u16 y.1, .int .i64 y.2.1, .int .i64 y.2.2].length = k * 3 + 1 from by simp; omega]; exact this.2.1
        · rw [List.getElem?_append_right (by simp; omega)]; rw [show (k + 1) * 3 + 2 - [Value.int IntKind.u16 y.1, .int .i64 y.2.1, .int .i64 y.2.2].length = k * 3 + 2 from by simp; omega]; exact this.2.2
  obtain ⟨h1, h2, h3⟩ := hc l k hk
  rcases h with hz | ⟨b, o, e, hh⟩
  · rw [hz] at h1; cases h1
  · refine ⟨b, o, e, hh _ _ h1, ?_, ?_⟩
    · have := hh _ _ h2; rwa [← Nat.add_assoc] at this
    · have := hh _ _ h3; rwa [← Nat.add_assoc] at this
set_option maxRecDepth 100000 in
set_option maxHeartbeats 4000000 in
theorem check_any (G : Nat → Nat) (ca : Option Addr) (n cc : Nat) (entry : Int) (ea : Option Addr) (m ec : Nat) (ba : Option Addr) (k bc : Nat) (effs : List (Int × Int × Int)) (banks : List (Int × List Int)) (w : World)
    (hm : effs.length = m) (hk : banks.length = k) (he : Reads w ea (effC effs)) (hb : BankIn w ba banks) (bn : n ≤ 140737488351232) (bm : m * 24 ≤ 140737488351232) (bk : k * 32 ≤ 140737488351232) (bb : ∀ p ∈ banks, p.2.length ≤ 140737488351232) :
    Calls Tryd.prog 67 #[cartV ca n cc entry ea m ec ba k bc] w (Looked w G (.int .i64 (checkF n effs banks))) := by
  have HE := Lib.hid he
  have HB := Lib.hid hb
  have HM := Lib.hid hm
  have HK := Lib.hid hk
  have BB := Lib.hid bb
  have A0 := Lib.hid ((Adv.refl (fun _ => False) w G).alloc (.cells #[.slice ca n cc, .int .u16 entry, .slice ea m ec, .slice ba k bc] 74) 1000)
  have M0 := Lib.hid (Mine.made w G w (Nat.le_refl _) #[.slice ca n cc, .int .u16 entry, .slice ea m ec, .slice ba k bc] 74)
  clear he hb hm hk bb
  unfold cartV
  by_cases h1 : n % 2 = 0
  · by_cases h2 : n ≤ 16384
    · by_cases h3 : m ≤ 8192
      · have t0 : Int.tmod (n : Int) 2 = 0 := by rw [Int.tmod_eq_emod_of_nonneg (by omega)]; omega
        have t1 : decide (16384 < (n : Int)) = false := by simp; omega
        have t2 : decide (8192 < (m : Int)) = false := by simp; omega
        have hhead : headBad n effs.length = false := by simp [headBad, HM.out]; omega
        have HH := Lib.hid hhead
        clear hhead
        go_enter Tryd.func67, Tryd.ntmps67
        go_wp2_with fail
        clear t0 t1 t2 h1 h2
        go_loopw [27] (fun vi wr => ∃ j : Nat, j ≤ m ∧ vi = .int .i64 j ∧ ∃ Gr, Adv (fun _ => False) w G wr Gr ∧ Mine w wr Gr w.heap.size #[.slice ca n cc, .int .u16 entry, .slice ea m ec, .slice ba k bc] 74 ∧ (∀ i, i < j → effBad effs i = false)) (fun vi _ => m - (intOf vi).toNat)
        case atStart => exact ⟨0, by omega, rfl, _, A0.out, M0.out, fun i hi => by omega⟩
        case round =>
          obtain ⟨j, hj0, rfl, Gr, ar, mn, hgood⟩ := hrel
          have AR := Lib.hid ar
          have MN := Lib.hid mn
          have HG := Lib.hid hgood
          clear ar mn hgood
          by_cases h : j < m
          · have hd : decide ((j : Int) < (m : Int)) = true := by simp; omega
            have hml := HM.out
            obtain ⟨x, hx⟩ : ∃ x, effs[j]? = some x := ⟨effs[j], List.getElem?_eq_getElem (by omega)⟩
            obtain ⟨b, o, e, c0, c1, c2⟩ := (HE.out.adv AR.out (fun _ _ => id)).atF j x hx
            subst e
            have HX := Lib.hid hx
            have hwi : IntKind.i64.wrap ((j : Int) + 1) = (j : Int) + 1 := IntWalk.i64_in _ (by omega)
            clear hx hml
            go_upto_region 6 with fail
            have A1 := Lib.hid (AR.out.alloc (.cells #[.int .u16 x.1, .int .i64 x.2.1, .int .i64 x.2.2] 168) 1000)
            have M1 := Lib.hid (MN.out.adv (S := fun _ => False) ((Adv.refl _ wr Gr).alloc (.cells #[.int .u16 x.1, .int .i64 x.2.1, .int .i64 x.2.2] 168) 1000) id)
            have m1 := Mine.made wr Gr w AR.out.size #[.int .u16 x.1, .int .i64 x.2.1, .int .i64 x.2.2] 168
            obtain ⟨wb, hwb⟩ : ∃ v, v = wr.alloc (.cells #[.int .u16 x.1, .int .i64 x.2.1, .int .i64 x.2.2] 168) := ⟨_, rfl⟩
            obtain ⟨Gb, hGb⟩ : ∃ v, v = own1 wr Gr 1000 := ⟨_, rfl⟩
            obtain ⟨b5, hb5⟩ : ∃ v, v = wr.heap.size := ⟨_, rfl⟩
            rw [← hwb] at A1 M1 m1 ⊢
            rw [← hGb] at A1 M1 m1
            rw [← hb5] at m1 ⊢
            clear hwb hGb hb5 c0 c1 c2
            have z0 := m1.cell 0 (.int .u16 x.1) rfl
            have z1 := m1.cell 1 (.int .i64 x.2.1) rfl
            have z2 := m1.cell 2 (.int .i64 x.2.2) rfl
            have y2 := M1.out.cell 2 (.slice (some ⟨b, o, none⟩) m ec) rfl
            clear m1
            have BADC := Lib.hid (fun (hbad : effBad effs j = true) => (show checkF n effs banks = 74 from by
              unfold checkF
              rw [HH.out, if_neg (by decide), if_pos (List.any_eq_true.2 ⟨j, List.mem_range.2 (by rw [HM.out]; exact h), hbad⟩)]))
            have BADE := Lib.hid (show effBad effs j = (!withinB x.2.1 256 || (!withinB x.2.2 256 || (decide (0 < j) && decide (x.1 ≤ (effs.getD (j - 1) (0, 0, 0)).1)))) from by unfold effBad; rw [HX.out])
            by_cases g1 : withinB x.2.1 256 = true
            · by_cases g2 : withinB x.2.2 256 = true
              · by_cases g3 : 0 < j
                · have d3 : decide ((0 : Int) < (j : Int)) = true := by simp; omega
                  obtain ⟨k', hk'⟩ : ∃ k', j = k' + 1 := ⟨j - 1, by omega⟩
                  have hml := HM.out
                  obtain ⟨q, hq⟩ : ∃ q, effs[k']? = some q := ⟨effs[k'], List.getElem?_eq_getElem (by omega)⟩
                  obtain ⟨b', o', e', p0, -, -⟩ := (HE.out.adv A1.out (fun _ _ => id)).atF k' q hq
                  cases e'
                  have hgd : effs.getD (j - 1) (0, 0, 0) = q := by rw [hk', Nat.add_sub_cancel, List.getD_eq_getElem?_getD, hq]; rfl
                  have HGD := Lib.hid hgd
                  have hw1 : IntKind.i64.wrap ((j : Int) - 1) = (k' : Int) := by rw [IntWalk.i64_in _ (by omega)]; omega
                  have hkm : k' < m := by omega
                  have HK' := Lib.hid hk'
                  clear hgd hq hml hk'
                  by_cases g4 : x.1 ≤ q.1
                  · have d4 : decide (x.1 ≤ q.1) = true := by simpa using g4
                    go_quiet (first | (go_at_call 82; refine Calls.quiet_of_same (within_any _ _ _)))
                    go_wp2_with fail
                    go_ret
                    exact ⟨by rw [BADC.out (by rw [BADE.out, g1, g2, HGD.out]; simp [g3, g4])]; rfl, _, A1.out.drewN _⟩
                  · have d4 : decide (x.1 ≤ q.1) = false := by simpa using g4
                    go_quiet (first | (go_at_call 82; refine Calls.quiet_of_same (within_any _ _ _)))
                    go_wp2_with fail
                    refine ⟨⟨j + 1, by omega, by simp, Gb, A1.out.drewN _, M1.out.drewN _, fun i hi => ?_⟩, by simp only [intOf]; omega⟩
                    by_cases hij : i < j
                    · exact HG.out i hij
                    · obtain rfl : i = j := by omega
                      rw [BADE.out, g1, g2, HGD.out]; simp [g4]
                · have d3 : decide ((0 : Int) < (j : Int)) = false := by simp; omega
                  go_quiet (first | (go_at_call 82; refine Calls.quiet_of_same (within_any _ _ _)))
                  go_wp2_with fail
                  refine ⟨⟨j + 1, by omega, by simp, Gb, A1.out.drewN _, M1.out.drewN _, fun i hi => ?_⟩, by simp only [intOf]; omega⟩
                  by_cases hij : i < j
                  · exact HG.out i hij
                  · obtain rfl : i = j := by omega
                    rw [BADE.out, g1, g2]; simp [g3]
              · have g2 : withinB x.2.2 256 = false := by simpa using g2
                go_quiet (first | (go_at_call 82; refine Calls.quiet_of_same (within_any _ _ _)))
                go_wp2_with fail
                go_ret
                exact ⟨by rw [BADC.out (by rw [BADE.out, g1, g2]; rfl)]; rfl, _, A1.out.drewN _⟩
            · have g1 : withinB x.2.1 256 = false := by simpa using g1
              go_quiet (first | (go_at_call 82; refine Calls.quiet_of_same (within_any _ _ _)))
              go_wp2_with fail
              go_ret
              exact ⟨by rw [BADC.out (by rw [BADE.out, g1]; rfl)]; rfl, _, A1.out.drewN _⟩
          · have hd : decide ((j : Int) < (m : Int)) = false := by simp; omega
            have HJ := Lib.hid (show j = m by omega)
            have q3 := MN.out.cell 3 (.slice ba k bc) rfl
            have GOODE := Lib.hid (show (List.range effs.length).any (effBad effs) = false from by
              rw [List.any_eq_false]
              intro i hi
              have hi := List.mem_range.1 hi
              rw [HM.out, ← HJ.out] at hi
              rw [HG.out i hi]; decide)
            have A2 := AR
            have M2 := MN
            clear AR MN HG
            go_wp2_with fail
            clear q3
            go_loopw [62] (fun vi wr => ∃ j : Nat, j ≤ k ∧ vi = .int .i64 j ∧ ∃ Gr, Adv (fun _ => False) w G wr Gr ∧ Mine w wr Gr w.heap.size #[.slice ca n cc, .int .u16 entry, .slice ea m ec, .slice ba k bc] 74 ∧ (∀ i, i < j → bankBad banks i = false)) (fun vi _ => k - (intOf vi).toNat)
            case atStart => exact ⟨0, by omega, rfl, _, A2.out, M2.out, fun i hi => by omega⟩
            case round =>
              clear A2 M2 hd h HJ
              obtain ⟨j, hj0, rfl, Gr, ar, mn, hgood⟩ := hrel
              have AR := Lib.hid ar
              have MN := Lib.hid mn
              have HGB := Lib.hid hgood
              clear ar mn hgood
              by_cases h : j < k
              · have hd : decide ((j : Int) < (k : Int)) = true := by simp; omega
                have hml := HK.out
                obtain ⟨x, hx⟩ : ∃ x, banks[j]? = some x := ⟨banks[j], List.getElem?_eq_getElem (by omega)⟩
                obtain ⟨b, o, xa, xc, e, c0, c1, rx⟩ := (HB.out.keep AR.out) j x hx
                subst e
                have HX := Lib.hid hx
                have hxl := BB.out x (List.mem_of_getElem? hx)
                have hwi : IntKind.i64.wrap ((j : Int) + 1) = (j : Int) + 1 := IntWalk.i64_in _ (by omega)
                clear hx hml rx
                go_upto_region 12 with fail
                have A1 := Lib.hid (AR.out.alloc (.cells #[.int .i64 x.1, .slice xa x.2.length xc] 106) 1000)
                have M1 := Lib.hid (MN.out.adv (S := fun _ => False) ((Adv.refl _ wr Gr).alloc (.cells #[.int .i64 x.1, .slice xa x.2.length xc] 106) 1000) id)
                have m1 := Mine.made wr Gr w AR.out.size #[.int .i64 x.1, .slice xa x.2.length xc] 106
                obtain ⟨wb, hwb⟩ : ∃ v, v = wr.alloc (.cells #[.int .i64 x.1, .slice xa x.2.length xc] 106) := ⟨_, rfl⟩
                obtain ⟨Gb, hGb⟩ : ∃ v, v = own1 wr Gr 1000 := ⟨_, rfl⟩
                obtain ⟨b5, hb5⟩ : ∃ v, v = wr.heap.size := ⟨_, rfl⟩
                rw [← hwb] at A1 M1 m1 ⊢
                rw [← hGb] at A1 M1 m1
                rw [← hb5] at m1 ⊢
                clear hwb hGb hb5 c0 c1
                have z0 := m1.cell 0 (.int .i64 x.1) rfl
                have z1 := m1.cell 1 (.slice xa x.2.length xc) rfl
                have y3 := M1.out.cell 3 (.slice (some ⟨b, o, none⟩) k bc) rfl
                clear m1
                have BADC := Lib.hid (fun (hbad : bankBad banks j = true) => (show checkF n effs banks = 74 from by
                  unfold checkF
                  rw [HH.out, if_neg (by decide), GOODE.out, if_neg (by decide), if_pos (List.any_eq_true.2 ⟨j, List.mem_range.2 (by rw [HK.out]; exact h), hbad⟩)]))
                have BADE := Lib.hid (show bankBad banks j = (!withinB x.1 15 || (decide (16384 < (x.2.length : Int)) || (decide (0 < j) && decide (x.1 ≤ (banks.getD (j - 1) (0, [])).1)))) from by unfold bankBad; rw [HX.out])
                by_cases g1 : withinB x.1 15 = true
                · by_cases g2 : 16384 < (x.2.length : Int)
                  · have d2 : decide (16384 < (x.2.length : Int)) = true := by simpa using g2
                    go_quiet (first | (go_at_call 82; refine Calls.quiet_of_same (within_any _ _ _)))
                    go_wp2_with fail
                    go_ret
                    exact ⟨by rw [BADC.out (by rw [BADE.out, g1, d2]; rfl)]; rfl, _, A1.out.drewN _⟩
                  · have d2 : decide (16384 < (x.2.length : Int)) = false := by simpa using g2
                    by_cases g3 : 0 < j
                    · have d3 : decide ((0 : Int) < (j : Int)) = true := by simp; omega
                      obtain ⟨k', hk'⟩ : ∃ k', j = k' + 1 := ⟨j - 1, by omega⟩
                      have hml := HK.out
                      obtain ⟨q, hq⟩ : ∃ q, banks[k']? = some q := ⟨banks[k'], List.getElem?_eq_getElem (by omega)⟩
                      obtain ⟨b', o', ya, yc, e', p0, -, -⟩ := (HB.out.keep A1.out) k' q hq
                      cases e'
                      have hgd : banks.getD (j - 1) (0, []) = q := by rw [hk', Nat.add_sub_cancel, List.getD_eq_getElem?_getD, hq]; rfl
                      have HGD := Lib.hid hgd
                      have hw1 : IntKind.i64.wrap ((j : Int) - 1) = (k' : Int) := by rw [IntWalk.i64_in _ (by omega)]; omega
                      have hkm : k' < k := by omega
                      have HK' := Lib.hid hk'
                      clear hgd hq hml hk'
                      by_cases g4 : x.1 ≤ q.1
                      · have d4 : decide (x.1 ≤ q.1) = true := by simpa using g4
                        go_quiet (first | (go_at_call 82; refine Calls.quiet_of_same (within_any _ _ _)))
                        go_wp2_with fail
                        go_ret
                        exact ⟨by rw [BADC.out (by rw [BADE.out, g1, d2, HGD.out]; simp [g3, g4])]; rfl, _, A1.out.drewN _⟩
                      · have d4 : decide (x.1 ≤ q.1) = false := by simpa using g4
                        go_quiet (first | (go_at_call 82; refine Calls.quiet_of_same (within_any _ _ _)))
                        go_wp2_with fail
                        refine ⟨⟨j + 1, by omega, by simp, Gb, A1.out.drewN _, M1.out.drewN _, fun i hi => ?_⟩, by simp only [intOf]; omega⟩
                        by_cases hij : i < j
                        · exact HGB.out i hij
                        · obtain rfl : i = j := by omega
                          rw [BADE.out, g1, d2, HGD.out]; simp [g4]
                    · have d3 : decide ((0 : Int) < (j : Int)) = false := by simp; omega
                      go_quiet (first | (go_at_call 82; refine Calls.quiet_of_same (within_any _ _ _)))
                      go_wp2_with fail
                      refine ⟨⟨j + 1, by omega, by simp, Gb, A1.out.drewN _, M1.out.drewN _, fun i hi => ?_⟩, by simp only [intOf]; omega⟩
                      by_cases hij : i < j
                      · exact HGB.out i hij
                      · obtain rfl : i = j := by omega
                        rw [BADE.out, g1, d2]; simp [g3]
                · have g1 : withinB x.1 15 = false := by simpa using g1
                  go_quiet (first | (go_at_call 82; refine Calls.quiet_of_same (within_any _ _ _)))
                  go_wp2_with fail
                  go_ret
                  exact ⟨by rw [BADC.out (by rw [BADE.out, g1]; rfl)]; rfl, _, A1.out.drewN _⟩
              · have hd : decide ((j : Int) < (k : Int)) = false := by simp; omega
                have HJ := Lib.hid (show j = k by omega)
                have GOODB := Lib.hid (show (List.range banks.length).any (bankBad banks) = false from by
                  rw [List.any_eq_false]
                  intro i hi
                  have hi := List.mem_range.1 hi
                  rw [HK.out, ← HJ.out] at hi
                  rw [HGB.out i hi]; decide)
                go_wp2_with fail
                go_ret
                exact ⟨by rw [show checkF n effs banks = 0 from by unfold checkF; rw [HH.out, GOODE.out, GOODB.out]; rfl]; rfl, _, AR.out⟩
      · have t0 : Int.tmod (n : Int) 2 = 0 := by rw [Int.tmod_eq_emod_of_nonneg (by omega)]; omega
        have t1 : decide (16384 < (n : Int)) = false := by simp; omega
        have t2 : decide (8192 < (m : Int)) = true := by simp; omega
        have HC := Lib.hid (show checkF n effs banks = 74 from by unfold checkF; rw [if_pos (by simp [headBad, HM.out]; omega)])
        go_enter Tryd.func67, Tryd.ntmps67
        go_wp2_with fail
        go_ret
        exact ⟨by rw [HC.out]; rfl, _, A0.out⟩
    · have t0 : Int.tmod (n : Int) 2 = 0 := by rw [Int.tmod_eq_emod_of_nonneg (by omega)]; omega
      have t1 : decide (16384 < (n : Int)) = true := by simp; omega
      have HC := Lib.hid (show checkF n effs banks = 74 from by unfold checkF; rw [if_pos (by simp [headBad, HM.out]; omega)])
      go_enter Tryd.func67, Tryd.ntmps67
      go_wp2_with fail
      go_ret
      exact ⟨by rw [HC.out]; rfl, _, A0.out⟩
  · have t0 : Int.tmod (n : Int) 2 = 1 := by rw [Int.tmod_eq_emod_of_nonneg (by omega)]; omega
    have HC := Lib.hid (show checkF n effs banks = 74 from by unfold checkF; rw [if_pos (by simp [headBad, HM.out]; omega)])
    go_enter Tryd.func67, Tryd.ntmps67
    go_wp2_with fail
    go_ret
    exact ⟨by rw [HC.out]; rfl, _, A0.out⟩
end Go.Proofs.YtdnalhjdmlkbmaaDoor
namespace Go.Proofs.YtdnalhjdmlkbmaaDoor
set_option linter.unusedVariables false
/-- Running, halted or faulted, with a fault in the last case alone. -/
structure StOk (s : VmS) : Prop where
  run : s.st = 1 ∨ s.st = 2 ∨ s.st = 3
  ft : s.st = 3 ↔ s.ft ≠ 0
theorem StOk.nofault {s : VmS} (h : StOk s) (h1 : s.st = 1) : s.ft = 0 := by
  apply Classical.byContradiction
  intro hn
  have := h.ft.2 hn
  omega
theorem StOk.mem {s : VmS} (h : StOk s) (m : MemS) : StOk { s with m := m } := ⟨h.run, h.ft⟩
theorem StOk.step {code : List Int} {s : VmS} (h : StOk s) (h1 : s.st = 1) (he : stepE code s = 0) : StOk (stepS code s) := by
  have hs := step_st_ok code s h1 he
  have hf : (stepS code s).ft = s.ft := by unfold stepS; rw [if_neg (by simpa using he)]; exact does_ft _ _ _
  have h0 := h.nofault h1
  refine ⟨by omega, ?_⟩
  rw [hf, h0]
  constructor
  · intro h3; omega
  · intro h3; exact absurd rfl h3
theorem StOk.fault {code : List Int} {s : VmS} (he : stepE code s ≠ 0) : StOk (stepS code s) := by
  rw [step_st code s he]
  exact ⟨.inr (.inr rfl), ⟨fun _ => he, fun _ => rfl⟩⟩
/-- What holds behind a frame's loop. -/
structure FrOk (budget n : Int) (F : VmS × Int × Int) : Prop where
  st : StOk F.1
  n0 : n ≤ F.2.1
  nc : F.2.1 ≤ F.2.2
  c4 : F.2.2 ≤ 4 * F.2.1
  cb : F.2.2 ≤ budget
theorem frameGo_ok (code : List Int) (budget : Int) : ∀ (f : Nat) (s : VmS) (n c : Int), StOk s → n ≤ c → c ≤ 4 * n → c ≤ budget → FrOk budget n (frameGo code budget f s n c)
  | 0, s, n, c, h, h1, h2, h3 => ⟨h, Int.le_refl _, h1, h2, h3⟩
  | f + 1, s, n, c, h, h1, h2, h3 => by
    unfold frameGo
    split
    · rename_i hc
      split
      · exact ⟨h, Int.le_refl _, h1, h2, h3⟩
      · rename_i hb
        split
        · rename_i he
          exact ⟨StOk.fault he, Int.le_refl _, h1, h2, h3⟩
        · rename_i he
          have he' : stepE code { s with m := atF s.m c } = 0 := by simpa using he
          have hl : lookE code s = 0 := stepE_look code _ he'
          have hcr := cost_rng code s hl
          have hb' : c + costOf code s ≤ budget := by
            apply Int.not_lt.1
            intro hh
            exact hb ⟨hl, hh⟩
          have hs : StOk (stepS code { s with m := atF s.m c }) := (h.mem _).step hc.1 he'
          split
          · exact ⟨hs, by show n ≤ n + 1; omega, by show n + 1 ≤ c + costOf code s; omega, by show c + costOf code s ≤ 4 * (n + 1); omega, hb'⟩
          · have ih := frameGo_ok code budget f _ (n + 1) (c + costOf code s) hs (by omega) (by omega) hb'
            exact ⟨ih.st, by have := ih.n0; omega, ih.nc, ih.c4, ih.cb⟩
    · exact ⟨h, Int.le_refl _, h1, h2, h3⟩
/-- A frame that does no step is left with less than four cycles, or does not run. -/
theorem frameGo_some (code : List Int) (budget : Int) (f : Nat) (s : VmS) (n c : Int) (h : StOk s) (h1 : n ≤ c) (h2 : c ≤ 4 * n) (hc : c + 4 ≤ budget) (h3 : (frameGo code budget (f + 1) s n c).1.st = 1) (h4 : budget - (frameGo code budget (f + 1) s n c).2.2 ≥ 4) : n < (frameGo code budget (f + 1) s n c).2.1 := by
  unfold frameGo at h3 h4 ⊢
  split at h3
  · rename_i hr
    rw [if_pos hr] at h4 ⊢
    split at h3
    · rename_i hb
      have := cost_rng code s hb.1
      omega
    · rename_i hb
      rw [if_neg hb] at h4 ⊢
      split at h3
      · rename_i he
        rw [step_st code _ he] at h3
        exact absurd (show (3 : Int) = 1 from h3) (by decide)
      · rename_i he
        rw [if_neg he] at h4 ⊢
        have he' : stepE code { s with m := atF s.m c } = 0 := by simpa using he
        have hl : lookE code s = 0 := stepE_look code _ he'
        have hcr := cost_rng code s hl
        have hb' : c + costOf code s ≤ budget := by
          apply Int.not_lt.1
          intro hh
          exact hb ⟨hl, hh⟩
        have hs : StOk (stepS code { s with m := atF s.m c }) := (h.mem _).step hr.1 he'
        split
        · show n < n + 1; omega
        · have ih := frameGo_ok code budget f _ (n + 1) (c + costOf code s) hs (by omega) (by omega) hb'
          have := ih.n0
          omega
  · rename_i hr
    exact absurd ⟨h3, by omega⟩ hr
theorem frameF_ok (code : List Int) (pad budget : Int) (s : VmS) (hs : StOk s) (hb : 4 ≤ budget) : FrOk budget 0 (frameF code pad budget s) :=
  frameGo_ok code budget _ _ 0 0 (hs.mem _) (by omega) (by omega) (by omega)
theorem frameF_some (code : List Int) (pad budget : Int) (s : VmS) (hs : StOk s) (hb : 4 ≤ budget) (h3 : (frameF code pad budget s).1.st = 1) (h4 : budget - (frameF code pad budget s).2.2 ≥ 4) : (frameF code pad budget s).2.1 ≠ 0 := by
  unfold frameF at *
  obtain ⟨f, hf⟩ : ∃ k, budget.toNat = k + 1 := ⟨budget.toNat - 1, by omega⟩
  rw [hf] at h3 h4 ⊢
  have := frameGo_some code budget f _ 0 0 (hs.mem _) (by omega) (by omega) (by omega) h3 h4
  omega
theorem frameF_over (code : List Int) (pad budget : Int) (s : VmS) (h : s.st ≠ 1) : frameF code pad budget s = ({ s with m := beginF s.m pad }, 0, 0) := by
  unfold frameF
  exact go_stop _ _ _ _ _ _ fun hh => h hh.1
theorem start_st (entry : Int) (l : List (Int × List Int)) : StOk (startS entry l) := ⟨.inl rfl, by show (1 : Int) = 3 ↔ (0 : Int) ≠ 0; decide⟩
end Go.Proofs.YtdnalhjdmlkbmaaDoor
namespace Go.Proofs.YtdnalhjdmlkbmaaDoor
open Go.RowKit
set_option linter.unusedVariables false
theorem mayGo_of : ∀ (l : List (Int × List Int)) (last : Int), (∀ (k : Nat) (p : Int × List Int), l[k]? = some p → p.1 < 16 ∧ p.2.length ≤ 16384 ∧ (k = 0 → last < p.1) ∧ ∀ q, 0 < k → l[k - 1]? = some q → q.1 < p.1) → mayGo last l = true
  | [], _, _ => rfl
  | a :: l, last, h => by
    have h0 := h 0 a rfl
    have ih := mayGo_of l a.1 (fun k p hp => by
      have h1 := h (k + 1) p hp
      refine ⟨h1.1, h1.2.1, fun hk => ?_, fun q hk hq => ?_⟩
      · subst hk; exact h1.2.2.2 a (by omega) rfl
      · refine h1.2.2.2 q (by omega) ?_
        obtain ⟨j, rfl⟩ : ∃ j, k = j + 1 := ⟨k - 1, by omega⟩
        simpa using hq)
    simp only [mayGo, ih, Bool.and_true, decide_eq_true_eq]
    exact ⟨h0.2.2.1 rfl, h0.1, h0.2.1⟩
theorem check_good {n : Nat} {effs : List (Int × Int × Int)} {banks : List (Int × List Int)} (h : checkF n effs banks = 0) : n % 2 = 0 ∧ n ≤ 16384 ∧ mayBanks banks = true ∧ ∀ p ∈ banks, p.2.length ≤ 16384 := by
  unfold checkF at h
  split at h
  · exact absurd h (by decide)
  · rename_i h1
    split at h
    · exact absurd h (by decide)
    · split at h
      · exact absurd h (by decide)
      · rename_i h3
        simp [headBad] at h1
        have hb : ∀ k, k < banks.length → bankBad banks k = false := fun k hk => by
          have := (List.any_eq_false.1 (by simpa using h3)) k (List.mem_range.2 hk)
          simpa using this
        have hg : ∀ (k : Nat) (p : Int × List Int), banks[k]? = some p → (0 ≤ p.1 ∧ p.1 ≤ 15) ∧ p.2.length ≤ 16384 ∧ (0 < k → (banks.getD (k - 1) (0, [])).1 < p.1) := fun k p hp => by
          have hk := (List.getElem?_eq_some_iff.1 hp).1
          have := hb k hk
          unfold bankBad at this
          rw [hp] at this
          simp [withinB] at this
          refine ⟨this.1, by omega, fun h0 => ?_⟩
          have := this.2.2 h0
          simpa [List.getD_eq_getElem?_getD] using this
        refine ⟨by omega, h1.2.1, mayGo_of _ _ fun k p hp => ?_, fun p hp => ?_⟩
        · have := hg k p hp
          refine ⟨by omega, this.2.1, fun _ => by omega, fun q hk hq => ?_⟩
          have h2 := this.2.2 hk
          rw [List.getD_eq_getElem?_getD, hq] at h2
          exact h2
        · obtain ⟨k, hk⟩ := List.getElem?_of_mem hp
          exact (hg k p hk).2.1
/-- A budget, brought within 4 to 3003. -/
def budgetF (n : Int) : Int := 4 + Int.tmod (Int.tmod n 3000 + 3000) 3000
theorem budget_rng (n : Int) : 4 ≤ budgetF n ∧ budgetF n ≤ 3003 := by
  have h1 : -3000 < Int.tmod n 3000 := by
    rcases Int.le_total 0 n with h | h
    · have := Int.tmod_nonneg 3000 h; omega
    · have h2 : Int.tmod n 3000 = -(Int.tmod (-n) 3000) := by rw [Int.neg_tmod, Int.neg_neg]
      have h3 := Int.tmod_lt_of_pos (-n) (show (0 : Int) < 3000 by decide)
      omega
  have h2 := Int.tmod_lt_of_pos n (show (0 : Int) < 3000 by decide)
  have h3 : 0 ≤ Int.tmod n 3000 + 3000 := by omega
  unfold budgetF
  rw [Int.tmod_eq_emod_of_nonneg h3]
  omega
theorem tmod_lo (n : Int) : -3000 < Int.tmod n 3000 := by
  rcases Int.le_total 0 n with h | h
  · have := Int.tmod_nonneg 3000 h; omega
  · have h2 : Int.tmod n 3000 = -(Int.tmod (-n) 3000) := by rw [Int.neg_tmod, Int.neg_neg]
    have h3 := Int.tmod_lt_of_pos (-n) (show (0 : Int) < 3000 by decide)
    omega
theorem budget_eq (n : Int) : budgetF n = 4 + Int.tmod n 3000 % 3000 := by
  have h1 := tmod_lo n
  unfold budgetF
  rw [Int.tmod_eq_emod_of_nonneg (by omega)]
  omega
theorem budget_any (n : Int) (w : World) : Calls Tryd.prog 35 #[.int .i64 n] w fun e w' => e = .returned (.int .i64 (budgetF n)) ∧ w' = w := by
  have hr := budget_rng n
  have h1 : -3000 < Int.tmod n 3000 ∧ Int.tmod n 3000 < 3000 := by
    refine ⟨?_, Int.tmod_lt_of_pos n (by decide)⟩
    rcases Int.le_total 0 n with h | h
    · have := Int.tmod_nonneg 3000 h; omega
    · have h2 : Int.tmod n 3000 = -(Int.tmod (-n) 3000) := by rw [Int.neg_tmod, Int.neg_neg]
      have h3 := Int.tmod_lt_of_pos (-n) (show (0 : Int) < 3000 by decide)
      omega
  obtain ⟨t, ht⟩ : ∃ t, t = Int.tmod n 3000 := ⟨_, rfl⟩
  have w0 : IntKind.i64.wrap (Int.tmod n 3000) = Int.tmod n 3000 := IntWalk.i64_in _ (by omega)
  have w1 : IntKind.i64.wrap (Int.tmod n 3000 + 3000) = Int.tmod n 3000 + 3000 := IntWalk.i64_in _ (by omega)
  have w3 : IntKind.i64.wrap (4 + Int.tmod (Int.tmod n 3000 + 3000) 3000) = budgetF n := IntWalk.i64_in _ (by unfold budgetF at hr; omega)
  have w2 : IntKind.i64.wrap (Int.tmod (Int.tmod n 3000 + 3000) 3000) = Int.tmod (Int.tmod n 3000 + 3000) 3000 := IntWalk.i64_in _ (by unfold budgetF at hr; omega)
  go_enter Tryd.func35, Tryd.ntmps35
  go_wp2
  go_ret
  exact ⟨by rw [budget_eq]; rfl, rfl⟩
end Go.Proofs.YtdnalhjdmlkbmaaDoor
namespace Go.Proofs.YtdnalhjdmlkbmaaDoor
set_option linter.unusedVariables false
def codeA : List Int := threadB [6, 7, 6, 0, 48, 16]
def endA : VmS × Int × Int := frameF codeA 0 100 (startS 128 [])
set_option maxRecDepth 1000000 in
theorem endA_is : (endA.1.st, endA.2.1, endA.2.2, endA.1.d) = (2, 4, 10, [0]) := by kernel_rfl
end Go.Proofs.YtdnalhjdmlkbmaaDoor
namespace Go.Proofs.YtdnalhjdmlkbmaaDoor
open Go.RowKit
set_option linter.unusedVariables false
theorem memory_nil (w : World) : Calls Tryd.prog 41 #[.pointer none] w fun e w' => e = .returned (.pointer none) ∧ w = w' := by
  go_enter Tryd.func41, Tryd.ntmps41
  go_wp2
  go_ret
  exact ⟨rfl, rfl⟩
theorem copy_nil (w : World) : Calls Tryd.prog 42 #[.pointer none] w fun e w' => e = .returned (.pointer none) ∧ w = w' := by
  go_enter Tryd.func42, Tryd.ntmps42
  go_wp2
  go_ret
  exact ⟨rfl, rfl⟩
/-- The state of none. -/
def noStateV : Value := .agg #[.int .u16 0, .int .i64 0, .int .i64 0, .slice none 0 0, .slice none 0 0]
set_option maxRecDepth 100000 in
set_option maxHeartbeats 1000000 in
theorem same_nil (w : World) (G : Nat → Nat) : Calls Tryd.prog 40 #[noStateV, noStateV] w (Looked w G (.bool true)) := by
  have A0 := Lib.hid (((Adv.refl (fun _ => False) w G).alloc (.cells #[.int .u16 0, .int .i64 0, .int .i64 0, .slice none 0 0, .slice none 0 0] 86) 0).alloc (.cells #[.int .u16 0, .int .i64 0, .int .i64 0, .slice none 0 0, .slice none 0 0] 93) 0)
  unfold noStateV
  go_enter Tryd.func40, Tryd.ntmps40
  go_wp2_with fail
  go_loop [47] (fun v => v = .int .i64 0) (fun _ => 0)
  case atStart => rfl
  case round =>
    obtain rfl := hrel
    go_wp2_with fail
    go_loop [65] (fun v => v = .int .i64 0) (fun _ => 0)
    case atStart => rfl
    case round =>
      obtain rfl := hrel
      go_wp2_with fail
      go_ret
      exact ⟨rfl, _, A0.out⟩
set_option maxRecDepth 100000 in
set_option maxHeartbeats 1000000 in
theorem check_plain (G : Nat → Nat) (ca : Option Addr) (n cc : Nat) (entry : Int) (hn : n ≤ 16384) (h2 : n % 2 = 0) (w : World) :
    Calls Tryd.prog 67 #[cartV ca n cc entry none 0 0 none 0 0] w (Looked w G (.int .i64 0)) := by
  have A0 := Lib.hid ((Adv.refl (fun _ => False) w G).alloc (.cells #[.slice ca n cc, .int .u16 entry, .slice none 0 0, .slice none 0 0] 74) 0)
  have t0 : Int.tmod (n : Int) 2 = 0 := by rw [Int.tmod_eq_emod_of_nonneg (by omega)]; omega
  have t1 : decide (16384 < (n : Int)) = false := by simp; omega
  unfold cartV
  go_enter Tryd.func67, Tryd.ntmps67
  go_wp2_with fail
  go_loop [27] (fun v => v = .int .i64 0) (fun _ => 0)
  case atStart => rfl
  case round =>
    obtain rfl := hrel
    go_wp2_with fail
    go_loop [62] (fun v => v = .int .i64 0) (fun _ => 0)
    case atStart => rfl
    case round =>
      obtain rfl := hrel
      go_wp2_with fail
      go_ret
      exact ⟨rfl, _, A0.out⟩
end Go.Proofs.YtdnalhjdmlkbmaaDoor
namespace Go.Proofs.YtdnalhjdmlkbmaaDoor
open Go.RowKit
set_option linter.unusedVariables false
theorem own4123 : Own4 4 1 2 3 := ⟨own123, by decide, by unfold S3; decide⟩
theorem far4123 : Far 4 1 2 3 := by unfold Far S4 S3; decide
theorem codeA_b8 : B8 codeA := by
  have h : (codeA.all fun x => decide (0 ≤ x) && decide (x < 256)) = true := by kernel_rfl
  intro x hx
  have := List.all_eq_true.1 h x hx
  simpa using this
/-- What is allowed of a machine's own and a call's own. -/
def S5k (p i j q : Nat) : Nat → Prop := fun o => S4 p i j q o ∨ o = 1000
set_option maxRecDepth 100000 in
set_option maxHeartbeats 2000000 in
theorem awake_any (G : Nat → Nat) (w : World) (ht : Tabs w (fun _ => 0)) : Calls Tryd.prog 34 #[] w (Looked w G (.bool true)) := by
  have A0 := Lib.hid ((Adv.refl (S5k 4 1 2 3) w (fun _ => 0)).alloc (.cells #[.int .u16 6, .int .u16 7, .int .u16 6, .int .u16 0, .int .u16 48, .int .u16 16] 41) 0)
  have R0 := Lib.hid (Reads.new w [.int .u16 6, .int .u16 7, .int .u16 6, .int .u16 0, .int .u16 48, .int .u16 16] 41)
  have HT := Lib.hid ht
  have n0 : ¬ S5k 4 1 2 3 0 := by unfold S5k S4 S3; decide
  clear ht
  go_enter Tryd.func34, Tryd.ntmps34
  go_wp2_with fail
  refine (threads_any (own1 w (fun _ => 0) 0) (some ⟨w.heap.size, 0, none⟩) 6 [6, 7, 6, 0, 48, 16] (by intro x hx; simp at hx; omega) (by decide) _ R0.out).mono ?_
  rintro e w1 ⟨ca, cc, G1, rfl, a1, r1, g1, l1, _⟩
  have A1 := Lib.hid (A0.out.trans (a1.mono (T := S5k 4 1 2 3) fun _ h => h.elim))
  have R1 := Lib.hid r1
  clear a1 r1
  go_wp2_with fail
  refine (vmNew_ok 4 1 2 3 own4123 G1 (some ca) 142 cc 128 (by decide) (by decide) none 0 0 none 0 0 codeA [] w1 (by kernel_rfl) (by decide) codeA_b8 R1.out rfl (by decide) rfl (by intro x hx; cases hx) (by intro x hx; cases hx) (by intro w' G' _ k p hp; simp at hp) (fun w' G' _ => check_plain G' _ _ _ _ (by decide) (by decide) w') (HT.out.adv A1.out n0)).mono ?_
  rintro e w2 ⟨P, D, R, M, G2, rfl, a2, v2⟩
  have A2 := Lib.hid (A1.out.trans (a2.mono (T := S5k 4 1 2 3) fun _ h => h.elim))
  have V2 := Lib.hid v2
  clear a2 v2
  go_wp2_with fail
  refine (show Calls Tryd.prog 36 #[.pointer (some ⟨P, 0, none⟩), .int .u8 0, .int .i64 100] w2 (FrameIs 4 1 2 3 P D R M codeA w2 G2 endA.1 endA.2.1 endA.2.2 100) from frame_any own4123 far4123 0 100 (by decide) (by decide) (by decide) (by decide) V2.out).mono ?_
  rintro e w3 ⟨b, ta, tc, G3, rfl, a3, v3, -, -⟩
  have e1 : endA.1.st = 2 := congrArg (·.1) endA_is
  have e2 : endA.2.1 = 4 := congrArg (·.2.1) endA_is
  have e3 : endA.2.2 = 10 := congrArg (·.2.2.1) endA_is
  have e4 : endA.1.d = [0] := congrArg (·.2.2.2) endA_is
  rw [e1, e2, e3]
  have AR := Lib.hid a3
  have V3 := Lib.hid v3
  have E4 := Lib.hid e4
  clear a3 v3 e1 e2 e3 e4
  have ⟨z, hz⟩ : ∃ z, endA.1 = z := ⟨_, rfl⟩
  rw [hz] at V3 E4 ⊢
  clear hz
  have A3 := Lib.hid (A2.out.trans (AR.out.mono (T := S5k 4 1 2 3) fun _ h => .inl h))
  have M4 := Lib.hid (Mine.made w3 G3 w A3.out.size #[.int .i64 2, .int .i64 z.ft, .int .i64 4, .int .i64 10, .int .i64 90, .slice (some ⟨b, 0, none⟩) z.m.screen.length z.m.screen.length, .slice ta z.m.tones.length tc] 81)
  have AL4 := Lib.hid ((Adv.refl (fun o => o = 1000) w3 G3).alloc (.cells #[.int .i64 2, .int .i64 z.ft, .int .i64 4, .int .i64 10, .int .i64 90, .slice (some ⟨b, 0, none⟩) z.m.screen.length z.m.screen.length, .slice ta z.m.tones.length tc] 81) 1000)
  go_wp2_with fail
  obtain ⟨w4, hw4⟩ : ∃ v, v = w3.alloc (.cells #[.int .i64 2, .int .i64 z.ft, .int .i64 4, .int .i64 10, .int .i64 90, .slice (some ⟨b, 0, none⟩) z.m.screen.length z.m.screen.length, .slice ta z.m.tones.length tc] 81) := ⟨_, rfl⟩
  rw [← hw4] at M4 AL4 ⊢
  obtain ⟨G4, hG4⟩ : ∃ g, g = own1 w3 G3 1000 := ⟨_, rfl⟩
  rw [← hG4] at M4 AL4
  obtain ⟨bo, hbo⟩ : ∃ g, g = w3.heap.size := ⟨_, rfl⟩
  rw [← hbo] at M4 ⊢
  have V4 := Lib.hid (V3.out.mine own4123 far4123 AL4.out)
  have A4 := Lib.hid (A3.out.trans (AL4.out.mono (T := S5k 4 1 2 3) fun _ h => .inr h))
  clear hw4 hG4 hbo
  refine (state_any V4.out).mono ?_
  rintro e w5 ⟨sb, sc, rb, rc, G5, rfl, a5, r5, -, -, -⟩
  have E5 := Lib.hid (show Reads w5 sb (cellsU [0]) from E4.out ▸ r5)
  have M5 := Lib.hid (M4.out.adv a5 id)
  have A5 := Lib.hid (A4.out.trans (a5.mono (T := S5k 4 1 2 3) fun _ h => h.elim))
  have N0 := Lib.hid (Mine.made w5 G5 w A5.out.size #[.int .u16 z.pc, .int .i64 z.st, .int .i64 z.ft, .slice sb 1 sc, .slice rb z.r.length rc] 86)
  have AN := Lib.hid ((Adv.refl (fun _ => False) w5 G5).alloc (.cells #[.int .u16 z.pc, .int .i64 z.st, .int .i64 z.ft, .slice sb 1 sc, .slice rb z.r.length rc] 86) 1000)
  have hsl : z.d.length = 1 := by rw [E4.out]; rfl
  clear a5 r5
  unfold stateV
  rw [hsl]
  clear hsl
  obtain ⟨w6, hw6⟩ : ∃ v, v = w5.alloc (.cells #[.int .u16 z.pc, .int .i64 z.st, .int .i64 z.ft, .slice sb 1 sc, .slice rb z.r.length rc] 86) := ⟨_, rfl⟩
  obtain ⟨ab, ao, e, hcell, hab⟩ := (E5.out.adv AN.out (fun _ _ => id)).atU 0 0 rfl
  subst e
  have M6 := Lib.hid (M5.out.adv AN.out id)
  go_upto_region 6 with fail
  rw [← hw6] at N0 AN hcell M6 ⊢
  have A6 := Lib.hid (A5.out.trans (AN.out.mono (T := S5k 4 1 2 3) fun _ h => h.elim))
  have y0 := M6.out.cell 0 (.int .i64 2) rfl
  have y2 := M6.out.cell 2 (.int .i64 4) rfl
  have y3 := M6.out.cell 3 (.int .i64 10) rfl
  have y4 := M6.out.cell 4 (.int .i64 90) rfl
  have z3 := N0.out.cell 3 (.slice (some ⟨ab, ao, none⟩) 1 sc) rfl
  obtain ⟨so, hso⟩ : ∃ v, v = w5.heap.size := ⟨_, rfl⟩
  rw [← hso] at z3 ⊢
  rw [Nat.add_zero] at hcell
  clear hw6 hso
  go_wp2_with fail
  go_ret
  exact ⟨rfl, _, joined_adv A6.out n0⟩
end Go.Proofs.YtdnalhjdmlkbmaaDoor
