/- Frame: the walk; New; A frame: what holds of every one (the plain law of VmExact); A frame's steps, one behind the other (the plain law of VmAsOne); A range over a map with integer keys, told as lists of pairs: what is still to come; What a copy of a memory is on its way: a struct, its map, the banks that it has so far; mem.Copy: the copy is the memory, but for the order of its banks; Memory of a machine; Machine.Copy; own: a copy of bytes. -/
import Derived.Outline
import Derived.Deep.RegionLaw
import Derived.Maps.RangeWalk
import Derived.Test.YtdnalhjdmlkbmaaDoorVmAsOneU1
import Derived.Test.YtdnalhjdmlkbmaaDoorVmAsOneU2
import Derived.Test.YtdnalhjdmlkbmaaDoorVmAsOneU3
import Derived.Test.YtdnalhjdmlkbmaaDoorVmAsOneU4
import Derived.Test.YtdnalhjdmlkbmaaDoorVmAsOneU5
import Derived.Test.YtdnalhjdmlkbmaaDoorVmAsOneU6
set_option linter.unusedVariables false
set_option linter.unusedSimpArgs false
set_option linter.unnecessarySimpa false
namespace Go.Proofs.YtdnalhjdmlkbmaaDoor
open Go.RowKit
set_option linter.unusedVariables false
section
variable {w w' : World} {G G' : Nat → Nat} {p i j q P D R M : Nat} {code : List Int} {s s' : VmS}
set_option maxRecDepth 100000 in
set_option maxHeartbeats 8000000 in
theorem frame_any (o : Own4 p i j q) (hfar : Far p i j q) (x budget : Int) (x0 : 0 ≤ x) (x1 : x < 256) (b0 : 4 ≤ budget) (b1 : budget ≤ 16384) (h : VM w G p i j q P D R M code s) :
    Calls Tryd.prog 36 #[.pointer (some ⟨P, 0, none⟩), .int .u8 x, .int .i64 budget] w (FrameIs p i j q P D R M code w G (frameF code x budget s).1 (frameF code x budget s).2.1 (frameF code x budget s).2.2 budget) := by
  obtain ⟨F, hF⟩ : ∃ F, F = frameF code x budget s := ⟨_, rfl⟩
  rw [← hF]
  have HF := Lib.hid hF
  have OB := Lib.hid (Mine.made w G w (Nat.le_refl _) #[.int .i64 0, .int .i64 0, .int .i64 0, .int .i64 0, .int .i64 0, (.slice none 0 0), (.slice none 0 0)] 81)
  have H0 := Lib.hid (h.alloc (.cells #[.int .i64 0, .int .i64 0, .int .i64 0, .int .i64 0, .int .i64 0, (.slice none 0 0), (.slice none 0 0)] 81) 1000)
  have A0 := Lib.hid (((Adv.refl (fun _ => False) w G).alloc (.cells #[.int .i64 0, .int .i64 0, .int .i64 0, .int .i64 0, .int .i64 0, (.slice none 0 0), (.slice none 0 0)] 81) 1000).mono (T := S4 p i j q) fun _ h => h.elim)
  have t1 : decide (budget < 4) = false := by simp; omega
  have t2 : decide (16384 < budget) = false := by simp; omega
  have hP := h.lt
  obtain ⟨c0, c1, c2, c3, c4, c6⟩ := h.cells
  clear h hF
  go_enter Tryd.func36, Tryd.ntmps36
  go_wp2_with fail
  refine (begin_any _ q M s.m H0.out.ok.gd.mo H0.out.ok.gd.mr x _ H0.out.tr.pm).mono ?_
  rintro e w1 ⟨rfl, G1, a1, p1⟩
  have hb1 := VM.memCall o H0.out a1 p1 (beginF_ok H0.out.ok.gd.mo x) (beginF_rng H0.out.ok.gd.mr ⟨x0, x1⟩)
  have A1 := Lib.hid (A0.out.trans hb1.1)
  have H1 := Lib.hid (hb1.2.alloc (.cells #[.int .i64 0, .int .i64 0, .int .i64 0, .int .i64 0, .int .i64 0, (.slice none 0 0), (.slice none 0 0)] 81) 1000)
  have OB1 := Lib.hid ((OB.out.adv hb1.1 hfar).adv ((Adv.refl (fun _ => False) w1 G1).alloc (.cells #[.int .i64 0, .int .i64 0, .int .i64 0, .int .i64 0, .int .i64 0, (.slice none 0 0), (.slice none 0 0)] 81) 1000) id)
  have OO1 := Lib.hid (Mine.made w1 G1 w A1.out.size #[.int .i64 0, .int .i64 0, .int .i64 0, .int .i64 0, .int .i64 0, (.slice none 0 0), (.slice none 0 0)] 81)
  have A2 := Lib.hid (A1.out.alloc (.cells #[.int .i64 0, .int .i64 0, .int .i64 0, .int .i64 0, .int .i64 0, (.slice none 0 0), (.slice none 0 0)] 81) 1000)
  have hsz : w.heap.size < w1.heap.size := (Array.getElem?_eq_some_iff.1 (OB.out.adv hb1.1 hfar).blk).1
  clear a1 p1 hb1 c0 c1 c2 c3 c4 c6 hP t1 t2
  go_wp2_with fail
  obtain ⟨bo, hbo⟩ : ∃ b, b = w1.heap.size := ⟨_, rfl⟩
  rw [← hbo] at OO1 ⊢
  have hne : bo ≠ w.heap.size := by omega
  have hbs : w.heap.size < bo := by omega
  clear hbo hsz
  go_loopw [9] (fun vy wr => ∃ (y : Bool) (s1 : VmS) (n c : Int) (Gr : Nat → Nat) (f : Nat), vy = .bool y ∧ Adv (S4 p i j q) w G wr Gr ∧ VM wr Gr p i j q P D R M code s1 ∧ Mine w wr Gr w.heap.size #[.int .i64 0, .int .i64 0, .int .i64 0, .int .i64 0, .int .i64 0, (.slice none 0 0), (.slice none 0 0)] 81 ∧ Mine w wr Gr bo #[.int .i64 0, .int .i64 0, .int .i64 n, .int .i64 c, .int .i64 0, (.slice none 0 0), (.slice none 0 0)] 81 ∧
      0 ≤ n ∧ 0 ≤ c ∧ c ≤ budget ∧ n ≤ c ∧ (s1.m.tones.length : Int) ≤ 3 * c ∧ budget - c ≤ f ∧ frameRest code budget f y s1 n c = F)
    (fun _ wr => (2 * (budget - intOf ((wr.cell? ⟨bo, 3, none⟩).getD undef)) + (if intOf ((wr.cell? ⟨P, 1, none⟩).getD undef) = 1 then 1 else 0)).toNat)
  case atStart =>
    exact ⟨false, _, 0, 0, _, budget.toNat, rfl, A2.out, H1.out, OB1.out, OO1.out, Int.le_refl _, Int.le_refl _, by omega, Int.le_refl _, by simp [beginF], by omega, by rw [HF.out]; rfl⟩
  case round =>
    obtain ⟨y, s1, n, c, Gr, f, rfl, ar, hv, hbb, hoo, n0, cl0, cl1, nc, tn, fl, hrest⟩ := hrel
    have AR := Lib.hid ar
    have HV := Lib.hid hv
    have HB := Lib.hid hbb
    have HO := Lib.hid hoo
    have HR := Lib.hid hrest
    obtain ⟨c0, c1, c2, c3, c4, c6⟩ := hv.cells
    have o2 := hoo.cell 2 (.int .i64 n) rfl
    have o3 := hoo.cell 3 (.int .i64 c) rfl
    have hpc0 := hv.ok.pc0
    clear ar hv hbb hoo hrest
    by_cases hst : s1.st = 1
    · have hstb : (s1.st == 1) = true := by simp [hst]
      cases y with
      | true =>
        have HST := Lib.hid hst
        clear hst
        have HE := Lib.hid (show F = (s1, n, c) from HR.out.symm.trans (if_pos rfl))
        have o4 := HO.out.cell 4 (.int .i64 0) rfl
        have of := HO.out.free
        have i0 : 0 ≤ budget - c := by omega
        have i1 : budget - c ≤ 16384 := by omega
        have V0 := HV
        have O0 := HO
        have B0 := HB
        have C0 := AR
        have x1 := O0.out.set 4 (.int .i64 (budget - c))
        have V1 := Lib.hid (V0.out.mine o hfar x1.1)
        have O1 := Lib.hid (x1.2.sett (show _ = #[.int .i64 0, .int .i64 0, .int .i64 n, .int .i64 c, .int .i64 (budget - c), (.slice none 0 0), (.slice none 0 0)] from rfl))
        have B1 := Lib.hid (B0.out.other (b2 := bo) (Ne.symm hne) 4 (.int .i64 (budget - c)))
        have C1 := Lib.hid (C0.out.setNew (p := ⟨bo, 4, none⟩) O0.out.new (.int .i64 (budget - c)))
        clear x1
        go_wp2_with fail
        obtain ⟨wt, hwt⟩ : ∃ v, v = wr.setCell ⟨bo, 4, none⟩ (.int .i64 (budget - c)) := ⟨_, rfl⟩
        rw [← hwt] at V1 O1 B1 C1 ⊢
        clear hwt
        clear o4 of
        have p0 := O1.out.cell 0 (.int .i64 0) rfl
        have p1 := O1.out.cell 1 (.int .i64 0) rfl
        have pf := O1.out.free
        have x2 := O1.out.set 0 (.int .i64 s1.st)
        have V2 := Lib.hid (V1.out.mine o hfar x2.1)
        have O2 := Lib.hid (x2.2.sett (show _ = #[.int .i64 s1.st, .int .i64 0, .int .i64 n, .int .i64 c, .int .i64 (budget - c), (.slice none 0 0), (.slice none 0 0)] from rfl))
        have B2 := Lib.hid (B1.out.other (b2 := bo) (Ne.symm hne) 0 (.int .i64 s1.st))
        have C2 := Lib.hid (C1.out.setNew (p := ⟨bo, 0, none⟩) O1.out.new (.int .i64 s1.st))
        clear x2
        have x3 := O2.out.set 1 (.int .i64 s1.ft)
        have V3 := Lib.hid (V2.out.mine o hfar x3.1)
        have O3 := Lib.hid (x3.2.sett (show _ = #[.int .i64 s1.st, .int .i64 s1.ft, .int .i64 n, .int .i64 c, .int .i64 (budget - c), (.slice none 0 0), (.slice none 0 0)] from rfl))
        have B3 := Lib.hid (B2.out.other (b2 := bo) (Ne.symm hne) 1 (.int .i64 s1.ft))
        have C3 := Lib.hid (C2.out.setNew (p := ⟨bo, 1, none⟩) O2.out.new (.int .i64 s1.ft))
        clear x3
        have d1 := V1.out.drew.cells.2.1
        have d2 := V1.out.drew.cells.2.2.1
        have Q2 := Lib.hid (And.intro V2.out.drew.cells.2.1 V2.out.drew.cells.2.2.1)
        have Q3 := Lib.hid (And.intro V3.out.drew.cells.2.1 V3.out.drew.cells.2.2.1)
        go_region_held3 (fun w' => w'.cell? ⟨P, 1, none⟩ = some (.int .i64 s1.st) ∧ w'.cell? ⟨P, 2, none⟩ = some (.int .i64 s1.ft)) (first | with_reducible exact ⟨d1, d2⟩ | with_reducible exact Q2.out | with_reducible exact Q3.out) (fail)
        clear p0 p1 pf d1 d2 Q2 Q3
        obtain ⟨w3, hw3⟩ : ∃ v, v = ((wt.setCell ⟨bo, 0, none⟩ (.int .i64 s1.st)).setCell ⟨bo, 1, none⟩ (.int .i64 s1.ft)).drew := ⟨_, rfl⟩
        have V4 := Lib.hid V3.out.drew
        have O4 := Lib.hid O3.out.drew
        have B4 := Lib.hid B3.out.drew
        have C4 := Lib.hid C3.out.drew
        rw [← hw3] at V4 O4 B4 C4 ⊢
        clear hw3
        go_wp2_with fail
        have VD := Lib.hid V4.out.drew
        have c6 := V4.out.drew.cells.2.2.2.2.2
        go_region_held3 (fun w' => w'.cell? ⟨P, 6, none⟩ = some (.pointer (some ⟨M, 0, none⟩))) (first | with_reducible exact c6 | with_reducible exact QA.out | with_reducible exact QB.out | with_reducible exact QC.out | with_reducible exact QD.out)
          (first | (go_at_call 46; refine (screen_any _ q M s1.m VD.out.ok.gd.mo _ VD.out.tr.pm).mono ?_; rintro e wa ⟨sb, Ga, rfl, aa, sg, sn, sr, sl⟩; have VA := Lib.hid (VD.out.still aa); have OA := Lib.hid (O4.out.drew.adv aa id); have BA := Lib.hid (B4.out.drew.adv aa id); have CA := Lib.hid (C4.out.drew.trans (aa.mono (T := S4 p i j q) fun _ h => h.elim)); have SA := Lib.hid (And.intro sg (And.intro sr (And.intro sl (Nat.le_trans C4.out.drew.size sn)))); have QA := Lib.hid VA.out.cells.2.2.2.2.2; clear aa sg sn sr sl) | (go_at_call 31; refine (tones_any _ q 0 M s1.m VA.out.ok.gd.mo (by omega) _ VA.out.tr.pm).mono ?_; rintro e wb ⟨ta, tc, Gb, rfl, ab, rb⟩; have V5 := Lib.hid (VA.out.still ab); have O5 := Lib.hid (OA.out.adv ab id); have B5 := Lib.hid (BA.out.adv ab id); have C5 := Lib.hid (CA.out.trans (ab.mono (T := S4 p i j q) fun _ h => h.elim)); have SB := Lib.hid (And.intro ((ab.own _ SA.out.2.2.1).trans SA.out.1) (And.intro (SA.out.2.1.adv ab (fun _ _ => id)) (And.intro (Nat.lt_of_lt_of_le SA.out.2.2.1 ab.size) SA.out.2.2.2))); have RB := Lib.hid rb; have QB := Lib.hid V5.out.cells.2.2.2.2.2; have p5 := O5.out.cell 5 (.slice none 0 0) rfl; have p6 := O5.out.cell 6 (.slice none 0 0) rfl; have pf := O5.out.free; have x6 := O5.out.set 5 (.slice (some ⟨sb, 0, none⟩) s1.m.screen.length s1.m.screen.length); have V6 := Lib.hid (V5.out.mine o hfar x6.1); have O6 := Lib.hid (x6.2.sett (show _ = #[.int .i64 s1.st, .int .i64 s1.ft, .int .i64 n, .int .i64 c, .int .i64 (budget - c), (.slice (some ⟨sb, 0, none⟩) s1.m.screen.length s1.m.screen.length), (.slice none 0 0)] from rfl)); have B6 := Lib.hid (B5.out.other (b2 := bo) (Ne.symm hne) 5 (.slice (some ⟨sb, 0, none⟩) s1.m.screen.length s1.m.screen.length)); have C6 := Lib.hid (C5.out.setNew (p := ⟨bo, 5, none⟩) O5.out.new (.slice (some ⟨sb, 0, none⟩) s1.m.screen.length s1.m.screen.length)); clear x6; have x7 := O6.out.set 6 (.slice ta s1.m.tones.length tc); have V7 := Lib.hid (V6.out.mine o hfar x7.1); have O7 := Lib.hid (x7.2.sett (show _ = #[.int .i64 s1.st, .int .i64 s1.ft, .int .i64 n, .int .i64 c, .int .i64 (budget - c), (.slice (some ⟨sb, 0, none⟩) s1.m.screen.length s1.m.screen.length), (.slice ta s1.m.tones.length tc)] from rfl)); have B7 := Lib.hid (B6.out.other (b2 := bo) (Ne.symm hne) 6 (.slice ta s1.m.tones.length tc)); have C7 := Lib.hid (C6.out.setNew (p := ⟨bo, 6, none⟩) O6.out.new (.slice ta s1.m.tones.length tc)); clear x7; have QC := Lib.hid V6.out.cells.2.2.2.2.2; have QD := Lib.hid V7.out.cells.2.2.2.2.2; clear ab rb))
        clear p5 p6 pf c6
        obtain ⟨w6, hw6⟩ : ∃ v, v = (wb.setCell ⟨bo, 5, none⟩ (.slice (some ⟨sb, 0, none⟩) s1.m.screen.length s1.m.screen.length)).setCell ⟨bo, 6, none⟩ (.slice ta s1.m.tones.length tc) := ⟨_, rfl⟩
        have SZ := Lib.hid (show (Gb sb = 0 ∧ Reads ((wb.setCell ⟨bo, 5, none⟩ (.slice (some ⟨sb, 0, none⟩) s1.m.screen.length s1.m.screen.length)).setCell ⟨bo, 6, none⟩ (.slice ta s1.m.tones.length tc)) (some ⟨sb, 0, none⟩) (u8s s1.m.screen) ∧ sb < ((wb.setCell ⟨bo, 5, none⟩ (.slice (some ⟨sb, 0, none⟩) s1.m.screen.length s1.m.screen.length)).setCell ⟨bo, 6, none⟩ (.slice ta s1.m.tones.length tc)).heap.size ∧ w.heap.size ≤ sb) from ⟨SB.out.1, SB.out.2.1.adv ((O5.out.set 5 (.slice (some ⟨sb, 0, none⟩) s1.m.screen.length s1.m.screen.length)).1.trans (O6.out.set 6 (.slice ta s1.m.tones.length tc)).1) (fun ad e => by cases e; rw [SB.out.1]; decide), Nat.lt_of_lt_of_le SB.out.2.2.1 ((O5.out.set 5 (.slice (some ⟨sb, 0, none⟩) s1.m.screen.length s1.m.screen.length)).1.trans (O6.out.set 6 (.slice ta s1.m.tones.length tc)).1).size, SB.out.2.2.2⟩)
        have RZ := Lib.hid (RB.out.adv ((O5.out.set 5 (.slice (some ⟨sb, 0, none⟩) s1.m.screen.length s1.m.screen.length)).1.trans (O6.out.set 6 (.slice ta s1.m.tones.length tc)).1) (by decide))
        rw [← hw6] at V7 O7 B7 C7 SZ RZ ⊢
        clear hw6
        have y0 := O7.out.cell 0 (.int .i64 s1.st) rfl
        have y1 := O7.out.cell 1 (.int .i64 s1.ft) rfl
        have y2 := O7.out.cell 2 (.int .i64 n) rfl
        have y3 := O7.out.cell 3 (.int .i64 c) rfl
        have y4 := O7.out.cell 4 (.int .i64 (budget - c)) rfl
        have y5 := O7.out.cell 5 (.slice (some ⟨sb, 0, none⟩) s1.m.screen.length s1.m.screen.length) rfl
        have y6 := O7.out.cell 6 (.slice ta s1.m.tones.length tc) rfl
        have z0 := B7.out.cell 0 (.int .i64 0) rfl
        have z1 := B7.out.cell 1 (.int .i64 0) rfl
        have z2 := B7.out.cell 2 (.int .i64 0) rfl
        have z3 := B7.out.cell 3 (.int .i64 0) rfl
        have z4 := B7.out.cell 4 (.int .i64 0) rfl
        have z5 := B7.out.cell 5 (.slice none 0 0) rfl
        have z6 := B7.out.cell 6 (.slice none 0 0) rfl
        have zf := B7.out.free
        go_wp2_with fail
        rw [HE.out]
        have a7 := own7 (w := w6) (G := Gb) w.heap.size B7.out.own (.int .i64 s1.st) (.int .i64 s1.ft) (.int .i64 n) (.int .i64 c) (.int .i64 (budget - c)) (.slice (some ⟨sb, 0, none⟩) s1.m.screen.length s1.m.screen.length) (.slice ta s1.m.tones.length tc)
        exact bodyPost_ret (v := .tuple #[.agg #[.int .i64 s1.st, .int .i64 s1.ft, .int .i64 n, .int .i64 c, .int .i64 (budget - c), .slice (some ⟨sb, 0, none⟩) s1.m.screen.length s1.m.screen.length, .slice ta s1.m.tones.length tc], .int .i64 0]) (by simp [results, Tryd.results36, go_sem, z0, z1, z2, z3, z4, z5, z6]) rfl
          ⟨sb, ta, tc, Gb, rfl, ((((((C7.out.setNew (p := ⟨w.heap.size, 0, none⟩) (Nat.le_refl _) _).setNew (p := ⟨w.heap.size, 1, none⟩) (Nat.le_refl _) _).setNew (p := ⟨w.heap.size, 2, none⟩) (Nat.le_refl _) _).setNew (p := ⟨w.heap.size, 3, none⟩) (Nat.le_refl _) _).setNew (p := ⟨w.heap.size, 4, none⟩) (Nat.le_refl _) _).setNew (p := ⟨w.heap.size, 5, none⟩) (Nat.le_refl _) _).setNew (p := ⟨w.heap.size, 6, none⟩) (Nat.le_refl _) _,
            V7.out.mine o hfar a7, ⟨SZ.out.1, SZ.out.2.1.adv a7 (fun ad e => by cases e; rw [SZ.out.1]; decide), Nat.lt_of_lt_of_le SZ.out.2.2.1 a7.size, SZ.out.2.2.2⟩, RZ.out.adv a7 (by decide)⟩
      | false =>
        by_cases hc : c < budget
        · have hcb : decide (c < budget) = true := by simpa using hc
          have HST := Lib.hid hst
          clear hst
          have C1M := Lib.hid (show wr.cell? ⟨P, 1, none⟩ = some (.int .i64 s1.st) from c1)
          have C3M := Lib.hid o3
          go_wp2_with fail
          refine (look_any HV.out HST.out).mono ?_
          rintro e w2 ⟨rfl, G2, a2⟩
          have H2 := Lib.hid (HV.out.still a2)
          have O2 := Lib.hid (HO.out.adv a2 id)
          have B2 := Lib.hid (HB.out.adv a2 id)
          have A2 := Lib.hid (AR.out.trans (a2.mono (T := S4 p i j q) fun _ h => h.elim))
          clear a2 c0 c1 c2 c3 c4 c6 o2 o3
          by_cases hlk : lookE code s1 = 0
          · have hk := look_op code s1 hlk
            have hcr := cost_rng code s1 hlk
            have hco : costOf code s1 = costsN (lookOp code s1) := if_pos hlk
            rw [if_pos hlk, if_pos hlk, hlk, show primW (lookOp code s1) = primV (lookOp code s1) from if_neg (by omega)]
            obtain ⟨k, hke⟩ : ∃ k, k = lookOp code s1 := ⟨_, rfl⟩
            rw [← hke] at hco ⊢
            rw [hco] at hcr
            obtain ⟨q0, q1⟩ := hcr
            have HLK := Lib.hid hlk
            have HCO := Lib.hid hco
            clear hk hke hlk hco
            unfold lookT primV
            have V3 := Lib.hid (H2.out.alloc (.cells #[.int .i64 k, .string (nameB k), .int .i64 (takesN k), .int .i64 (leavesN k), .int .i64 (costsN k), .bool (operandB k)] 25) 0)
            have O3 := Lib.hid (O2.out.adv ((Adv.refl (fun _ => False) w2 G2).alloc (.cells #[.int .i64 k, .string (nameB k), .int .i64 (takesN k), .int .i64 (leavesN k), .int .i64 (costsN k), .bool (operandB k)] 25) 0) id)
            have B3 := Lib.hid (B2.out.adv ((Adv.refl (fun _ => False) w2 G2).alloc (.cells #[.int .i64 k, .string (nameB k), .int .i64 (takesN k), .int .i64 (leavesN k), .int .i64 (costsN k), .bool (operandB k)] 25) 0) id)
            have A3 := Lib.hid (A2.out.alloc (.cells #[.int .i64 k, .string (nameB k), .int .i64 (takesN k), .int .i64 (leavesN k), .int .i64 (costsN k), .bool (operandB k)] 25) 0)
            have P3 := Lib.hid (heap_alloc_new w2 (.cells #[.int .i64 k, .string (nameB k), .int .i64 (takesN k), .int .i64 (leavesN k), .int .i64 (costsN k), .bool (operandB k)] 25))
            have hb2 : bo < w2.heap.size := (Array.getElem?_eq_some_iff.1 O2.out.blk).1
            have hP2 := H2.out.lt
            have e3 := O2.out.cell 3 (.int .i64 c) rfl
            obtain ⟨c0, c1, c2, c3, c4, c6⟩ := H2.out.cells
            by_cases hbk : budget < c + costsN k
            · have hov : decide (budget < c + costsN k) = true := by simpa using hbk
              have HBK := Lib.hid hbk
              have HE := Lib.hid (show F = (s1, n, c) from HR.out.symm.trans ((if_neg (by decide)).trans (go_break code budget f s1 n c (by omega) ⟨HST.out, hc⟩ ⟨HLK.out, by rw [HCO.out]; exact HBK.out⟩)))
              have o4 := O2.out.cell 4 (.int .i64 0) rfl
              have of := O2.out.free
              have i0 : 0 ≤ budget - c := by omega
              have i1 : budget - c ≤ 16384 := by omega
              have V0 := H2
              have O0 := O2
              have B0 := B2
              have C0 := A2
              have x1 := O0.out.set 4 (.int .i64 (budget - c))
              have V1 := Lib.hid (V0.out.mine o hfar x1.1)
              have O1 := Lib.hid (x1.2.sett (show _ = #[.int .i64 0, .int .i64 0, .int .i64 n, .int .i64 c, .int .i64 (budget - c), (.slice none 0 0), (.slice none 0 0)] from rfl))
              have B1 := Lib.hid (B0.out.other (b2 := bo) (Ne.symm hne) 4 (.int .i64 (budget - c)))
              have C1 := Lib.hid (C0.out.setNew (p := ⟨bo, 4, none⟩) O0.out.new (.int .i64 (budget - c)))
              clear x1
              replace O1 := Lib.hid (O1.out.adv ((Adv.refl (fun _ => False) _ _).alloc (.cells #[.int .i64 k, .string (nameB k), .int .i64 (takesN k), .int .i64 (leavesN k), .int .i64 (costsN k), .bool (operandB k)] 25) 0) id)
              replace B1 := Lib.hid (B1.out.adv ((Adv.refl (fun _ => False) _ _).alloc (.cells #[.int .i64 k, .string (nameB k), .int .i64 (takesN k), .int .i64 (leavesN k), .int .i64 (costsN k), .bool (operandB k)] 25) 0) id)
              replace C1 := Lib.hid (C1.out.alloc (.cells #[.int .i64 k, .string (nameB k), .int .i64 (takesN k), .int .i64 (leavesN k), .int .i64 (costsN k), .bool (operandB k)] 25) 0)
              replace V1 := Lib.hid (V1.out.alloc (.cells #[.int .i64 k, .string (nameB k), .int .i64 (takesN k), .int .i64 (leavesN k), .int .i64 (costsN k), .bool (operandB k)] 25) 0)
              go_wp2_with fail
              obtain ⟨wt, hwt⟩ : ∃ v, v = (w2.setCell ⟨bo, 4, none⟩ (.int .i64 (budget - c))).alloc (.cells #[.int .i64 k, .string (nameB k), .int .i64 (takesN k), .int .i64 (leavesN k), .int .i64 (costsN k), .bool (operandB k)] 25) := ⟨_, rfl⟩
              rw [← hwt] at V1 O1 B1 C1 ⊢
              clear hwt
              clear o4 of
              have p0 := O1.out.cell 0 (.int .i64 0) rfl
              have p1 := O1.out.cell 1 (.int .i64 0) rfl
              have pf := O1.out.free
              have x2 := O1.out.set 0 (.int .i64 s1.st)
              have V2 := Lib.hid (V1.out.mine o hfar x2.1)
              have O2 := Lib.hid (x2.2.sett (show _ = #[.int .i64 s1.st, .int .i64 0, .int .i64 n, .int .i64 c, .int .i64 (budget - c), (.slice none 0 0), (.slice none 0 0)] from rfl))
              have B2 := Lib.hid (B1.out.other (b2 := bo) (Ne.symm hne) 0 (.int .i64 s1.st))
              have C2 := Lib.hid (C1.out.setNew (p := ⟨bo, 0, none⟩) O1.out.new (.int .i64 s1.st))
              clear x2
              have x3 := O2.out.set 1 (.int .i64 s1.ft)
              have V3 := Lib.hid (V2.out.mine o hfar x3.1)
              have O3 := Lib.hid (x3.2.sett (show _ = #[.int .i64 s1.st, .int .i64 s1.ft, .int .i64 n, .int .i64 c, .int .i64 (budget - c), (.slice none 0 0), (.slice none 0 0)] from rfl))
              have B3 := Lib.hid (B2.out.other (b2 := bo) (Ne.symm hne) 1 (.int .i64 s1.ft))
              have C3 := Lib.hid (C2.out.setNew (p := ⟨bo, 1, none⟩) O2.out.new (.int .i64 s1.ft))
              clear x3
              have d1 := V1.out.drew.cells.2.1
              have d2 := V1.out.drew.cells.2.2.1
              have Q2 := Lib.hid (And.intro V2.out.drew.cells.2.1 V2.out.drew.cells.2.2.1)
              have Q3 := Lib.hid (And.intro V3.out.drew.cells.2.1 V3.out.drew.cells.2.2.1)
              go_region_held3 (fun w' => w'.cell? ⟨P, 1, none⟩ = some (.int .i64 s1.st) ∧ w'.cell? ⟨P, 2, none⟩ = some (.int .i64 s1.ft)) (first | with_reducible exact ⟨d1, d2⟩ | with_reducible exact Q2.out | with_reducible exact Q3.out) (fail)
              clear p0 p1 pf d1 d2 Q2 Q3
              obtain ⟨w3, hw3⟩ : ∃ v, v = ((wt.setCell ⟨bo, 0, none⟩ (.int .i64 s1.st)).setCell ⟨bo, 1, none⟩ (.int .i64 s1.ft)).drew := ⟨_, rfl⟩
              have V4 := Lib.hid V3.out.drew
              have O4 := Lib.hid O3.out.drew
              have B4 := Lib.hid B3.out.drew
              have C4 := Lib.hid C3.out.drew
              rw [← hw3] at V4 O4 B4 C4 ⊢
              clear hw3
              go_wp2_with fail
              have VD := Lib.hid V4.out.drew
              have c6 := V4.out.drew.cells.2.2.2.2.2
              go_region_held3 (fun w' => w'.cell? ⟨P, 6, none⟩ = some (.pointer (some ⟨M, 0, none⟩))) (first | with_reducible exact c6 | with_reducible exact QA.out | with_reducible exact QB.out | with_reducible exact QC.out | with_reducible exact QD.out)
                (first | (go_at_call 46; refine (screen_any _ q M s1.m VD.out.ok.gd.mo _ VD.out.tr.pm).mono ?_; rintro e wa ⟨sb, Ga, rfl, aa, sg, sn, sr, sl⟩; have VA := Lib.hid (VD.out.still aa); have OA := Lib.hid (O4.out.drew.adv aa id); have BA := Lib.hid (B4.out.drew.adv aa id); have CA := Lib.hid (C4.out.drew.trans (aa.mono (T := S4 p i j q) fun _ h => h.elim)); have SA := Lib.hid (And.intro sg (And.intro sr (And.intro sl (Nat.le_trans C4.out.drew.size sn)))); have QA := Lib.hid VA.out.cells.2.2.2.2.2; clear aa sg sn sr sl) | (go_at_call 31; refine (tones_any _ q 0 M s1.m VA.out.ok.gd.mo (by omega) _ VA.out.tr.pm).mono ?_; rintro e wb ⟨ta, tc, Gb, rfl, ab, rb⟩; have V5 := Lib.hid (VA.out.still ab); have O5 := Lib.hid (OA.out.adv ab id); have B5 := Lib.hid (BA.out.adv ab id); have C5 := Lib.hid (CA.out.trans (ab.mono (T := S4 p i j q) fun _ h => h.elim)); have SB := Lib.hid (And.intro ((ab.own _ SA.out.2.2.1).trans SA.out.1) (And.intro (SA.out.2.1.adv ab (fun _ _ => id)) (And.intro (Nat.lt_of_lt_of_le SA.out.2.2.1 ab.size) SA.out.2.2.2))); have RB := Lib.hid rb; have QB := Lib.hid V5.out.cells.2.2.2.2.2; have p5 := O5.out.cell 5 (.slice none 0 0) rfl; have p6 := O5.out.cell 6 (.slice none 0 0) rfl; have pf := O5.out.free; have x6 := O5.out.set 5 (.slice (some ⟨sb, 0, none⟩) s1.m.screen.length s1.m.screen.length); have V6 := Lib.hid (V5.out.mine o hfar x6.1); have O6 := Lib.hid (x6.2.sett (show _ = #[.int .i64 s1.st, .int .i64 s1.ft, .int .i64 n, .int .i64 c, .int .i64 (budget - c), (.slice (some ⟨sb, 0, none⟩) s1.m.screen.length s1.m.screen.length), (.slice none 0 0)] from rfl)); have B6 := Lib.hid (B5.out.other (b2 := bo) (Ne.symm hne) 5 (.slice (some ⟨sb, 0, none⟩) s1.m.screen.length s1.m.screen.length)); have C6 := Lib.hid (C5.out.setNew (p := ⟨bo, 5, none⟩) O5.out.new (.slice (some ⟨sb, 0, none⟩) s1.m.screen.length s1.m.screen.length)); clear x6; have x7 := O6.out.set 6 (.slice ta s1.m.tones.length tc); have V7 := Lib.hid (V6.out.mine o hfar x7.1); have O7 := Lib.hid (x7.2.sett (show _ = #[.int .i64 s1.st, .int .i64 s1.ft, .int .i64 n, .int .i64 c, .int .i64 (budget - c), (.slice (some ⟨sb, 0, none⟩) s1.m.screen.length s1.m.screen.length), (.slice ta s1.m.tones.length tc)] from rfl)); have B7 := Lib.hid (B6.out.other (b2 := bo) (Ne.symm hne) 6 (.slice ta s1.m.tones.length tc)); have C7 := Lib.hid (C6.out.setNew (p := ⟨bo, 6, none⟩) O6.out.new (.slice ta s1.m.tones.length tc)); clear x7; have QC := Lib.hid V6.out.cells.2.2.2.2.2; have QD := Lib.hid V7.out.cells.2.2.2.2.2; clear ab rb))
              clear p5 p6 pf c6
              obtain ⟨w6, hw6⟩ : ∃ v, v = (wb.setCell ⟨bo, 5, none⟩ (.slice (some ⟨sb, 0, none⟩) s1.m.screen.length s1.m.screen.length)).setCell ⟨bo, 6, none⟩ (.slice ta s1.m.tones.length tc) := ⟨_, rfl⟩
              have SZ := Lib.hid (show (Gb sb = 0 ∧ Reads ((wb.setCell ⟨bo, 5, none⟩ (.slice (some ⟨sb, 0, none⟩) s1.m.screen.length s1.m.screen.length)).setCell ⟨bo, 6, none⟩ (.slice ta s1.m.tones.length tc)) (some ⟨sb, 0, none⟩) (u8s s1.m.screen) ∧ sb < ((wb.setCell ⟨bo, 5, none⟩ (.slice (some ⟨sb, 0, none⟩) s1.m.screen.length s1.m.screen.length)).setCell ⟨bo, 6, none⟩ (.slice ta s1.m.tones.length tc)).heap.size ∧ w.heap.size ≤ sb) from ⟨SB.out.1, SB.out.2.1.adv ((O5.out.set 5 (.slice (some ⟨sb, 0, none⟩) s1.m.screen.length s1.m.screen.length)).1.trans (O6.out.set 6 (.slice ta s1.m.tones.length tc)).1) (fun ad e => by cases e; rw [SB.out.1]; decide), Nat.lt_of_lt_of_le SB.out.2.2.1 ((O5.out.set 5 (.slice (some ⟨sb, 0, none⟩) s1.m.screen.length s1.m.screen.length)).1.trans (O6.out.set 6 (.slice ta s1.m.tones.length tc)).1).size, SB.out.2.2.2⟩)
              have RZ := Lib.hid (RB.out.adv ((O5.out.set 5 (.slice (some ⟨sb, 0, none⟩) s1.m.screen.length s1.m.screen.length)).1.trans (O6.out.set 6 (.slice ta s1.m.tones.length tc)).1) (by decide))
              rw [← hw6] at V7 O7 B7 C7 SZ RZ ⊢
              clear hw6
              have y0 := O7.out.cell 0 (.int .i64 s1.st) rfl
              have y1 := O7.out.cell 1 (.int .i64 s1.ft) rfl
              have y2 := O7.out.cell 2 (.int .i64 n) rfl
              have y3 := O7.out.cell 3 (.int .i64 c) rfl
              have y4 := O7.out.cell 4 (.int .i64 (budget - c)) rfl
              have y5 := O7.out.cell 5 (.slice (some ⟨sb, 0, none⟩) s1.m.screen.length s1.m.screen.length) rfl
              have y6 := O7.out.cell 6 (.slice ta s1.m.tones.length tc) rfl
              have z0 := B7.out.cell 0 (.int .i64 0) rfl
              have z1 := B7.out.cell 1 (.int .i64 0) rfl
              have z2 := B7.out.cell 2 (.int .i64 0) rfl
              have z3 := B7.out.cell 3 (.int .i64 0) rfl
              have z4 := B7.out.cell 4 (.int .i64 0) rfl
              have z5 := B7.out.cell 5 (.slice none 0 0) rfl
              have z6 := B7.out.cell 6 (.slice none 0 0) rfl
              have zf := B7.out.free
              go_wp2_with fail
              rw [HE.out]
              have a7 := own7 (w := w6) (G := Gb) w.heap.size B7.out.own (.int .i64 s1.st) (.int .i64 s1.ft) (.int .i64 n) (.int .i64 c) (.int .i64 (budget - c)) (.slice (some ⟨sb, 0, none⟩) s1.m.screen.length s1.m.screen.length) (.slice ta s1.m.tones.length tc)
              exact bodyPost_ret (v := .tuple #[.agg #[.int .i64 s1.st, .int .i64 s1.ft, .int .i64 n, .int .i64 c, .int .i64 (budget - c), .slice (some ⟨sb, 0, none⟩) s1.m.screen.length s1.m.screen.length, .slice ta s1.m.tones.length tc], .int .i64 0]) (by simp [results, Tryd.results36, go_sem, z0, z1, z2, z3, z4, z5, z6]) rfl
                ⟨sb, ta, tc, Gb, rfl, ((((((C7.out.setNew (p := ⟨w.heap.size, 0, none⟩) (Nat.le_refl _) _).setNew (p := ⟨w.heap.size, 1, none⟩) (Nat.le_refl _) _).setNew (p := ⟨w.heap.size, 2, none⟩) (Nat.le_refl _) _).setNew (p := ⟨w.heap.size, 3, none⟩) (Nat.le_refl _) _).setNew (p := ⟨w.heap.size, 4, none⟩) (Nat.le_refl _) _).setNew (p := ⟨w.heap.size, 5, none⟩) (Nat.le_refl _) _).setNew (p := ⟨w.heap.size, 6, none⟩) (Nat.le_refl _) _,
                  V7.out.mine o hfar a7, ⟨SZ.out.1, SZ.out.2.1.adv a7 (fun ad e => by cases e; rw [SZ.out.1]; decide), Nat.lt_of_lt_of_le SZ.out.2.2.1 a7.size, SZ.out.2.2.2⟩, RZ.out.adv a7 (by decide)⟩
            · have hov : decide (budget < c + costsN k) = false := by simpa using hbk
              have HNB := Lib.hid (show ¬ (lookE code s1 = 0 ∧ budget < c + costOf code s1) from fun h => hbk (by have := h.2; rw [HCO.out] at this; exact this))
              have V3d := Lib.hid V3.out.drew
              have d6 := V3.out.drew.cells.2.2.2.2.2
              have d3 := O3.out.drew.cell 3 (.int .i64 c) rfl
              go_upto_region 11 with fail
              clear c0 c1 c2 c3 c4 c6 e3
              go_region_held3 (fun w' => w'.cell? ⟨P, 6, none⟩ = some (.pointer (some ⟨M, 0, none⟩)) ∧ w'.cell? ⟨bo, 3, none⟩ = some (.int .i64 c)) (first | with_reducible exact ⟨d6, d3⟩ | with_reducible exact Q4.out)
                ((go_at_call 44; refine (memAt_any _ q M s1.m V3d.out.ok.gd.mo c _ V3d.out.tr.pm).mono ?_; rintro e w4 ⟨rfl, G4, a4, p4⟩; have hb4 := VM.memCall o V3d.out a4 p4 (atF_ok V3d.out.ok.gd.mo c) (atF_rng V3d.out.ok.gd.mr c); have V4 := Lib.hid hb4.2; have A4 := Lib.hid (A3.out.drew.trans hb4.1); have O4 := Lib.hid (O3.out.drew.adv hb4.1 hfar); have B4 := Lib.hid (B3.out.drew.adv hb4.1 hfar); have P4 := Lib.hid (And.intro ((hb4.1.keep w2.heap.size (Array.getElem?_eq_some_iff.1 P3.out).1 (by show ¬ S4 p i j q (own1 w2 G2 0 w2.heap.size); rw [own1_new]; exact o.zero)).trans P3.out) ((hb4.1.own w2.heap.size (Array.getElem?_eq_some_iff.1 P3.out).1).trans (own1_new w2 G2 0))); have Q4 := Lib.hid (And.intro V4.out.cells.2.2.2.2.2 (O4.out.cell 3 (.int .i64 c) rfl)); clear a4 p4 hb4))
              clear d6 d3 hP2
              obtain ⟨s2, hs2⟩ : ∃ z : VmS, z = { s1 with m := atF s1.m c } := ⟨_, rfl⟩
              have V4s := Lib.hid (show VM w4 G4 p i j q P D R M code s2 from hs2 ▸ V4.out)
              have H2S := Lib.hid hs2
              have hst2 : s2.st = 1 := by rw [hs2]; exact HST.out
              have htn2 : s2.m.tones.length ≤ 99999 := by rw [hs2]; show s1.m.tones.length ≤ 99999; omega
              have htn3 : (s2.m.tones.length : Int) ≤ 3 * c := by rw [hs2]; exact tn
              have hok2 := step_ok code s2 V4s.out.ok
              have hk2 := look_at code s1 (atF s1.m c)
              rw [← hs2] at hk2
              have HST2 := Lib.hid hst2
              clear hs2 hst2
              go_wp2_with fail
              refine (step_any o HST2.out htn2 V4s.out).mono ?_
              rintro e w5 ⟨rfl, G5, a5, h5⟩
              have V5 := Lib.hid h5
              have A5 := Lib.hid (A4.out.trans a5)
              have O5 := Lib.hid (O4.out.adv a5 hfar)
              have B5 := Lib.hid (B4.out.adv a5 hfar)
              have P5 := Lib.hid ((a5.keep w2.heap.size (Array.getElem?_eq_some_iff.1 P4.out.1).1 (by rw [P4.out.2]; exact o.zero)).trans P4.out.1)
              clear a5 h5
              by_cases hse : stepE code s2 = 0
              · have hs3 := step_st_ok code s2 HST2.out hse
                have hgo : ∃ f', f = f' + 1 ∧ frameGo code budget f s1 n c = frameRest code budget f' (stepY code s2) (stepS code s2) (n + 1) (c + costsN k) := by
                  obtain ⟨f', rfl⟩ : ∃ g, f = g + 1 := ⟨f - 1, by omega⟩
                  refine ⟨f', rfl, ?_⟩
                  rw [← HCO.out, H2S.out]
                  exact go_step code budget f' s1 n c ⟨HST.out, hc⟩ HNB.out (H2S.out ▸ hse)
                obtain ⟨f', hf', hgo⟩ := hgo
                obtain ⟨s3, hs3e⟩ : ∃ z : VmS, z = stepS code s2 := ⟨_, rfl⟩
                obtain ⟨y3, hy3⟩ : ∃ z : Bool, z = stepY code s2 := ⟨_, rfl⟩
                rw [← hs3e] at hs3 hok2
                rw [← hs3e, ← hy3] at hgo
                rw [← hy3]
                have V6 := Lib.hid (show VM w5 G5 p i j q P D R M code s3 from hs3e ▸ V5.out)
                have HGO := Lib.hid (And.intro hf' hgo)
                have htn4 := hok2.2
                have d1 := V6.out.cells.2.1
                have hne3 : (s3.st != 3) = true := by simp; omega
                have HS3 := Lib.hid hs3
                have m2 := O5.out.cell 2 (.int .i64 n) rfl
                have m3 := O5.out.cell 3 (.int .i64 c) rfl
                have mf := O5.out.free
                have q4 := block_cell P5.out 4 (.int .i64 (costsN k)) rfl
                have hbp : w2.heap.size ≠ bo := by omega
                have x6 := O5.out.set 2 (.int .i64 (n + 1))
                have V7 := Lib.hid (V6.out.mine o hfar x6.1)
                have O6 := Lib.hid (x6.2.sett (show _ = #[.int .i64 0, .int .i64 0, .int .i64 (n + 1), .int .i64 c, .int .i64 0, (.slice none 0 0), (.slice none 0 0)] from rfl))
                have B6 := Lib.hid (B5.out.other (b2 := bo) (Ne.symm hne) 2 (.int .i64 (n + 1)))
                have A6 := Lib.hid (A5.out.setNew (p := ⟨bo, 2, none⟩) O5.out.new (.int .i64 (n + 1)))
                have x7 := O6.out.set 3 (.int .i64 (c + costsN k))
                have V8 := Lib.hid (V7.out.mine o hfar x7.1)
                have O7 := Lib.hid (x7.2.sett (show _ = #[.int .i64 0, .int .i64 0, .int .i64 (n + 1), .int .i64 (c + costsN k), .int .i64 0, (.slice none 0 0), (.slice none 0 0)] from rfl))
                have B7 := Lib.hid (B6.out.other (b2 := bo) (Ne.symm hne) 3 (.int .i64 (c + costsN k)))
                have A7 := Lib.hid (A6.out.setNew (p := ⟨bo, 3, none⟩) O6.out.new (.int .i64 (c + costsN k)))
                have d8 := V8.out.cells.2.1
                have e8 := O7.out.cell 3 (.int .i64 (c + costsN k)) rfl
                have M8 := Lib.hid (And.intro d8 e8)
                clear x6 x7 hs3e hy3 hs3 hf' hgo hok2 hse d8 e8
                go_wp2
                go_roundw
                case rel =>
                  obtain ⟨hf', hgo⟩ := HGO.out
                  exact ⟨y3, s3, n + 1, c + costsN k, G5, f', rfl, A7.out, V8.out, B7.out, O7.out, by omega, by omega, by omega, by omega, by omega, by omega, by rw [← HR.out]; exact hgo.symm⟩
                case measure =>
                  simp only [M8.out.1, M8.out.2, C1M.out, C3M.out, HST.out, Option.getD_some, intOf]
                  rw [if_pos trivial]
                  split <;> omega
              · have hy : stepY code s2 = false := by
                  unfold stepY
                  have : (stepE code s2 == 0) = false := by simpa using hse
                  rw [this]; rfl
                have hs3 : (stepS code s2).st = 3 := by rw [step_st code s2 hse]
                have hgo : frameGo code budget f s1 n c = (stepS code s2, n, c) := by
                  rw [H2S.out]
                  exact go_fault code budget f s1 n c (by omega) ⟨HST.out, hc⟩ HNB.out (H2S.out ▸ hse)
                rw [hy]
                obtain ⟨s3, hs3e⟩ : ∃ z : VmS, z = stepS code s2 := ⟨_, rfl⟩
                rw [← hs3e] at hs3 hgo hok2
                have V6 := Lib.hid (show VM w5 G5 p i j q P D R M code s3 from hs3e ▸ V5.out)
                have HGO := Lib.hid hgo
                have HS3 := Lib.hid hs3
                have tn3 : s3.m.tones.length ≤ s2.m.tones.length := by rw [hs3e, step_st code s2 hse]; exact Nat.le_refl _
                have d1 : w5.cell? ⟨P, 1, none⟩ = some (.int .i64 3) := by rw [V6.out.cells.2.1, HS3.out]
                have m3 := O5.out.cell 3 (.int .i64 c) rfl
                clear hs3e hs3 hgo hy hse
                go_wp2
                go_roundw
                case rel =>
                  exact ⟨false, s3, n, c, G5, f, rfl, A5.out, V6.out, B5.out, O5.out, n0, cl0, cl1, nc, by omega, fl, by rw [← HR.out]; show frameGo code budget f s3 n c = frameGo code budget f s1 n c; rw [HGO.out]; exact go_stop _ _ _ _ _ _ (fun h => by rw [HS3.out] at h; exact absurd h.1 (by decide))⟩
                case measure =>
                  simp only [d1, m3, C1M.out, C3M.out, HST.out, Option.getD_some, intOf]
                  rw [if_neg (by decide), if_pos trivial]
                  omega
          · rw [if_neg hlk, if_neg hlk, show primW 0 = primV0 from rfl]
            have hlb : (lookE code s1 == 0) = false := by simpa using hlk
            obtain ⟨L, hL⟩ : ∃ L, L = lookE code s1 := ⟨_, rfl⟩
            have HLN := Lib.hid hlk
            have HLE := Lib.hid hL
            rw [← hL] at hlb ⊢
            clear hL hlk
            unfold lookT primV0
            have V3 := Lib.hid (H2.out.alloc (.cells #[.int .i64 0, .string ⟨#[]⟩, .int .i64 0, .int .i64 0, .int .i64 0, .bool false] 25) 0)
            have O3 := Lib.hid (O2.out.adv ((Adv.refl (fun _ => False) w2 G2).alloc (.cells #[.int .i64 0, .string ⟨#[]⟩, .int .i64 0, .int .i64 0, .int .i64 0, .bool false] 25) 0) id)
            have B3 := Lib.hid (B2.out.adv ((Adv.refl (fun _ => False) w2 G2).alloc (.cells #[.int .i64 0, .string ⟨#[]⟩, .int .i64 0, .int .i64 0, .int .i64 0, .bool false] 25) 0) id)
            have A3 := Lib.hid (A2.out.alloc (.cells #[.int .i64 0, .string ⟨#[]⟩, .int .i64 0, .int .i64 0, .int .i64 0, .bool false] 25) 0)
            have P3 := Lib.hid (heap_alloc_new w2 (.cells #[.int .i64 0, .string ⟨#[]⟩, .int .i64 0, .int .i64 0, .int .i64 0, .bool false] 25))
            have hb2 : bo < w2.heap.size := (Array.getElem?_eq_some_iff.1 O2.out.blk).1
            have hP2 := H2.out.lt
            have e3 := O2.out.cell 3 (.int .i64 c) rfl
            obtain ⟨c0, c1, c2, c3, c4, c6⟩ := H2.out.cells
            have V3d := Lib.hid V3.out.drew
            have d6 := V3.out.drew.cells.2.2.2.2.2
            have d3 := O3.out.drew.cell 3 (.int .i64 c) rfl
            go_upto_region 11 with fail
            clear c0 c1 c2 c3 c4 c6 e3
            go_region_held3 (fun w' => w'.cell? ⟨P, 6, none⟩ = some (.pointer (some ⟨M, 0, none⟩)) ∧ w'.cell? ⟨bo, 3, none⟩ = some (.int .i64 c)) (first | with_reducible exact ⟨d6, d3⟩ | with_reducible exact Q4.out)
              ((go_at_call 44; refine (memAt_any _ q M s1.m V3d.out.ok.gd.mo c _ V3d.out.tr.pm).mono ?_; rintro e w4 ⟨rfl, G4, a4, p4⟩; have hb4 := VM.memCall o V3d.out a4 p4 (atF_ok V3d.out.ok.gd.mo c) (atF_rng V3d.out.ok.gd.mr c); have V4 := Lib.hid hb4.2; have A4 := Lib.hid (A3.out.drew.trans hb4.1); have O4 := Lib.hid (O3.out.drew.adv hb4.1 hfar); have B4 := Lib.hid (B3.out.drew.adv hb4.1 hfar); have P4 := Lib.hid (And.intro ((hb4.1.keep w2.heap.size (Array.getElem?_eq_some_iff.1 P3.out).1 (by show ¬ S4 p i j q (own1 w2 G2 0 w2.heap.size); rw [own1_new]; exact o.zero)).trans P3.out) ((hb4.1.own w2.heap.size (Array.getElem?_eq_some_iff.1 P3.out).1).trans (own1_new w2 G2 0))); have Q4 := Lib.hid (And.intro V4.out.cells.2.2.2.2.2 (O4.out.cell 3 (.int .i64 c) rfl)); clear a4 p4 hb4))
            clear d6 d3 hP2
            obtain ⟨s2, hs2⟩ : ∃ z : VmS, z = { s1 with m := atF s1.m c } := ⟨_, rfl⟩
            have V4s := Lib.hid (show VM w4 G4 p i j q P D R M code s2 from hs2 ▸ V4.out)
            have H2S := Lib.hid hs2
            have hst2 : s2.st = 1 := by rw [hs2]; exact HST.out
            have htn2 : s2.m.tones.length ≤ 99999 := by rw [hs2]; show s1.m.tones.length ≤ 99999; omega
            have htn3 : (s2.m.tones.length : Int) ≤ 3 * c := by rw [hs2]; exact tn
            have hok2 := step_ok code s2 V4s.out.ok
            have hk2 := look_at code s1 (atF s1.m c)
            rw [← hs2] at hk2
            have HST2 := Lib.hid hst2
            clear hs2 hst2
            go_wp2_with fail
            refine (step_any o HST2.out htn2 V4s.out).mono ?_
            rintro e w5 ⟨rfl, G5, a5, h5⟩
            have V5 := Lib.hid h5
            have A5 := Lib.hid (A4.out.trans a5)
            have O5 := Lib.hid (O4.out.adv a5 hfar)
            have B5 := Lib.hid (B4.out.adv a5 hfar)
            have P5 := Lib.hid ((a5.keep w2.heap.size (Array.getElem?_eq_some_iff.1 P4.out.1).1 (by rw [P4.out.2]; exact o.zero)).trans P4.out.1)
            clear a5 h5
            have hse : stepE code s2 ≠ 0 := by
              unfold stepE
              rw [hk2.1, if_pos HLN.out]; exact HLN.out
            have hy : stepY code s2 = false := by
              unfold stepY
              have : (stepE code s2 == 0) = false := by simpa using hse
              rw [this]; rfl
            have hs3 : (stepS code s2).st = 3 := by rw [step_st code s2 hse]
            have hgo : frameGo code budget f s1 n c = (stepS code s2, n, c) := by
              rw [H2S.out]
              exact go_fault code budget f s1 n c (by omega) ⟨HST.out, hc⟩ (fun h => HLN.out h.1) (H2S.out ▸ hse)
            rw [hy]
            obtain ⟨s3, hs3e⟩ : ∃ z : VmS, z = stepS code s2 := ⟨_, rfl⟩
            rw [← hs3e] at hs3 hgo hok2
            have V6 := Lib.hid (show VM w5 G5 p i j q P D R M code s3 from hs3e ▸ V5.out)
            have HGO := Lib.hid hgo
            have HS3 := Lib.hid hs3
            have tn3 : s3.m.tones.length ≤ s2.m.tones.length := by rw [hs3e, step_st code s2 hse]; exact Nat.le_refl _
            have d1 : w5.cell? ⟨P, 1, none⟩ = some (.int .i64 3) := by rw [V6.out.cells.2.1, HS3.out]
            have m3 := O5.out.cell 3 (.int .i64 c) rfl
            clear hs3e hs3 hgo hy hse
            go_wp2
            go_roundw
            case rel =>
              exact ⟨false, s3, n, c, G5, f, rfl, A5.out, V6.out, B5.out, O5.out, n0, cl0, cl1, nc, by omega, fl, by rw [← HR.out]; show frameGo code budget f s3 n c = frameGo code budget f s1 n c; rw [HGO.out]; exact go_stop _ _ _ _ _ _ (fun h => by rw [HS3.out] at h; exact absurd h.1 (by decide))⟩
            case measure =>
              simp only [d1, m3, C1M.out, C3M.out, HST.out, Option.getD_some, intOf]
              rw [if_neg (by decide), if_pos trivial]
              omega
        · have hcb : decide (c < budget) = false := by simpa using hc
          have HST := Lib.hid hst
          clear hst
          have HE := Lib.hid (show F = (s1, n, c) from HR.out.symm.trans ((if_neg (by decide)).trans (go_stop _ _ _ _ _ _ (fun h => hc h.2))))
          have o4 := HO.out.cell 4 (.int .i64 0) rfl
          have of := HO.out.free
          have i0 : 0 ≤ budget - c := by omega
          have i1 : budget - c ≤ 16384 := by omega
          have V0 := HV
          have O0 := HO
          have B0 := HB
          have C0 := AR
          have x1 := O0.out.set 4 (.int .i64 (budget - c))
          have V1 := Lib.hid (V0.out.mine o hfar x1.1)
          have O1 := Lib.hid (x1.2.sett (show _ = #[.int .i64 0, .int .i64 0, .int .i64 n, .int .i64 c, .int .i64 (budget - c), (.slice none 0 0), (.slice none 0 0)] from rfl))
          have B1 := Lib.hid (B0.out.other (b2 := bo) (Ne.symm hne) 4 (.int .i64 (budget - c)))
          have C1 := Lib.hid (C0.out.setNew (p := ⟨bo, 4, none⟩) O0.out.new (.int .i64 (budget - c)))
          clear x1
          go_wp2_with fail
          obtain ⟨wt, hwt⟩ : ∃ v, v = wr.setCell ⟨bo, 4, none⟩ (.int .i64 (budget - c)) := ⟨_, rfl⟩
          rw [← hwt] at V1 O1 B1 C1 ⊢
          clear hwt
          clear o4 of
          have p0 := O1.out.cell 0 (.int .i64 0) rfl
          have p1 := O1.out.cell 1 (.int .i64 0) rfl
          have pf := O1.out.free
          have x2 := O1.out.set 0 (.int .i64 s1.st)
          have V2 := Lib.hid (V1.out.mine o hfar x2.1)
          have O2 := Lib.hid (x2.2.sett (show _ = #[.int .i64 s1.st, .int .i64 0, .int .i64 n, .int .i64 c, .int .i64 (budget - c), (.slice none 0 0), (.slice none 0 0)] from rfl))
          have B2 := Lib.hid (B1.out.other (b2 := bo) (Ne.symm hne) 0 (.int .i64 s1.st))
          have C2 := Lib.hid (C1.out.setNew (p := ⟨bo, 0, none⟩) O1.out.new (.int .i64 s1.st))
          clear x2
          have x3 := O2.out.set 1 (.int .i64 s1.ft)
          have V3 := Lib.hid (V2.out.mine o hfar x3.1)
          have O3 := Lib.hid (x3.2.sett (show _ = #[.int .i64 s1.st, .int .i64 s1.ft, .int .i64 n, .int .i64 c, .int .i64 (budget - c), (.slice none 0 0), (.slice none 0 0)] from rfl))
          have B3 := Lib.hid (B2.out.other (b2 := bo) (Ne.symm hne) 1 (.int .i64 s1.ft))
          have C3 := Lib.hid (C2.out.setNew (p := ⟨bo, 1, none⟩) O2.out.new (.int .i64 s1.ft))
          clear x3
          have d1 := V1.out.drew.cells.2.1
          have d2 := V1.out.drew.cells.2.2.1
          have Q2 := Lib.hid (And.intro V2.out.drew.cells.2.1 V2.out.drew.cells.2.2.1)
          have Q3 := Lib.hid (And.intro V3.out.drew.cells.2.1 V3.out.drew.cells.2.2.1)
          go_region_held3 (fun w' => w'.cell? ⟨P, 1, none⟩ = some (.int .i64 s1.st) ∧ w'.cell? ⟨P, 2, none⟩ = some (.int .i64 s1.ft)) (first | with_reducible exact ⟨d1, d2⟩ | with_reducible exact Q2.out | with_reducible exact Q3.out) (fail)
          clear p0 p1 pf d1 d2 Q2 Q3
          obtain ⟨w3, hw3⟩ : ∃ v, v = ((wt.setCell ⟨bo, 0, none⟩ (.int .i64 s1.st)).setCell ⟨bo, 1, none⟩ (.int .i64 s1.ft)).drew := ⟨_, rfl⟩
          have V4 := Lib.hid V3.out.drew
          have O4 := Lib.hid O3.out.drew
          have B4 := Lib.hid B3.out.drew
          have C4 := Lib.hid C3.out.drew
          rw [← hw3] at V4 O4 B4 C4 ⊢
          clear hw3
          go_wp2_with fail
          have VD := Lib.hid V4.out.drew
          have c6 := V4.out.drew.cells.2.2.2.2.2
          go_region_held3 (fun w' => w'.cell? ⟨P, 6, none⟩ = some (.pointer (some ⟨M, 0, none⟩))) (first | with_reducible exact c6 | with_reducible exact QA.out | with_reducible exact QB.out | with_reducible exact QC.out | with_reducible exact QD.out)
            (first | (go_at_call 46; refine (screen_any _ q M s1.m VD.out.ok.gd.mo _ VD.out.tr.pm).mono ?_; rintro e wa ⟨sb, Ga, rfl, aa, sg, sn, sr, sl⟩; have VA := Lib.hid (VD.out.still aa); have OA := Lib.hid (O4.out.drew.adv aa id); have BA := Lib.hid (B4.out.drew.adv aa id); have CA := Lib.hid (C4.out.drew.trans (aa.mono (T := S4 p i j q) fun _ h => h.elim)); have SA := Lib.hid (And.intro sg (And.intro sr (And.intro sl (Nat.le_trans C4.out.drew.size sn)))); have QA := Lib.hid VA.out.cells.2.2.2.2.2; clear aa sg sn sr sl) | (go_at_call 31; refine (tones_any _ q 0 M s1.m VA.out.ok.gd.mo (by omega) _ VA.out.tr.pm).mono ?_; rintro e wb ⟨ta, tc, Gb, rfl, ab, rb⟩; have V5 := Lib.hid (VA.out.still ab); have O5 := Lib.hid (OA.out.adv ab id); have B5 := Lib.hid (BA.out.adv ab id); have C5 := Lib.hid (CA.out.trans (ab.mono (T := S4 p i j q) fun _ h => h.elim)); have SB := Lib.hid (And.intro ((ab.own _ SA.out.2.2.1).trans SA.out.1) (And.intro (SA.out.2.1.adv ab (fun _ _ => id)) (And.intro (Nat.lt_of_lt_of_le SA.out.2.2.1 ab.size) SA.out.2.2.2))); have RB := Lib.hid rb; have QB := Lib.hid V5.out.cells.2.2.2.2.2; have p5 := O5.out.cell 5 (.slice none 0 0) rfl; have p6 := O5.out.cell 6 (.slice none 0 0) rfl; have pf := O5.out.free; have x6 := O5.out.set 5 (.slice (some ⟨sb, 0, none⟩) s1.m.screen.length s1.m.screen.length); have V6 := Lib.hid (V5.out.mine o hfar x6.1); have O6 := Lib.hid (x6.2.sett (show _ = #[.int .i64 s1.st, .int .i64 s1.ft, .int .i64 n, .int .i64 c, .int .i64 (budget - c), (.slice (some ⟨sb, 0, none⟩) s1.m.screen.length s1.m.screen.length), (.slice none 0 0)] from rfl)); have B6 := Lib.hid (B5.out.other (b2 := bo) (Ne.symm hne) 5 (.slice (some ⟨sb, 0, none⟩) s1.m.screen.length s1.m.screen.length)); have C6 := Lib.hid (C5.out.setNew (p := ⟨bo, 5, none⟩) O5.out.new (.slice (some ⟨sb, 0, none⟩) s1.m.screen.length s1.m.screen.length)); clear x6; have x7 := O6.out.set 6 (.slice ta s1.m.tones.length tc); have V7 := Lib.hid (V6.out.mine o hfar x7.1); have O7 := Lib.hid (x7.2.sett (show _ = #[.int .i64 s1.st, .int .i64 s1.ft, .int .i64 n, .int .i64 c, .int .i64 (budget - c), (.slice (some ⟨sb, 0, none⟩) s1.m.screen.length s1.m.screen.length), (.slice ta s1.m.tones.length tc)] from rfl)); have B7 := Lib.hid (B6.out.other (b2 := bo) (Ne.symm hne) 6 (.slice ta s1.m.tones.length tc)); have C7 := Lib.hid (C6.out.setNew (p := ⟨bo, 6, none⟩) O6.out.new (.slice ta s1.m.tones.length tc)); clear x7; have QC := Lib.hid V6.out.cells.2.2.2.2.2; have QD := Lib.hid V7.out.cells.2.2.2.2.2; clear ab rb))
          clear p5 p6 pf c6
          obtain ⟨w6, hw6⟩ : ∃ v, v = (wb.setCell ⟨bo, 5, none⟩ (.slice (some ⟨sb, 0, none⟩) s1.m.screen.length s1.m.screen.length)).setCell ⟨bo, 6, none⟩ (.slice ta s1.m.tones.length tc) := ⟨_, rfl⟩
          have SZ := Lib.hid (show (Gb sb = 0 ∧ Reads ((wb.setCell ⟨bo, 5, none⟩ (.slice (some ⟨sb, 0, none⟩) s1.m.screen.length s1.m.screen.length)).setCell ⟨bo, 6, none⟩ (.slice ta s1.m.tones.length tc)) (some ⟨sb, 0, none⟩) (u8s s1.m.screen) ∧ sb < ((wb.setCell ⟨bo, 5, none⟩ (.slice (some ⟨sb, 0, none⟩) s1.m.screen.length s1.m.screen.length)).setCell ⟨bo, 6, none⟩ (.slice ta s1.m.tones.length tc)).heap.size ∧ w.heap.size ≤ sb) from ⟨SB.out.1, SB.out.2.1.adv ((O5.out.set 5 (.slice (some ⟨sb, 0, none⟩) s1.m.screen.length s1.m.screen.length)).1.trans (O6.out.set 6 (.slice ta s1.m.tones.length tc)).1) (fun ad e => by cases e; rw [SB.out.1]; decide), Nat.lt_of_lt_of_le SB.out.2.2.1 ((O5.out.set 5 (.slice (some ⟨sb, 0, none⟩) s1.m.screen.length s1.m.screen.length)).1.trans (O6.out.set 6 (.slice ta s1.m.tones.length tc)).1).size, SB.out.2.2.2⟩)
          have RZ := Lib.hid (RB.out.adv ((O5.out.set 5 (.slice (some ⟨sb, 0, none⟩) s1.m.screen.length s1.m.screen.length)).1.trans (O6.out.set 6 (.slice ta s1.m.tones.length tc)).1) (by decide))
          rw [← hw6] at V7 O7 B7 C7 SZ RZ ⊢
          clear hw6
          have y0 := O7.out.cell 0 (.int .i64 s1.st) rfl
          have y1 := O7.out.cell 1 (.int .i64 s1.ft) rfl
          have y2 := O7.out.cell 2 (.int .i64 n) rfl
          have y3 := O7.out.cell 3 (.int .i64 c) rfl
          have y4 := O7.out.cell 4 (.int .i64 (budget - c)) rfl
          have y5 := O7.out.cell 5 (.slice (some ⟨sb, 0, none⟩) s1.m.screen.length s1.m.screen.length) rfl
          have y6 := O7.out.cell 6 (.slice ta s1.m.tones.length tc) rfl
          have z0 := B7.out.cell 0 (.int .i64 0) rfl
          have z1 := B7.out.cell 1 (.int .i64 0) rfl
          have z2 := B7.out.cell 2 (.int .i64 0) rfl
          have z3 := B7.out.cell 3 (.int .i64 0) rfl
          have z4 := B7.out.cell 4 (.int .i64 0) rfl
          have z5 := B7.out.cell 5 (.slice none 0 0) rfl
          have z6 := B7.out.cell 6 (.slice none 0 0) rfl
          have zf := B7.out.free
          go_wp2_with fail
          rw [HE.out]
          have a7 := own7 (w := w6) (G := Gb) w.heap.size B7.out.own (.int .i64 s1.st) (.int .i64 s1.ft) (.int .i64 n) (.int .i64 c) (.int .i64 (budget - c)) (.slice (some ⟨sb, 0, none⟩) s1.m.screen.length s1.m.screen.length) (.slice ta s1.m.tones.length tc)
          exact bodyPost_ret (v := .tuple #[.agg #[.int .i64 s1.st, .int .i64 s1.ft, .int .i64 n, .int .i64 c, .int .i64 (budget - c), .slice (some ⟨sb, 0, none⟩) s1.m.screen.length s1.m.screen.length, .slice ta s1.m.tones.length tc], .int .i64 0]) (by simp [results, Tryd.results36, go_sem, z0, z1, z2, z3, z4, z5, z6]) rfl
            ⟨sb, ta, tc, Gb, rfl, ((((((C7.out.setNew (p := ⟨w.heap.size, 0, none⟩) (Nat.le_refl _) _).setNew (p := ⟨w.heap.size, 1, none⟩) (Nat.le_refl _) _).setNew (p := ⟨w.heap.size, 2, none⟩) (Nat.le_refl _) _).setNew (p := ⟨w.heap.size, 3, none⟩) (Nat.le_refl _) _).setNew (p := ⟨w.heap.size, 4, none⟩) (Nat.le_refl _) _).setNew (p := ⟨w.heap.size, 5, none⟩) (Nat.le_refl _) _).setNew (p := ⟨w.heap.size, 6, none⟩) (Nat.le_refl _) _,
              V7.out.mine o hfar a7, ⟨SZ.out.1, SZ.out.2.1.adv a7 (fun ad e => by cases e; rw [SZ.out.1]; decide), Nat.lt_of_lt_of_le SZ.out.2.2.1 a7.size, SZ.out.2.2.2⟩, RZ.out.adv a7 (by decide)⟩
    · have hstb : (s1.st == 1) = false := by simpa using hst
      have HE := Lib.hid (show F = (s1, n, c) from by rw [← HR.out]; unfold frameRest; split; exact rfl; exact go_stop _ _ _ _ _ _ (fun h => hst h.1))
      have o4 := HO.out.cell 4 (.int .i64 0) rfl
      have of := HO.out.free
      have i0 : 0 ≤ budget - c := by omega
      have i1 : budget - c ≤ 16384 := by omega
      have V0 := HV
      have O0 := HO
      have B0 := HB
      have C0 := AR
      have x1 := O0.out.set 4 (.int .i64 (budget - c))
      have V1 := Lib.hid (V0.out.mine o hfar x1.1)
      have O1 := Lib.hid (x1.2.sett (show _ = #[.int .i64 0, .int .i64 0, .int .i64 n, .int .i64 c, .int .i64 (budget - c), (.slice none 0 0), (.slice none 0 0)] from rfl))
      have B1 := Lib.hid (B0.out.other (b2 := bo) (Ne.symm hne) 4 (.int .i64 (budget - c)))
      have C1 := Lib.hid (C0.out.setNew (p := ⟨bo, 4, none⟩) O0.out.new (.int .i64 (budget - c)))
      clear x1
      go_wp2_with fail
      obtain ⟨wt, hwt⟩ : ∃ v, v = wr.setCell ⟨bo, 4, none⟩ (.int .i64 (budget - c)) := ⟨_, rfl⟩
      rw [← hwt] at V1 O1 B1 C1 ⊢
      clear hwt
      clear o4 of
      have p0 := O1.out.cell 0 (.int .i64 0) rfl
      have p1 := O1.out.cell 1 (.int .i64 0) rfl
      have pf := O1.out.free
      have x2 := O1.out.set 0 (.int .i64 s1.st)
      have V2 := Lib.hid (V1.out.mine o hfar x2.1)
      have O2 := Lib.hid (x2.2.sett (show _ = #[.int .i64 s1.st, .int .i64 0, .int .i64 n, .int .i64 c, .int .i64 (budget - c), (.slice none 0 0), (.slice none 0 0)] from rfl))
      have B2 := Lib.hid (B1.out.other (b2 := bo) (Ne.symm hne) 0 (.int .i64 s1.st))
      have C2 := Lib.hid (C1.out.setNew (p := ⟨bo, 0, none⟩) O1.out.new (.int .i64 s1.st))
      clear x2
      have x3 := O2.out.set 1 (.int .i64 s1.ft)
      have V3 := Lib.hid (V2.out.mine o hfar x3.1)
      have O3 := Lib.hid (x3.2.sett (show _ = #[.int .i64 s1.st, .int .i64 s1.ft, .int .i64 n, .int .i64 c, .int .i64 (budget - c), (.slice none 0 0), (.slice none 0 0)] from rfl))
      have B3 := Lib.hid (B2.out.other (b2 := bo) (Ne.symm hne) 1 (.int .i64 s1.ft))
      have C3 := Lib.hid (C2.out.setNew (p := ⟨bo, 1, none⟩) O2.out.new (.int .i64 s1.ft))
      clear x3
      have d1 := V1.out.drew.cells.2.1
      have d2 := V1.out.drew.cells.2.2.1
      have Q2 := Lib.hid (And.intro V2.out.drew.cells.2.1 V2.out.drew.cells.2.2.1)
      have Q3 := Lib.hid (And.intro V3.out.drew.cells.2.1 V3.out.drew.cells.2.2.1)
      go_region_held3 (fun w' => w'.cell? ⟨P, 1, none⟩ = some (.int .i64 s1.st) ∧ w'.cell? ⟨P, 2, none⟩ = some (.int .i64 s1.ft)) (first | with_reducible exact ⟨d1, d2⟩ | with_reducible exact Q2.out | with_reducible exact Q3.out) (fail)
      clear p0 p1 pf d1 d2 Q2 Q3
      obtain ⟨w3, hw3⟩ : ∃ v, v = ((wt.setCell ⟨bo, 0, none⟩ (.int .i64 s1.st)).setCell ⟨bo, 1, none⟩ (.int .i64 s1.ft)).drew := ⟨_, rfl⟩
      have V4 := Lib.hid V3.out.drew
      have O4 := Lib.hid O3.out.drew
      have B4 := Lib.hid B3.out.drew
      have C4 := Lib.hid C3.out.drew
      rw [← hw3] at V4 O4 B4 C4 ⊢
      clear hw3
      go_wp2_with fail
      have VD := Lib.hid V4.out.drew
      have c6 := V4.out.drew.cells.2.2.2.2.2
      go_region_held3 (fun w' => w'.cell? ⟨P, 6, none⟩ = some (.pointer (some ⟨M, 0, none⟩))) (first | with_reducible exact c6 | with_reducible exact QA.out | with_reducible exact QB.out | with_reducible exact QC.out | with_reducible exact QD.out)
        (first | (go_at_call 46; refine (screen_any _ q M s1.m VD.out.ok.gd.mo _ VD.out.tr.pm).mono ?_; rintro e wa ⟨sb, Ga, rfl, aa, sg, sn, sr, sl⟩; have VA := Lib.hid (VD.out.still aa); have OA := Lib.hid (O4.out.drew.adv aa id); have BA := Lib.hid (B4.out.drew.adv aa id); have CA := Lib.hid (C4.out.drew.trans (aa.mono (T := S4 p i j q) fun _ h => h.elim)); have SA := Lib.hid (And.intro sg (And.intro sr (And.intro sl (Nat.le_trans C4.out.drew.size sn)))); have QA := Lib.hid VA.out.cells.2.2.2.2.2; clear aa sg sn sr sl) | (go_at_call 31; refine (tones_any _ q 0 M s1.m VA.out.ok.gd.mo (by omega) _ VA.out.tr.pm).mono ?_; rintro e wb ⟨ta, tc, Gb, rfl, ab, rb⟩; have V5 := Lib.hid (VA.out.still ab); have O5 := Lib.hid (OA.out.adv ab id); have B5 := Lib.hid (BA.out.adv ab id); have C5 := Lib.hid (CA.out.trans (ab.mono (T := S4 p i j q) fun _ h => h.elim)); have SB := Lib.hid (And.intro ((ab.own _ SA.out.2.2.1).trans SA.out.1) (And.intro (SA.out.2.1.adv ab (fun _ _ => id)) (And.intro (Nat.lt_of_lt_of_le SA.out.2.2.1 ab.size) SA.out.2.2.2))); have RB := Lib.hid rb; have QB := Lib.hid V5.out.cells.2.2.2.2.2; have p5 := O5.out.cell 5 (.slice none 0 0) rfl; have p6 := O5.out.cell 6 (.slice none 0 0) rfl; have pf := O5.out.free; have x6 := O5.out.set 5 (.slice (some ⟨sb, 0, none⟩) s1.m.screen.length s1.m.screen.length); have V6 := Lib.hid (V5.out.mine o hfar x6.1); have O6 := Lib.hid (x6.2.sett (show _ = #[.int .i64 s1.st, .int .i64 s1.ft, .int .i64 n, .int .i64 c, .int .i64 (budget - c), (.slice (some ⟨sb, 0, none⟩) s1.m.screen.length s1.m.screen.length), (.slice none 0 0)] from rfl)); have B6 := Lib.hid (B5.out.other (b2 := bo) (Ne.symm hne) 5 (.slice (some ⟨sb, 0, none⟩) s1.m.screen.length s1.m.screen.length)); have C6 := Lib.hid (C5.out.setNew (p := ⟨bo, 5, none⟩) O5.out.new (.slice (some ⟨sb, 0, none⟩) s1.m.screen.length s1.m.screen.length)); clear x6; have x7 := O6.out.set 6 (.slice ta s1.m.tones.length tc); have V7 := Lib.hid (V6.out.mine o hfar x7.1); have O7 := Lib.hid (x7.2.sett (show _ = #[.int .i64 s1.st, .int .i64 s1.ft, .int .i64 n, .int .i64 c, .int .i64 (budget - c), (.slice (some ⟨sb, 0, none⟩) s1.m.screen.length s1.m.screen.length), (.slice ta s1.m.tones.length tc)] from rfl)); have B7 := Lib.hid (B6.out.other (b2 := bo) (Ne.symm hne) 6 (.slice ta s1.m.tones.length tc)); have C7 := Lib.hid (C6.out.setNew (p := ⟨bo, 6, none⟩) O6.out.new (.slice ta s1.m.tones.length tc)); clear x7; have QC := Lib.hid V6.out.cells.2.2.2.2.2; have QD := Lib.hid V7.out.cells.2.2.2.2.2; clear ab rb))
      clear p5 p6 pf c6
      obtain ⟨w6, hw6⟩ : ∃ v, v = (wb.setCell ⟨bo, 5, none⟩ (.slice (some ⟨sb, 0, none⟩) s1.m.screen.length s1.m.screen.length)).setCell ⟨bo, 6, none⟩ (.slice ta s1.m.tones.length tc) := ⟨_, rfl⟩
      have SZ := Lib.hid (show (Gb sb = 0 ∧ Reads ((wb.setCell ⟨bo, 5, none⟩ (.slice (some ⟨sb, 0, none⟩) s1.m.screen.length s1.m.screen.length)).setCell ⟨bo, 6, none⟩ (.slice ta s1.m.tones.length tc)) (some ⟨sb, 0, none⟩) (u8s s1.m.screen) ∧ sb < ((wb.setCell ⟨bo, 5, none⟩ (.slice (some ⟨sb, 0, none⟩) s1.m.screen.length s1.m.screen.length)).setCell ⟨bo, 6, none⟩ (.slice ta s1.m.tones.length tc)).heap.size ∧ w.heap.size ≤ sb) from ⟨SB.out.1, SB.out.2.1.adv ((O5.out.set 5 (.slice (some ⟨sb, 0, none⟩) s1.m.screen.length s1.m.screen.length)).1.trans (O6.out.set 6 (.slice ta s1.m.tones.length tc)).1) (fun ad e => by cases e; rw [SB.out.1]; decide), Nat.lt_of_lt_of_le SB.out.2.2.1 ((O5.out.set 5 (.slice (some ⟨sb, 0, none⟩) s1.m.screen.length s1.m.screen.length)).1.trans (O6.out.set 6 (.slice ta s1.m.tones.length tc)).1).size, SB.out.2.2.2⟩)
      have RZ := Lib.hid (RB.out.adv ((O5.out.set 5 (.slice (some ⟨sb, 0, none⟩) s1.m.screen.length s1.m.screen.length)).1.trans (O6.out.set 6 (.slice ta s1.m.tones.length tc)).1) (by decide))
      rw [← hw6] at V7 O7 B7 C7 SZ RZ ⊢
      clear hw6
      have y0 := O7.out.cell 0 (.int .i64 s1.st) rfl
      have y1 := O7.out.cell 1 (.int .i64 s1.ft) rfl
      have y2 := O7.out.cell 2 (.int .i64 n) rfl
      have y3 := O7.out.cell 3 (.int .i64 c) rfl
      have y4 := O7.out.cell 4 (.int .i64 (budget - c)) rfl
      have y5 := O7.out.cell 5 (.slice (some ⟨sb, 0, none⟩) s1.m.screen.length s1.m.screen.length) rfl
      have y6 := O7.out.cell 6 (.slice ta s1.m.tones.length tc) rfl
      have z0 := B7.out.cell 0 (.int .i64 0) rfl
      have z1 := B7.out.cell 1 (.int .i64 0) rfl
      have z2 := B7.out.cell 2 (.int .i64 0) rfl
      have z3 := B7.out.cell 3 (.int .i64 0) rfl
      have z4 := B7.out.cell 4 (.int .i64 0) rfl
      have z5 := B7.out.cell 5 (.slice none 0 0) rfl
      have z6 := B7.out.cell 6 (.slice none 0 0) rfl
      have zf := B7.out.free
      go_wp2_with fail
      rw [HE.out]
      have a7 := own7 (w := w6) (G := Gb) w.heap.size B7.out.own (.int .i64 s1.st) (.int .i64 s1.ft) (.int .i64 n) (.int .i64 c) (.int .i64 (budget - c)) (.slice (some ⟨sb, 0, none⟩) s1.m.screen.length s1.m.screen.length) (.slice ta s1.m.tones.length tc)
      exact bodyPost_ret (v := .tuple #[.agg #[.int .i64 s1.st, .int .i64 s1.ft, .int .i64 n, .int .i64 c, .int .i64 (budget - c), .slice (some ⟨sb, 0, none⟩) s1.m.screen.length s1.m.screen.length, .slice ta s1.m.tones.length tc], .int .i64 0]) (by simp [results, Tryd.results36, go_sem, z0, z1, z2, z3, z4, z5, z6]) rfl
        ⟨sb, ta, tc, Gb, rfl, ((((((C7.out.setNew (p := ⟨w.heap.size, 0, none⟩) (Nat.le_refl _) _).setNew (p := ⟨w.heap.size, 1, none⟩) (Nat.le_refl _) _).setNew (p := ⟨w.heap.size, 2, none⟩) (Nat.le_refl _) _).setNew (p := ⟨w.heap.size, 3, none⟩) (Nat.le_refl _) _).setNew (p := ⟨w.heap.size, 4, none⟩) (Nat.le_refl _) _).setNew (p := ⟨w.heap.size, 5, none⟩) (Nat.le_refl _) _).setNew (p := ⟨w.heap.size, 6, none⟩) (Nat.le_refl _) _,
          V7.out.mine o hfar a7, ⟨SZ.out.1, SZ.out.2.1.adv a7 (fun ad e => by cases e; rw [SZ.out.1]; decide), Nat.lt_of_lt_of_le SZ.out.2.2.1 a7.size, SZ.out.2.2.2⟩, RZ.out.adv a7 (by decide)⟩
end
end Go.Proofs.YtdnalhjdmlkbmaaDoor
namespace Go.Proofs.YtdnalhjdmlkbmaaDoor
open Go.RowKit
set_option linter.unusedVariables false

def cartV (ca : Option Addr) (n cc : Nat) (entry : Int) (ea : Option Addr) (m ec : Nat) (ba : Option Addr) (k bc : Nat) : Value := .agg #[.slice ca n cc, .int .u16 entry, .slice ea m ec, .slice ba k bc]
/-- The machine that New makes. -/
def startS (entry : Int) (l : List (Int × List Int)) : VmS := { pc := (entry + 2) % 65536, st := 1, ft := 0, d := [], r := [], m := newM l }
/-- append of whatever is read to a row, as one step of a region that draws its order. -/
theorem step_append_any {P : Program} {ops : Array Oper} {o : Oper} {a : Act} {w : World} {K : Act → World → Prop} {Q : Exit → Act → World → Prop} {E : Prop}
    (hg : o.guard = none) (s x : Operand) (t : TypeId) (hop : o.op = Op.call { callee := Callee.builtin Builtin.append, args := #[s, x], argTypes := #[t, t] })
    (e : TypeId) (i : TypeInfo) (z : Value) (size bytes : Nat) (h1 : P.underlying t = some (.slice e)) (h2 : P.info? e = some i) (h3 : i.zero = some z) (h4 : i.size = size) (h5 : i.bytes = bytes) (h6 : z.cells.size = size) (h7 : 0 < size)
    (G : Nat → Nat) (q : Nat) (va : Option Addr) (n vc : Nat) (xs : List Value) (hs : a.eval s = .slice va n vc) (hrow : Row e size w G q (.slice va n vc) n xs)
    (xa : Option Addr) (m c : Nat) (news : List Value) (hx : a.eval x = .slice xa m c) (hn : news.length = m * size) (hc : Reads w xa news) (h1c : ∀ u ∈ news, u.oneCell' = true)
    (b1 : n + m ≤ maxLen) (b2 : (n + m) * bytes ≤ 140737488355328)
    (hK : ∀ va' vc' w' G', Row e size w' G' q (.slice va' (n + m) vc') (n + m) (xs ++ news) → Adv (· = q) w G w' G' → K (a.put o.dst (.slice va' (n + m) vc')) w') :
    if Region.wanted o (yielded ops a.tmps) = true then Oper.wp P o a w K Q else E := by
  by_cases hm : m = 0 ∧ xa = none
  · obtain ⟨rfl, rfl⟩ := hm
    obtain rfl : news = [] := List.eq_nil_of_length_eq_zero (by simpa using hn)
    have hw : Region.wanted o (yielded ops a.tmps) = true := by simp [Region.wanted, hg]
    rw [if_pos hw]
    have hnc : n ≤ vc := by
      obtain ⟨a', c', e1, _, h2, _⟩ := hrow.slice
      cases e1; exact h2
    have hr := run_append_nothing (P := P) w t o.type e i h1 h2 va n vc c hnc
    unfold Oper.wp
    simp [execOp, hop, resolve, invoke, builtin, hs, hx, hr, Result.andThen]
    exact hK va vc w G (by simpa using hrow) (Adv.refl _ _ _)
  · obtain ⟨ad, rfl, hn2⟩ : ∃ ad, xa = some ad ∧ ∀ j u, news[j]? = some u → w.cell? (ad.add j) = some u := by
      rcases hc with rfl | ⟨b, o, rfl, hr⟩
      · cases xa with
        | none =>
          exfalso
          apply hm
          refine ⟨?_, rfl⟩
          rcases Nat.eq_zero_or_pos m with h | h
          · exact h
          · exfalso
            have : 0 < m * size := Nat.mul_pos h h7
            simp at hn; omega
        | some ad => exact ⟨ad, rfl, fun j u hu => by simp at hu⟩
      · exact ⟨_, rfl, Reads.add hr⟩
    exact step_append_row hg s x t hop e i z size bytes h1 h2 h3 h4 h5 h6 h7 G q va n vc xs hs hrow ad m c news hx hn hn2 h1c b1 b2 hK
/-- What New answers: a machine. -/
def NewIs (p i j q : Nat) (code : List Int) (entry : Int) (l : List (Int × List Int)) (w : World) (G : Nat → Nat) (e : Ending) (w' : World) : Prop :=
  ∃ P D R M G', e = .returned (.tuple #[.pointer (some ⟨P, 0, none⟩), .int .i64 0]) ∧ Adv (fun _ => False) w G w' G' ∧ VM w' G' p i j q P D R M code (startS entry l)
/-- An empty stack, just made. -/
theorem PU.made (w : World) (G : Nat → Nat) (i : Nat) : PU (w.alloc (.cells #[.slice none 0 0] 140)) (own1 w G i) i w.heap.size [] :=
  ⟨.slice none 0 0, heap_alloc_new w _, own1_new _ _ _, World.ownsRow_nil _ _ _ _, (fun b e => by cases e), (fun e => by cases e)⟩
theorem PR.made (w : World) (G : Nat → Nat) (i : Nat) : PR (w.alloc (.cells #[.slice none 0 0] 144)) (own1 w G i) i w.heap.size [] :=
  ⟨.slice none 0 0, heap_alloc_new w _, own1_new _ _ _, World.ownsRow_nil _ _ _ _, (fun b e => by cases e), (fun e => by cases e)⟩
set_option maxRecDepth 100000 in
set_option maxHeartbeats 2000000 in
theorem vmNew_ok (p i j q : Nat) (o : Own4 p i j q) (G : Nat → Nat) (ca : Option Addr) (n cc : Nat) (entry : Int) (e0 : 0 ≤ entry) (e1 : entry < 65536) (ea : Option Addr) (m ec : Nat) (ba : Option Addr) (k bc : Nat) (code : List Int) (l : List (Int × List Int)) (w : World)
    (hl : code.length = n) (hn : n ≤ 16384) (hcb : B8 code) (hr : Reads w ca (u8s code)) (hlk : l.length = k) (hk : k ≤ 1000000) (hmay : mayBanks l = true) (hb8 : ∀ x ∈ l, B8 x.2) (hbl : ∀ x ∈ l, x.2.length ≤ 16384)
    (hin : ∀ (w' : World) (G' : Nat → Nat), Adv (fun _ => False) w G w' G' → BankIn w' ba l)
    (hcheck : ∀ (w' : World) (G' : Nat → Nat), Adv (fun _ => False) w G w' G' → Calls Tryd.prog 67 #[cartV ca n cc entry ea m ec ba k bc] w' (Looked w' G' (.int .i64 0))) (ht : Tabs w G) :
    Calls Tryd.prog 32 #[cartV ca n cc entry ea m ec ba k bc] w (NewIs p i j q code entry l w G) := by
  obtain ⟨i0, hi, hz0, hz1, hz2⟩ := info_parts infoU8
  have CV := Lib.hid (show cartV ca n cc entry ea m ec ba k bc = .agg #[.slice ca n cc, .int .u16 entry, .slice ea m ec, .slice ba k bc] from rfl)
  have HL := Lib.hid hl
  have HR := Lib.hid hr
  have HI := Lib.hid hin
  have HC := Lib.hid hcheck
  have HT := Lib.hid ht
  have HK := Lib.hid hlk
  have HM := Lib.hid hmay
  have HB := Lib.hid (And.intro hb8 hbl)
  have HCB := Lib.hid hcb
  clear hl hr hin hcheck ht hlk hmay hb8 hbl hcb
  unfold cartV at HC ⊢
  have A0 := Lib.hid ((Adv.refl (fun _ => False) w G).alloc (.cells #[.slice ca n cc, .int .u16 entry, .slice ea m ec, .slice ba k bc] 74) 0)
  have B0 := Lib.hid (heap_alloc_new w (.cells #[.slice ca n cc, .int .u16 entry, .slice ea m ec, .slice ba k bc] 74))
  have hw := wrap_u16_mod (entry + 2)
  go_enter Tryd.func32, Tryd.ntmps32
  go_wp2_with fail
  refine (HC.out _ _ A0.out).mono ?_
  rintro e w1 ⟨rfl, G1, a1⟩
  have A1 := Lib.hid (A0.out.trans a1)
  have B1 := Lib.hid ((a1.keep w.heap.size (Array.getElem?_eq_some_iff.1 B0.out).1 id).trans B0.out)
  have b3 := block_cell B1.out 3 (.slice ba k bc) rfl
  clear a1
  go_wp2_with fail
  refine (new_ok G1 q o.o3.q0 ba k bc l HK.out hk HM.out w1 (fun w' G' h => HI.out w' G' (A1.out.trans h))).mono ?_
  rintro e w2 ⟨M, G2, rfl, a2, p2⟩
  have A2 := Lib.hid (A1.out.trans a2)
  have B2 := Lib.hid ((a2.keep w.heap.size (Array.getElem?_eq_some_iff.1 B1.out).1 id).trans B1.out)
  have P2 := Lib.hid p2
  have hwl : w.heap.size < w2.heap.size := (Array.getElem?_eq_some_iff.1 B2.out).1
  clear a2 p2 b3
  have b0 := block_cell B2.out 0 (.slice ca n cc) rfl
  have b1 := block_cell B2.out 1 (.int .u16 entry) rfl
  -- the two stacks, the place
  have A3 := Lib.hid (((A2.out.alloc (.cells #[.slice none 0 0] 140) i).alloc (.cells #[.slice none 0 0] 144) j).alloc (.cells #[.int .u16 ((entry + 2) % 65536), .int .i64 1, .int .i64 0, .pointer (some ⟨w2.heap.size, 0, none⟩), .pointer (some ⟨w2.heap.size + 1, 0, none⟩)] 146) 0)
  go_wp2_with fail
  obtain ⟨w3, hw3⟩ : ∃ v, v = ((w2.alloc (.cells #[.slice none 0 0] 140)).alloc (.cells #[.slice none 0 0] 144)).alloc (.cells #[.int .u16 ((entry + 2) % 65536), .int .i64 1, .int .i64 0, .pointer (some ⟨w2.heap.size, 0, none⟩), .pointer (some ⟨w2.heap.size + 1, 0, none⟩)] 146) := ⟨_, rfl⟩
  have ad1 := (Adv.refl (fun _ => False) w2 G2).alloc (.cells #[.slice none 0 0] 140) i
  have ad2 := (Adv.refl (fun _ => False) _ (own1 w2 G2 i)).alloc (w := w2.alloc (.cells #[.slice none 0 0] 140)) (.cells #[.slice none 0 0] 144) j
  have ad3 := (Adv.refl (fun _ => False) _ (own1 (w2.alloc (.cells #[.slice none 0 0] 140)) (own1 w2 G2 i) j)).alloc (w := (w2.alloc (.cells #[.slice none 0 0] 140)).alloc (.cells #[.slice none 0 0] 144)) (.cells #[.int .u16 ((entry + 2) % 65536), .int .i64 1, .int .i64 0, .pointer (some ⟨w2.heap.size, 0, none⟩), .pointer (some ⟨w2.heap.size + 1, 0, none⟩)] 146) 0
  have U3 := ((PU.made w2 G2 i).adv ad2 id).adv ad3 id
  have V3 := (PR.made (w2.alloc (.cells #[.slice none 0 0] 140)) (own1 w2 G2 i) j).adv ad3 id
  have N3 := P2.out.adv (ad1.trans (ad2.trans ad3)) id
  have T3 := HT.out.adv A3.out id
  have E3 := heap_alloc_new ((w2.alloc (.cells #[.slice none 0 0] 140)).alloc (.cells #[.slice none 0 0] 144)) (.cells #[.int .u16 ((entry + 2) % 65536), .int .i64 1, .int .i64 0, .pointer (some ⟨w2.heap.size, 0, none⟩), .pointer (some ⟨w2.heap.size + 1, 0, none⟩)] 146)
  have F3 := ((ad1.trans (ad2.trans ad3)).keep w.heap.size hwl id).trans B2.out
  have R3 := HR.out.adv A3.out (fun _ _ => id)
  rw [← hw3] at U3 V3 N3 T3 E3 F3 R3 A3 ⊢
  rw [show (w2.alloc (.cells #[.slice none 0 0] 140)).heap.size = w2.heap.size + 1 from by simp] at V3
  rw [show ((w2.alloc (.cells #[.slice none 0 0] 140)).alloc (.cells #[.slice none 0 0] 144)).heap.size = w2.heap.size + 1 + 1 from by simp] at E3
  obtain ⟨G3, hG3⟩ : ∃ g, g = own1 ((w2.alloc (.cells #[.slice none 0 0] 140)).alloc (.cells #[.slice none 0 0] 144)) (own1 (w2.alloc (.cells #[.slice none 0 0] 140)) (own1 w2 G2 i) j) 0 := ⟨_, rfl⟩
  rw [← hG3] at U3 V3 N3 T3 A3
  clear hw3 ad1 ad2 ad3 hG3 b0 b1
  obtain ⟨D, hD⟩ : ∃ d, d = w2.heap.size := ⟨_, rfl⟩
  obtain ⟨R, hR⟩ : ∃ d, d = w2.heap.size + 1 := ⟨_, rfl⟩
  obtain ⟨Q, hQ⟩ : ∃ d, d = w2.heap.size + 1 + 1 := ⟨_, rfl⟩
  rw [← hQ] at E3 ⊢
  rw [← hR] at V3 E3 ⊢
  rw [← hD] at U3 E3 ⊢
  clear hD hR hQ hwl
  have TR3 := Lib.hid (show Trio w3 G3 i j q D R M [] [] (newM l) from ⟨U3, V3, N3⟩)
  have HT3 := Lib.hid T3
  have HR3 := Lib.hid R3
  have HE3 := Lib.hid E3
  have HF3 := Lib.hid F3
  have q0 := block_cell (w := w3.drew) E3 0 (.int .u16 ((entry + 2) % 65536)) rfl
  have q1 := block_cell (w := w3.drew) E3 1 (.int .i64 1) rfl
  have q2 := block_cell (w := w3.drew) E3 2 (.int .i64 0) rfl
  have q3 := block_cell (w := w3.drew) E3 3 (.pointer (some ⟨D, 0, none⟩)) rfl
  have q4 := block_cell (w := w3.drew) E3 4 (.pointer (some ⟨R, 0, none⟩)) rfl
  have q5 := block_cell (w := w3.drew) F3 0 (.slice ca n cc) rfl
  have hkk : ∀ (w' : World) (G' : Nat → Nat), Adv (fun _ => False) w3.drew G3 w' G' → w'.cell? ⟨Q, 0, none⟩ = some (.int .u16 ((entry + 2) % 65536)) ∧ w'.cell? ⟨Q, 1, none⟩ = some (.int .i64 1) ∧ w'.cell? ⟨Q, 2, none⟩ = some (.int .i64 0) ∧ w'.cell? ⟨Q, 3, none⟩ = some (.pointer (some ⟨D, 0, none⟩)) ∧ w'.cell? ⟨Q, 4, none⟩ = some (.pointer (some ⟨R, 0, none⟩)) ∧ w'.cell? ⟨w.heap.size, 0, none⟩ = some (.slice ca n cc) := fun w' G' h =>
    ⟨h.cell_some q0 id, h.cell_some q1 id, h.cell_some q2 id, h.cell_some q3 id, h.cell_some q4 id, h.cell_some q5 id⟩
  have HKK := Lib.hid hkk
  have hlen : (u8s code).length = n * 1 := by rw [u8s_length, HL.out, Nat.mul_one]
  have hcells : Reads w3.drew ca (u8s code) := R3.adv (S := fun _ => False) (Adv.refl _ w3 G3).drew (fun _ _ => id)
  have HX := Lib.hid (And.intro hlen hcells)
  clear U3 V3 N3 T3 R3 E3 F3 hkk hlen hcells
  go_region_held3 (fun w' => w'.cell? ⟨Q, 0, none⟩ = some (.int .u16 ((entry + 2) % 65536)) ∧ w'.cell? ⟨Q, 1, none⟩ = some (.int .i64 1) ∧ w'.cell? ⟨Q, 2, none⟩ = some (.int .i64 0) ∧ w'.cell? ⟨Q, 3, none⟩ = some (.pointer (some ⟨D, 0, none⟩)) ∧ w'.cell? ⟨Q, 4, none⟩ = some (.pointer (some ⟨R, 0, none⟩)) ∧ w'.cell? ⟨w.heap.size, 0, none⟩ = some (.slice ca n cc)) (first | with_reducible exact ⟨q0, q1, q2, q3, q4, q5⟩ | with_reducible exact Q4.out | with_reducible exact Q5.out)
    ((refine step_append_any rfl (.const (.slice none 0 0)) (.tmp 32) 70 rfl 5 i0 (.int .u8 0) 1 1 Tryd.underlying70 hi hz0 hz1 hz2 rfl (by decide) (fun _ => 0) 9 none 0 0 [] rfl (Row.nil _ _ _ _ _) ca n cc (u8s code) rfl HX.out.1 HX.out.2 (u8s_one code) (by unfold maxLen; omega) (by omega) ?_; intro va vc w4 Gx h1 h2; rw [Nat.zero_add, List.nil_append] at h1; rw [Nat.zero_add]; obtain ⟨f1, f2⟩ := fresh_row h2 h1 G3 0; have A4 := Lib.hid f1; have R4 := Lib.hid f2; have Q4 := Lib.hid (HKK.out _ _ f1); have Q5 := Lib.hid (HKK.out _ _ (f1.alloc (.cells #[.int .u16 ((entry + 2) % 65536), .int .i64 1, .int .i64 0, .pointer (some ⟨D, 0, none⟩), .pointer (some ⟨R, 0, none⟩), .slice va n vc, .pointer (some ⟨M, 0, none⟩)] 148) p)); clear h1 h2 f1 f2))
  go_wp2_with fail
  go_ret2
  have a5 := A4.out.alloc (.cells #[.int .u16 ((entry + 2) % 65536), .int .i64 1, .int .i64 0, .pointer (some ⟨D, 0, none⟩), .pointer (some ⟨R, 0, none⟩), .slice va n vc, .pointer (some ⟨M, 0, none⟩)] 148) p
  have hrow := R4.out.adv (S := fun _ => False) ((Adv.refl (fun _ => False) w4 _).alloc (.cells #[.int .u16 ((entry + 2) % 65536), .int .i64 1, .int .i64 0, .pointer (some ⟨D, 0, none⟩), .pointer (some ⟨R, 0, none⟩), .slice va n vc, .pointer (some ⟨M, 0, none⟩)] 148) p) id
  refine ⟨w4.heap.size, D, R, M, _, rfl, A3.out.drew.trans a5, ⟨va, vc, by rw [HL.out]; exact heap_alloc_new w4 _, hrow.reads, fun ad e => ?_⟩, own1_new _ _ _, TR3.out.drew.still a5, (HT3.out.adv (Adv.refl (fun _ => False) w3 G3).drew id).adv a5 id, ⟨⟨D16.nil, (fun x hx => by cases hx), by show 0 ≤ 256; decide, by show 0 ≤ 128; decide, newM_ok l HB.out.2, newM_rng l HB.out.1⟩, (mod16 _).1, (mod16 _).2, HCB.out, by rw [HL.out]; exact hn⟩⟩
  have hz := hrow.row.2
  rcases hz with ⟨e1, _⟩ | ⟨g, cap, cur, e1, hg, hgl, _⟩
  · cases e1; cases e
  · cases e1; cases e
    exact ⟨hrow.own g rfl, (hrow.row.lt g rfl).2⟩
/-- New of a cart that Check refuses. -/
theorem vmNew_bad (G : Nat → Nat) (ca : Option Addr) (n cc : Nat) (entry : Int) (ea : Option Addr) (m ec : Nat) (ba : Option Addr) (k bc : Nat) (w : World) (E : Int) (hE : E ≠ 0)
    (hcheck : ∀ (w' : World) (G' : Nat → Nat), Adv (fun _ => False) w G w' G' → Calls Tryd.prog 67 #[cartV ca n cc entry ea m ec ba k bc] w' (Looked w' G' (.int .i64 E))) :
    Calls Tryd.prog 32 #[cartV ca n cc entry ea m ec ba k bc] w (Looked w G (.tuple #[.pointer none, .int .i64 E])) := by
  have HC := Lib.hid hcheck
  have hE' : (E == 0) = false := by simpa using hE
  clear hcheck
  unfold cartV at HC ⊢
  have A0 := Lib.hid ((Adv.refl (fun _ => False) w G).alloc (.cells #[.slice ca n cc, .int .u16 entry, .slice ea m ec, .slice ba k bc] 74) 0)
  have B0 := Lib.hid (heap_alloc_new w (.cells #[.slice ca n cc, .int .u16 entry, .slice ea m ec, .slice ba k bc] 74))
  go_enter Tryd.func32, Tryd.ntmps32
  go_wp2_with fail
  refine (HC.out _ _ A0.out).mono ?_
  rintro e w1 ⟨rfl, G1, a1⟩
  have A1 := Lib.hid (A0.out.trans a1)
  clear a1
  go_wp2_with fail
  go_ret2
  exact ⟨rfl, G1, A1.out⟩
end Go.Proofs.YtdnalhjdmlkbmaaDoor
namespace Go.Proofs.YtdnalhjdmlkbmaaDoor
set_option linter.unusedVariables false
/-- Running, halted or faulted, with a fault in the last case alone. -/
structure StOk (s : VmS) : Prop where
  run : s.st = 1 ∨ s.st = 2 ∨ s.st = 3
  ft : s.st = 3 ↔ s.ft ≠ 0
theorem StOk.nofault {s : VmS} (h : StOk s) (h1 : s.st = 1) : s.ft = 0 := by
  apply Classical.byContradiction
  intro hn
  have := h.ft.2 hn
  omega
theorem StOk.mem {s : VmS} (h : StOk s) (m : MemS) : StOk { s with m := m } := ⟨h.run, h.ft⟩
theorem StOk.step {code : List Int} {s : VmS} (h : StOk s) (h1 : s.st = 1) (he : stepE code s = 0) : StOk (stepS code s) := by
  have hs := step_st_ok code s h1 he
  have hf : (stepS code s).ft = s.ft := by unfold stepS; rw [if_neg (by simpa using he)]; exact does_ft _ _ _
  have h0 := h.nofault h1
  refine ⟨by omega, ?_⟩
  rw [hf, h0]
  constructor
  · intro h3; omega
  · intro h3; exact absurd rfl h3
theorem StOk.fault {code : List Int} {s : VmS} (he : stepE code s ≠ 0) : StOk (stepS code s) := by
  rw [step_st code s he]
  exact ⟨.inr (.inr rfl), ⟨fun _ => he, fun _ => rfl⟩⟩
/-- What holds behind a frame's loop. -/
structure FrOk (budget n : Int) (F : VmS × Int × Int) : Prop where
  st : StOk F.1
  n0 : n ≤ F.2.1
  nc : F.2.1 ≤ F.2.2
  c4 : F.2.2 ≤ 4 * F.2.1
  cb : F.2.2 ≤ budget
theorem frameGo_ok (code : List Int) (budget : Int) : ∀ (f : Nat) (s : VmS) (n c : Int), StOk s → n ≤ c → c ≤ 4 * n → c ≤ budget → FrOk budget n (frameGo code budget f s n c)
  | 0, s, n, c, h, h1, h2, h3 => ⟨h, Int.le_refl _, h1, h2, h3⟩
  | f + 1, s, n, c, h, h1, h2, h3 => by
    unfold frameGo
    split
    · rename_i hc
      split
      · exact ⟨h, Int.le_refl _, h1, h2, h3⟩
      · rename_i hb
        split
        · rename_i he
          exact ⟨StOk.fault he, Int.le_refl _, h1, h2, h3⟩
        · rename_i he
          have he' : stepE code { s with m := atF s.m c } = 0 := by simpa using he
          have hl : lookE code s = 0 := stepE_look code _ he'
          have hcr := cost_rng code s hl
          have hb' : c + costOf code s ≤ budget := by
            apply Int.not_lt.1
            intro hh
            exact hb ⟨hl, hh⟩
          have hs : StOk (stepS code { s with m := atF s.m c }) := (h.mem _).step hc.1 he'
          split
          · exact ⟨hs, by show n ≤ n + 1; omega, by show n + 1 ≤ c + costOf code s; omega, by show c + costOf code s ≤ 4 * (n + 1); omega, hb'⟩
          · have ih := frameGo_ok code budget f _ (n + 1) (c + costOf code s) hs (by omega) (by omega) hb'
            exact ⟨ih.st, by have := ih.n0; omega, ih.nc, ih.c4, ih.cb⟩
    · exact ⟨h, Int.le_refl _, h1, h2, h3⟩
/-- A frame that does no step is left with less than four cycles, or does not run. -/
theorem frameGo_some (code : List Int) (budget : Int) (f : Nat) (s : VmS) (n c : Int) (h : StOk s) (h1 : n ≤ c) (h2 : c ≤ 4 * n) (hc : c + 4 ≤ budget) (h3 : (frameGo code budget (f + 1) s n c).1.st = 1) (h4 : budget - (frameGo code budget (f + 1) s n c).2.2 ≥ 4) : n < (frameGo code budget (f + 1) s n c).2.1 := by
  unfold frameGo at h3 h4 ⊢
  split at h3
  · rename_i hr
    rw [if_pos hr] at h4 ⊢
    split at h3
    · rename_i hb
      have := cost_rng code s hb.1
      omega
    · rename_i hb
      rw [if_neg hb] at h4 ⊢
      split at h3
      · rename_i he
        rw [step_st code _ he] at h3
        exact absurd (show (3 : Int) = 1 from h3) (by decide)
      · rename_i he
        rw [if_neg he] at h4 ⊢
        have he' : stepE code { s with m := atF s.m c } = 0 := by simpa using he
        have hl : lookE code s = 0 := stepE_look code _ he'
        have hcr := cost_rng code s hl
        have hb' : c + costOf code s ≤ budget := by
          apply Int.not_lt.1
          intro hh
          exact hb ⟨hl, hh⟩
        have hs : StOk (stepS code { s with m := atF s.m c }) := (h.mem _).step hr.1 he'
        split
        · show n < n + 1; omega
        · have ih := frameGo_ok code budget f _ (n + 1) (c + costOf code s) hs (by omega) (by omega) hb'
          have := ih.n0
          omega
  · rename_i hr
    exact absurd ⟨h3, by omega⟩ hr
theorem frameF_ok (code : List Int) (pad budget : Int) (s : VmS) (hs : StOk s) (hb : 4 ≤ budget) : FrOk budget 0 (frameF code pad budget s) :=
  frameGo_ok code budget _ _ 0 0 (hs.mem _) (by omega) (by omega) (by omega)
theorem frameF_some (code : List Int) (pad budget : Int) (s : VmS) (hs : StOk s) (hb : 4 ≤ budget) (h3 : (frameF code pad budget s).1.st = 1) (h4 : budget - (frameF code pad budget s).2.2 ≥ 4) : (frameF code pad budget s).2.1 ≠ 0 := by
  unfold frameF at *
  obtain ⟨f, hf⟩ : ∃ k, budget.toNat = k + 1 := ⟨budget.toNat - 1, by omega⟩
  rw [hf] at h3 h4 ⊢
  have := frameGo_some code budget f _ 0 0 (hs.mem _) (by omega) (by omega) (by omega) h3 h4
  omega
theorem frameF_over (code : List Int) (pad budget : Int) (s : VmS) (h : s.st ≠ 1) : frameF code pad budget s = ({ s with m := beginF s.m pad }, 0, 0) := by
  unfold frameF
  exact go_stop _ _ _ _ _ _ fun hh => h hh.1
theorem start_st (entry : Int) (l : List (Int × List Int)) : StOk (startS entry l) := ⟨.inl rfl, by show (1 : Int) = 3 ↔ (0 : Int) ≠ 0; decide⟩
end Go.Proofs.YtdnalhjdmlkbmaaDoor
namespace Go.Proofs.YtdnalhjdmlkbmaaDoor
set_option linter.unusedVariables false
/-- A twin's steps: k of them, each at its cycle; what was spent. -/
def twinF (code : List Int) : Nat → VmS → Int → VmS × Int
  | 0, s, c => (s, c)
  | k + 1, s, c => twinF code k (stepS code { s with m := atF s.m c }) (c + costOf code s)
/-- Each of k steps can be done: it runs, Look tells no fault, it does not fault, and the last alone may yield. -/
def canF (code : List Int) : Nat → VmS → Int → Prop
  | 0, _, _ => True
  | k + 1, s, c => s.st = 1 ∧ lookE code s = 0 ∧ stepE code { s with m := atF s.m c } = 0 ∧ (stepY code { s with m := atF s.m c } = true → k = 0) ∧ canF code k (stepS code { s with m := atF s.m c }) (c + costOf code s)
/-- Did the last of k steps yield? -/
def lastY (code : List Int) : Nat → VmS → Int → Bool
  | 0, _, _ => false
  | 1, s, c => stepY code { s with m := atF s.m c }
  | k + 2, s, c => lastY code (k + 1) (stepS code { s with m := atF s.m c }) (c + costOf code s)
/-- How a frame's loop ends behind its steps. -/
inductive Ends (code : List Int) (budget : Int) (y : Bool) (s : VmS) (c : Int) : VmS → Prop
  | yielded : y = true → Ends code budget y s c s
  | full : s.st = 1 → c = budget → Ends code budget y s c s
  | stopped : s.st ≠ 1 → Ends code budget y s c s
  | short : s.st = 1 → y = false → lookE code s = 0 → budget < c + costOf code s → Ends code budget y s c s
  | faulted : s.st = 1 → y = false → c < budget → (lookE code s = 0 → c + costOf code s ≤ budget) → stepE code { s with m := atF s.m c } ≠ 0 → Ends code budget y s c (stepS code { s with m := atF s.m c })
theorem go_twin (code : List Int) (budget : Int) : ∀ (f : Nat) (s : VmS) (n c : Int), c ≤ budget → budget - c ≤ f → ∃ k : Nat, (frameGo code budget f s n c).2.1 = n + k ∧ (frameGo code budget f s n c).2.2 = (twinF code k s c).2 ∧ canF code k s c ∧
    Ends code budget (lastY code k s c) (twinF code k s c).1 (twinF code k s c).2 (frameGo code budget f s n c).1
  | 0, s, n, c, h0, h1 => ⟨0, by simp [frameGo], rfl, trivial, by
      by_cases hs : s.st = 1
      · exact .full hs (by show c = budget; omega)
      · exact .stopped hs⟩
  | f + 1, s, n, c, h0, h1 => by
    by_cases hc : s.st = 1 ∧ c < budget
    · by_cases hb : lookE code s = 0 ∧ budget < c + costOf code s
      · rw [go_break code budget (f + 1) s n c (by omega) hc hb]
        exact ⟨0, by simp, rfl, trivial, .short hc.1 rfl hb.1 hb.2⟩
      · by_cases he : stepE code { s with m := atF s.m c } = 0
        · have hl : lookE code s = 0 := stepE_look code _ he
          have hcr := cost_rng code s hl
          have hb' : c + costOf code s ≤ budget := by
            apply Int.not_lt.1
            intro hh
            exact hb ⟨hl, hh⟩
          rw [go_step code budget f s n c hc hb he]
          by_cases hy : stepY code { s with m := atF s.m c } = true
          · rw [show frameRest code budget f (stepY code { s with m := atF s.m c }) (stepS code { s with m := atF s.m c }) (n + 1) (c + costOf code s) = (stepS code { s with m := atF s.m c }, n + 1, c + costOf code s) from if_pos hy]
            exact ⟨1, by simp, rfl, ⟨hc.1, hl, he, fun _ => rfl, trivial⟩, .yielded hy⟩
          · rw [show frameRest code budget f (stepY code { s with m := atF s.m c }) (stepS code { s with m := atF s.m c }) (n + 1) (c + costOf code s) = frameGo code budget f (stepS code { s with m := atF s.m c }) (n + 1) (c + costOf code s) from if_neg hy]
            obtain ⟨k, i1, i2, i3, i4⟩ := go_twin code budget f (stepS code { s with m := atF s.m c }) (n + 1) (c + costOf code s) hb' (by omega)
            refine ⟨k + 1, by rw [i1]; simp; omega, i2, ⟨hc.1, hl, he, fun h => absurd h hy, i3⟩, ?_⟩
            cases k with
            | zero =>
              have : lastY code 1 s c = false := by simpa [lastY] using hy
              rw [this]
              exact i4
            | succ k => exact i4
        · rw [go_fault code budget (f + 1) s n c (by omega) hc hb he]
          exact ⟨0, by simp, rfl, trivial, .faulted hc.1 rfl hc.2 (fun hl => Int.not_lt.1 fun hh => hb ⟨hl, hh⟩) he⟩
    · rw [go_stop code budget (f + 1) s n c hc]
      refine ⟨0, by simp, rfl, trivial, ?_⟩
      by_cases hs : s.st = 1
      · exact .full hs (by show c = budget; have : ¬ c < budget := fun h => hc ⟨hs, h⟩; omega)
      · exact .stopped hs
theorem at_eq {m m' : MemS} (h : MemEq m m') (c : Int) : MemEq (atF m c) (atF m' c) := by
  obtain ⟨l, rfl, hb⟩ := h.cases
  exact ⟨hb, rfl⟩
theorem begin_eq {m m' : MemS} (h : MemEq m m') (p : Int) : MemEq (beginF m p) (beginF m' p) := by
  obtain ⟨l, rfl, hb⟩ := h.cases
  exact ⟨hb, rfl⟩
theorem VmEq.setM {s s' : VmS} (h : VmEq s s') {m m' : MemS} (k : MemEq m m') : VmEq { s with m := m } { s' with m := m' } := by
  refine ⟨k, ?_⟩
  rw [← h.rest]
theorem VmEq.same {s s' : VmS} (h : VmEq s s') : s.pc = s'.pc ∧ s.st = s'.st ∧ s.ft = s'.ft ∧ s.d = s'.d ∧ s.r = s'.r ∧ s.m.screen = s'.m.screen ∧ s.m.tones = s'.m.tones := by
  obtain ⟨l, hl, -⟩ := h.m.cases
  rw [← h.rest, hl]
  exact ⟨rfl, rfl, rfl, rfl, rfl, rfl, rfl⟩
/-- Twins do alike. -/
theorem twin_eq (code : List Int) : ∀ (k : Nat) (s s' : VmS) (c : Int), VmEq s s' → VmEq (twinF code k s c).1 (twinF code k s' c).1 ∧ (twinF code k s c).2 = (twinF code k s' c).2 ∧ (canF code k s c → canF code k s' c) ∧ lastY code k s c = lastY code k s' c
  | 0, s, s', c, h => ⟨h, rfl, id, rfl⟩
  | k + 1, s, s', c, h => by
    have ha := h.setM (at_eq h.m c)
    have hs := step_eq ha code
    have hl := h.look code
    have he := ha.stepE code
    have hy : stepY code { s with m := atF s.m c } = stepY code { s' with m := atF s'.m c } := by
      unfold stepY
      rw [he, (ha.look code).2.1]
    have ih := twin_eq code k _ _ (c + costOf code s) hs
    have hc : costOf code s = costOf code s' := hl.2.2.2
    refine ⟨?_, ?_, ?_, ?_⟩
    · show VmEq (twinF code k _ (c + costOf code s)).1 (twinF code k _ (c + costOf code s')).1
      rw [← hc]; exact ih.1
    · show (twinF code k _ (c + costOf code s)).2 = (twinF code k _ (c + costOf code s')).2
      rw [← hc]; exact ih.2.1
    · rintro ⟨q1, q2, q3, q4, q5⟩
      refine ⟨h.same.2.1 ▸ q1, hl.1 ▸ q2, he ▸ q3, fun hh => q4 (hy.trans hh), ?_⟩
      rw [← hc]; exact ih.2.2.1 q5
    · cases k with
      | zero => exact hy
      | succ k =>
        show lastY code (k + 1) _ (c + costOf code s) = lastY code (k + 1) _ (c + costOf code s')
        rw [← hc]; exact ih.2.2.2
/-- One step more, at the end. -/
theorem twin_snoc (code : List Int) : ∀ (k : Nat) (s : VmS) (c : Int), twinF code (k + 1) s c = (stepS code { (twinF code k s c).1 with m := atF (twinF code k s c).1.m (twinF code k s c).2 }, (twinF code k s c).2 + costOf code (twinF code k s c).1)
  | 0, s, c => rfl
  | k + 1, s, c => by
    show twinF code (k + 1) _ _ = _
    rw [twin_snoc code k]
    rfl
theorem lastY_snoc (code : List Int) : ∀ (k : Nat) (s : VmS) (c : Int), lastY code (k + 1) s c = stepY code { (twinF code k s c).1 with m := atF (twinF code k s c).1.m (twinF code k s c).2 }
  | 0, s, c => rfl
  | k + 1, s, c => by
    show lastY code (k + 1) _ _ = _
    rw [lastY_snoc code k]
    rfl
/-- What each of the steps is. -/
theorem can_at (code : List Int) : ∀ (n k : Nat) (s : VmS) (c : Int), k < n → canF code n s c → (twinF code k s c).1.st = 1 ∧ lookE code (twinF code k s c).1 = 0 ∧ stepE code { (twinF code k s c).1 with m := atF (twinF code k s c).1.m (twinF code k s c).2 } = 0 ∧ lastY code k s c = false
  | 0, k, s, c, h, _ => absurd h (by omega)
  | n + 1, 0, s, c, _, h => ⟨h.1, h.2.1, h.2.2.1, rfl⟩
  | n + 1, k + 1, s, c, hk, h => by
    have ih := can_at code n k _ _ (by omega) h.2.2.2.2
    refine ⟨ih.1, ih.2.1, ih.2.2.1, ?_⟩
    cases k with
    | zero =>
      show stepY code _ = false
      cases hy : stepY code { s with m := atF s.m c }
      · rfl
      · exact absurd (h.2.2.2.1 hy) (by omega)
    | succ k => exact ih.2.2.2
theorem twin_mono (code : List Int) (n : Nat) (s : VmS) (c : Int) (h : canF code n s c) : ∀ (k : Nat), k ≤ n → c + k ≤ (twinF code k s c).2 ∧ (∀ j, k ≤ j → j ≤ n → (twinF code k s c).2 ≤ (twinF code j s c).2) := by
  have one : ∀ k, k < n → (twinF code k s c).2 + 1 ≤ (twinF code (k + 1) s c).2 := fun k hk => by
    rw [twin_snoc]
    have := cost_rng code (twinF code k s c).1 (can_at code n k s c hk h).2.1
    show _ ≤ (twinF code k s c).2 + costOf code (twinF code k s c).1
    omega
  have up : ∀ k j, k ≤ j → j ≤ n → (twinF code k s c).2 ≤ (twinF code j s c).2 := fun k j hkj => by
    induction j with
    | zero => intro _; obtain rfl : k = 0 := by omega
              exact Int.le_refl _
    | succ j ih =>
      intro hj
      by_cases e : k = j + 1
      · subst e; exact Int.le_refl _
      · have := ih (by omega) (by omega)
        have := one j (by omega)
        omega
  intro k
  induction k with
  | zero => intro _; exact ⟨by show c + (0 : Nat) ≤ c; omega, up 0⟩
  | succ k ih =>
    intro hk
    have := ih (by omega)
    have := one k (by omega)
    exact ⟨by push_cast; omega, up (k + 1)⟩
end Go.Proofs.YtdnalhjdmlkbmaaDoor
namespace Go.Proofs.YtdnalhjdmlkbmaaDoor
open Go.RowKit
/-- Block r is an iterator over the map in block B, which holds l; rest is still to come. -/
def RangeI (q : IntKind) (w : World) (B r : Nat) (l rest : List (Int × Value)) : Prop :=
  ∃ es clk since seen c0, w.heap[B]? = some (.map es clk) ∧ es.toList.map (fun e => (e.key, e.val)) = l.map (fun p => (Value.int q p.1, p.2)) ∧ MapKept.Stamped es clk ∧
    w.heap[r]? = some (.mapIter (some B) since seen c0) ∧ (∀ x ∈ es.toList, x.born < since) ∧ since ≤ c0 ∧ since ≤ clk ∧
    (leftOf es seen).toList.map (fun e => (e.key, e.val)) = rest.map (fun p => (Value.int q p.1, p.2))
section
variable {q : IntKind} {w w' : World} {B r : Nat} {l rest : List (Int × Value)}
theorem RangeI.map (h : RangeI q w B r l rest) : MapI q w B l := by
  obtain ⟨es, clk, since, seen, c0, h1, h2, h3, _⟩ := h
  exact ⟨es, clk, h1, h2, h3⟩
theorem RangeI.lt (h : RangeI q w B r l rest) : r < w.heap.size := by
  obtain ⟨es, clk, since, seen, c0, _, _, _, h4, _⟩ := h
  exact (Array.getElem?_eq_some_iff.1 h4).1
theorem RangeI.ne (h : RangeI q w B r l rest) : r ≠ B := by
  obtain ⟨es, clk, since, seen, c0, h1, _, _, h4, _⟩ := h
  rintro rfl
  rw [h1] at h4; cases h4
theorem RangeI.of_blocks (h : RangeI q w B r l rest) (hb : w'.heap[B]? = w.heap[B]?) (hr : w'.heap[r]? = w.heap[r]?) : RangeI q w' B r l rest := by
  obtain ⟨es, clk, since, seen, c0, h1, h2, h3, h4, h5⟩ := h
  exact ⟨es, clk, since, seen, c0, hb.trans h1, h2, h3, hr.trans h4, h5⟩
theorem RangeI.left_eq (h : RangeI q w B r l rest) : w.rangeLeft B r = rest.length := by
  obtain ⟨es, clk, since, seen, c0, h1, _, _, h4, _, _, _, h5⟩ := h
  have := congrArg List.length h5
  simp only [List.length_map, Array.length_toList] at this
  simp only [World.rangeLeft, h1, h4]
  exact this
theorem RangeI.adv {S : Nat → Prop} {G G' : Nat → Nat} (h : RangeI q w B r l rest) (ha : Adv S w G w' G') (h1 : ¬ S (G B)) (h2 : ¬ S (G r)) : RangeI q w' B r l rest :=
  h.of_blocks (ha.keep B h.map.lt h1) (ha.keep r h.lt h2)
theorem Adv.ofGrown1 {w w' : World} {G : Nat → Nat} {r : Nat} (hg : w.grownBy w' (some r)) {S : Nat → Prop} (hr : S (G r)) : Adv S w G w' (newTo w G 0) :=
  ⟨hg.os, hg.tape, hg.output, hg.size, fun _ hb => newTo_old hb, fun b hb hs => hg.block b hb fun e => by cases e; exact hs hr⟩
/-- Keys stand once. -/
theorem MapI.nodup (h : MapI q w B l) : (l.map (·.1)).Nodup := by
  obtain ⟨es, clk, _, h2, _, _, h3⟩ := h
  have e : es.toList.map (·.key) = (l.map (·.1)).map (Value.int q) := by
    have := congrArg (List.map Prod.fst) h2
    simpa [List.map_map, Function.comp_def] using this
  rw [e] at h3
  exact (List.pairwise_map.1 h3).imp fun {a b} h e => h (congrArg (Value.int q) e)
theorem range_I {P : Program} {t kt e : TypeId} (ht : P.underlying t = some (.map kt e)) (h : MapI q w B l) :
    (Instr.range t (.map (some B))).run P w = .ok (.pointer (some ⟨w.heap.size, 0, none⟩)) (w.alloc ((match w.heap[B]? with | some (.map _ c) => Obj.mapIter (some B) c #[] c | _ => Obj.mapIter none 0 #[] 0))) ∧
    RangeI q (w.alloc ((match w.heap[B]? with | some (.map _ c) => Obj.mapIter (some B) c #[] c | _ => Obj.mapIter none 0 #[] 0))) B w.heap.size l l := by
  have hlt := h.lt
  obtain ⟨es, clk, h1, h2, h3⟩ := h
  simp only [h1]
  refine ⟨run_range_map w t kt e B es clk ht h1, es, clk, clk, #[], clk, (heap_past _ _ _ hlt).trans h1, h2, h3, heap_alloc_new _ _, h3.1, Nat.le_refl _, Nat.le_refl _, ?_⟩
  rw [← h2]
  have hf : es.toList.filter (fun _ => true) = es.toList := List.filter_eq_self.2 fun _ _ => rfl
  simp [leftOf, hf]
theorem left_push (es : Array MapEntry) (seen : Array Nat) (b : Nat) : (leftOf es (seen.push b)).toList = (leftOf es seen).toList.filter (fun x => !(x.born == b)) := by
  unfold leftOf
  simp only [Array.toList_filter, List.filter_filter]
  congr 1
  funext x
  rw [contains_push]
  cases seen.contains x.born <;> cases (x.born == b) <;> rfl
theorem filter_one {e : MapEntry} : ∀ {L : List MapEntry}, (L.map (·.born)).Nodup → e ∈ L → ∃ a b, L = a ++ e :: b ∧ L.filter (fun x => !(x.born == e.born)) = a ++ b
  | [], _, h => by cases h
  | x :: L, hn, h => by
    simp only [List.map_cons, List.nodup_cons] at hn
    by_cases hx : x.born = e.born
    · have he : x = e := by
        rcases List.mem_cons.1 h with h | h
        · exact h.symm
        · exact absurd (List.mem_map.2 ⟨e, h, hx.symm⟩) hn.1
      subst he
      refine ⟨[], L, rfl, ?_⟩
      simp only [List.filter_cons, beq_self_eq_true, Bool.not_true, List.nil_append]
      rw [if_neg (by simp)]
      refine List.filter_eq_self.2 fun y hy => ?_
      have : y.born ≠ x.born := fun e => hn.1 (List.mem_map.2 ⟨y, hy, e⟩)
      simpa using this
    · have hm : e ∈ L := by
        rcases List.mem_cons.1 h with h | h
        · exact absurd (congrArg MapEntry.born h.symm) hx
        · exact h
      obtain ⟨a, b, rfl, hf⟩ := filter_one hn.2 hm
      refine ⟨x :: a, b, rfl, ?_⟩
      rw [List.filter_cons, if_pos (by simpa using hx), hf]; rfl
/-- The step. -/
theorem RangeI.next {P : Program} (h : RangeI q w B r l rest) (ty : TypeId) :
    (rest = [] ∧ (Instr.next (.pointer (some ⟨r, 0, none⟩)) false ty).run P w = .ok (.tuple #[.bool false]) w) ∨
    ∃ pre p post w', rest = pre ++ p :: post ∧ (Instr.next (.pointer (some ⟨r, 0, none⟩)) false ty).run P w = .ok (.tuple #[.bool true, .int q p.1, p.2]) w' ∧
      RangeI q w' B r l (pre ++ post) ∧ w.grownBy w' (some r) ∧ w'.heap.size = w.heap.size ∧ (Instr.entry (.pointer (some ⟨r, 0, none⟩))).run P w' = .ok (.tuple #[.int q p.1, p.2]) w' := by
  have hne := h.ne
  obtain ⟨es, clk, since, seen, c0, hb, hl, hst, hr, hold, hsc, hsk, hleft⟩ := h
  rcases run_next_at (P := P) w ty r B since c0 seen es clk hr hb hold hsc with ⟨h0, hrun⟩ | ⟨e, he, w1, hal, hrun⟩
  · refine .inl ⟨?_, hrun⟩
    have e0 : (leftOf es seen).toList = [] := List.eq_nil_of_length_eq_zero (by simpa using h0)
    rw [e0] at hleft
    cases rest with
    | nil => rfl
    | cons a b => simp at hleft
  · obtain ⟨hem, hes⟩ := mem_left he
    have hnd : ((leftOf es seen).toList.map (·.born)).Nodup := by
      have : (leftOf es seen).toList.Sublist es.toList := by
        unfold leftOf
        rw [Array.toList_filter]; exact List.filter_sublist
      exact (this.map _).nodup hst.2.1
    obtain ⟨a, b, hab, hf⟩ := filter_one hnd he
    have hr1 : w1.heap[r]? = some (.mapIter (some B) since seen c0) := by rcases hal with rfl | rfl <;> exact hr
    have hb1 : w1.heap[B]? = some (.map es clk) := by rcases hal with rfl | rfl <;> exact hb
    have hset := MapKept.heap_set (o' := .mapIter (some B) since (seen.push e.born) clk) hr1
    have hb' : (ChangeMaps.setBlock w1 r (.mapIter (some B) since (seen.push e.born) clk)).heap[B]? = some (.map es clk) := (hset.2 B (fun e1 => hne e1.symm)).trans hb1
    rw [hab, List.map_append, List.map_cons] at hleft
    obtain ⟨pre, r2, hr2, hpre, hr3⟩ := List.map_eq_append_iff.1 hleft.symm
    obtain ⟨p, post, hr4, hp, hpost⟩ := List.map_eq_cons_iff.1 hr3
    subst hr4
    have hpk : e.key = .int q p.1 := (congrArg Prod.fst hp).symm
    have hpv : e.val = p.2 := (congrArg Prod.snd hp).symm
    refine .inr ⟨pre, p, post, _, hr2, by rw [← hpk, ← hpv]; exact hrun, ⟨es, clk, since, seen.push e.born, clk, hb', hl, hst, hset.1, hold, hsk, hsk, ?_⟩, ?_, ?_, ?_⟩
    · rw [left_push, hf, List.map_append, List.map_append, hpre, hpost]
    · rcases hal with rfl | rfl <;> exact ⟨rfl, rfl, rfl, by simp [ChangeMaps.setBlock], fun i _ hi => hset.2 i (fun e1 => hi (by rw [e1]))⟩
    · rcases hal with rfl | rfl <;> simp [ChangeMaps.setBlock]
    · rw [← hpk, ← hpv]
      exact run_entry_at _ r B since seen es clk e hset.1 hb' hem hst.2.1
end
section
variable {P : Program} {w : World} {ops : Array Oper} {rest : List Oper} {o : Oper} {a : Act} {Q : Exit → Act → World → Prop}
theorem wpList_range_I {q : IntKind} (hg : o.guard = none) (m : Operand) (t : TypeId) (hop : o.op = Op.range t m) (kt e : TypeId) (ht : P.underlying t = some (.map kt e)) (B : Nat) (l : List (Int × Value))
    (hm : a.eval m = .map (some B)) (h : MapI q w B l)
    (hK : ∀ ob, RangeI q (w.alloc ob) B w.heap.size l l → wpList P ops Q rest (a.put o.dst (.pointer (some ⟨w.heap.size, 0, none⟩))) (w.alloc ob)) :
    wpList P ops Q (o :: rest) a w := by
  refine wpList_plain hg fun K' hK' => ?_
  obtain ⟨hrun, h2⟩ := range_I (P := P) ht h
  unfold Oper.wp
  simp [execOp, hop, hm, hrun, Result.andThen]
  exact hK' _ _ (hK _ h2)
theorem wpList_next_I {q : IntKind} (hg : o.guard = none) (it : Operand) (hop : o.op = Op.next it false) (B r : Nat) (l re : List (Int × Value)) (hit : a.eval it = .pointer (some ⟨r, 0, none⟩)) (h : RangeI q w B r l re)
    (hDone : re = [] → wpList P ops Q rest (a.put o.dst (.tuple #[.bool false])) w)
    (hMore : ∀ pre p post w', re = pre ++ p :: post → RangeI q w' B r l (pre ++ post) → w.grownBy w' (some r) → w'.heap.size = w.heap.size →
      (Instr.entry (.pointer (some ⟨r, 0, none⟩))).run P w' = .ok (.tuple #[.int q p.1, p.2]) w' → wpList P ops Q rest (a.put o.dst (.tuple #[.bool true, .int q p.1, p.2])) w') :
    wpList P ops Q (o :: rest) a w := by
  refine wpList_plain hg fun K' hK' => ?_
  unfold Oper.wp
  rcases h.next (P := P) o.type with ⟨h0, hrun⟩ | ⟨pre, p, post, w', h1, hrun, h2, h3, h4, h5⟩
  · simp [execOp, hop, hit, hrun, Result.andThen]
    exact hK' _ _ (hDone h0)
  · simp [execOp, hop, hit, hrun, Result.andThen]
    exact hK' _ _ (hMore pre p post w' h1 h2 h3 h4 h5)
end
end Go.Proofs.YtdnalhjdmlkbmaaDoor
namespace Go.Proofs.YtdnalhjdmlkbmaaDoor
open Go.RowKit
set_option linter.unusedVariables false
/-- A memory but for its tones. -/
structure Part (w : World) (G : Nat → Nat) (i D B : Nat) (bs : List Nat) (tv : Value) (M : MemS) : Prop where
  head : ∃ C, w.heap[D]? = some (.cells C 135 (0, 0)) ∧ C.toList = headC B M tv
  hown : G D = i
  map : MapI .u8 w B (bankL M bs)
  mown : G B = i
  blen : bs.length = M.banks.length
  bank : ∀ (k : Nat) (p : Int × List Int) (b : Nat), M.banks[k]? = some p → bs[k]? = some b → (∃ C, w.heap[b]? = some (.cells C 158 (0, 0)) ∧ C.toList = u8s p.2) ∧ G b = i
  nodup : bs.Nodup
  ne : D ∉ bs
section
variable {w w' w1 w2 : World} {G G' : Nat → Nat} {i D B : Nat} {bs : List Nat} {tv : Value} {M : MemS}
theorem PMx.part (h : PMx w G i D B bs tv M) : Part w G i D B bs tv M := ⟨h.head, h.hown, h.map, h.mown, h.blen, h.bank, h.nodup, h.ne⟩
theorem Part.lt (h : Part w G i D B bs tv M) : D < w.heap.size := by
  obtain ⟨C, h, _⟩ := h.head
  exact (Array.getElem?_eq_some_iff.1 h).1
theorem Part.neB (h : Part w G i D B bs tv M) : D ≠ B := by
  rintro rfl
  obtain ⟨C, h1, _⟩ := h.head
  obtain ⟨es, clk, h2, _⟩ := h.map
  rw [h1] at h2; cases h2
theorem Part.adv {S : Nat → Prop} (h : Part w G i D B bs tv M) (ha : Adv S w G w' G') (hs : ¬ S i) : Part w' G' i D B bs tv M := by
  refine ⟨?_, (ha.own _ h.lt).trans h.hown, h.map.of_block (ha.keep B h.map.lt (by rw [h.mown]; exact hs)), (ha.own _ h.map.lt).trans h.mown, h.blen, ?_, h.nodup, h.ne⟩
  · obtain ⟨C, h1, h2⟩ := h.head
    exact ⟨C, (ha.keep D h.lt (by rw [h.hown]; exact hs)).trans h1, h2⟩
  · intro k p b hp hb
    obtain ⟨⟨C, h1, h2⟩, h3⟩ := h.bank k p b hp hb
    have hl : b < w.heap.size := (Array.getElem?_eq_some_iff.1 h1).1
    exact ⟨⟨C, (ha.keep b hl (by rw [h3]; exact hs)).trans h1, h2⟩, (ha.own b hl).trans h3⟩
/-- A bank more: its block is new, the map holds it. -/
theorem Part.more {p : Int × List Int} (h : Part w G i D B bs tv M) (b : Nat) (hbl : w.heap.size ≤ b) (hG : ∀ j, j < w.heap.size → G' j = G j) (hGb : G' b = i)
    (hw : ∀ j, j < w.heap.size → j ≠ B → w2.heap[j]? = w.heap[j]?) (hc : ∃ C, w2.heap[b]? = some (.cells C 158 (0, 0)) ∧ C.toList = u8s p.2)
    (hm : MapI .u8 w2 B (bankL M bs ++ [(p.1, .pointer (some ⟨b, 0, none⟩))])) :
    Part w2 G' i D B (bs ++ [b]) tv { M with banks := M.banks ++ [p] } := by
  have hlt : ∀ c, c ∈ bs → c < w.heap.size := fun c hc => by
    obtain ⟨k, hk⟩ := List.mem_iff_getElem?.1 hc
    obtain ⟨q, hq⟩ : ∃ q, M.banks[k]? = some q := ⟨M.banks[k]'(by rw [← h.blen]; exact (List.getElem?_eq_some_iff.1 hk).1), by simp⟩
    obtain ⟨⟨C, h1, _⟩, _⟩ := h.bank k q c hq hk
    exact (Array.getElem?_eq_some_iff.1 h1).1
  refine ⟨?_, (hG _ h.lt).trans h.hown, ?_, (hG _ h.map.lt).trans h.mown, by simp [h.blen], ?_, ?_, ?_⟩
  · obtain ⟨C, h1, h2⟩ := h.head
    exact ⟨C, (hw D h.lt h.neB).trans h1, h2⟩
  · have e2 : bankL { M with banks := M.banks ++ [p] } (bs ++ [b]) = bankL M bs ++ [(p.1, .pointer (some ⟨b, 0, none⟩))] := by
      unfold bankL
      rw [List.zipWith_append h.blen.symm]; rfl
    rw [e2]; exact hm
  · intro k q c hq hc2
    dsimp only at hq
    by_cases hj : k < bs.length
    · rw [List.getElem?_append_left (by rw [← h.blen]; exact hj)] at hq
      rw [List.getElem?_append_left hj] at hc2
      obtain ⟨⟨C, h1, h2⟩, h3⟩ := h.bank k q c hq hc2
      have hcl : c < w.heap.size := (Array.getElem?_eq_some_iff.1 h1).1
      have hcB : c ≠ B := by
        rintro rfl
        obtain ⟨es, clk, h4, _⟩ := h.map
        rw [h1] at h4; cases h4
      exact ⟨⟨C, (hw c hcl hcB).trans h1, h2⟩, (hG c hcl).trans h3⟩
    · rw [List.getElem?_append_right (by rw [← h.blen]; omega)] at hq
      rw [List.getElem?_append_right (by omega)] at hc2
      have hj0 : k - bs.length = 0 := by
        rcases Nat.eq_zero_or_pos (k - bs.length) with h0 | h0
        · exact h0
        · rw [List.getElem?_eq_none (by simp; omega)] at hc2; cases hc2
      rw [hj0] at hc2
      rw [← h.blen, hj0] at hq
      simp at hc2 hq
      subst hc2; subst hq
      exact ⟨hc, hGb⟩
  · rw [List.nodup_append]
    exact ⟨h.nodup, by simp, fun x hx y hy => by simp at hy; subst hy; have := hlt x hx; omega⟩
  · rw [List.mem_append]; rintro (hh | hh)
    · exact h.ne hh
    · simp at hh; have := h.lt; omega
/-- The tones are laid in: the memory is whole. -/
theorem Part.whole {ta : Option Addr} {c : Nat} (h : Part w G i D B bs tv M) (hm : M.ram.length = 16384) (hs : M.screen.length = 3072) (hr : Row 68 3 w G i (.slice ta M.tones.length c) M.tones.length (tonesC M.tones)) (hn : ∀ b, (Value.slice ta M.tones.length c).ownBlock = some b → b ≠ D ∧ b ∉ bs) :
    PMx (w.setCell ⟨D, 19463, none⟩ (.slice ta M.tones.length c)) G i D B bs (.slice ta M.tones.length c) M := by
  have hbl : ∀ k, k ≠ D → (w.setCell ⟨D, 19463, none⟩ (.slice ta M.tones.length c)).heap[k]? = w.heap[k]? := fun k hk => Below.heap_setCell _ _ _ _ (fun e => hk e)
  refine ⟨?_, h.hown, h.map.of_block (hbl B (fun e => h.neB e.symm)), h.mown, h.blen, ?_, ⟨ownsRow_of_block hr.row fun b e => hbl b (hn b e).1, hr.own⟩, h.nodup, h.ne, ?_, ?_⟩
  · obtain ⟨C, h1, h2⟩ := h.head
    refine ⟨C.setIfInBounds 19463 (.slice ta M.tones.length c), ?_, ?_⟩
    · simp only [World.setCell, Array.getElem?_modify, h1]; simp
    · rw [Array.toList_setIfInBounds, h2]
      unfold headC
      have e1 : ([Value.map (some B)] ++ u8s M.ram ++ u8s M.screen).length = 19457 := by simp [u8s_length, hm, hs]
      rw [List.set_append_right _ _ (by rw [e1]; decide), e1]
      rfl
  · intro k p b hp hb
    obtain ⟨⟨C, h1, h2⟩, h3⟩ := h.bank k p b hp hb
    have hb2 : b ∈ bs := List.mem_of_getElem? hb
    exact ⟨⟨C, (hbl b (fun e => h.ne (e ▸ hb2))).trans h1, h2⟩, h3⟩
  · intro e; exact (hn D e).1 rfl
  · intro b hb e; exact (hn b e).2 hb
end
/-- slices.Clone of tones: the new row lies in new memory. -/
theorem clone_fresh (G : Nat → Nat) (q p : Nat) (ta : Option Addr) (n c : Nat) (l : List (Int × Int × Int)) (hn : n ≤ 1000000) (w : World) (hl : l.length = n) (hr : Row 68 3 w G q (.slice ta n c) n (tonesC l)) :
    Calls Tryd.prog 66 #[.slice ta n c] w fun e w' => ∃ ta' c' G', e = .returned (.slice ta' n c') ∧ Adv (fun _ => False) w G w' G' ∧ Row 68 3 w' G' p (.slice ta' n c') n (tonesC l) ∧ ∀ b, (Value.slice ta' n c').ownBlock = some b → w.heap.size ≤ b := by
  refine (clone_tones (fun _ => 0) 0 9 ta n c l hn w hl ⟨hr.row, fun _ _ => rfl⟩).mono ?_
  rintro e w' ⟨ta', c', G', rfl, ha, hrow⟩
  have hf : ∀ b, (Value.slice ta' n c').ownBlock = some b → w.heap.size ≤ b := fun b hb => by
    have h9 := hrow.own b hb
    apply Nat.le_of_not_lt
    intro hlt
    rw [ha.own b hlt] at h9
    exact absurd h9 (by decide)
  exact ⟨ta', c', newTo w G p, rfl, ha.relabel (fun _ _ => id) (fun _ hb => newTo_old hb), ⟨hrow.row, fun b hb => newTo_new (hf b hb)⟩, hf⟩
theorem grown_block {w w' : World} {r : Nat} (hg : w.grownBy w' (some r)) (hz : w'.heap.size = w.heap.size) : ∀ k, k ≠ r → w'.heap[k]? = w.heap[k]? := by
  intro k hk
  by_cases h : k < w.heap.size
  · exact hg.block k h fun e => hk (by cases e; rfl)
  · rw [Array.getElem?_eq_none (by omega), Array.getElem?_eq_none (by omega)]
theorem valI_no : ∀ (l : List (Int × Value)) (k : Int), (∀ x ∈ l, x.1 ≠ k) → valI l k = none
  | [], _, _ => rfl
  | p :: l, k, h => by
    unfold valI
    rw [if_neg (h p List.mem_cons_self)]
    exact valI_no l k fun x hx => h x (List.mem_cons_of_mem _ hx)
/-- Banks in another order are found alike. -/
theorem bankF_none : ∀ (l : List (Int × List Int)) (c : Int), (∀ p ∈ l, p.1 ≠ c) → bankF l c = none
  | [], c, _ => rfl
  | p :: l, c, h => by
    have h1 : ¬ p.1 = c := h p (by simp)
    simp only [bankF, if_neg h1]
    exact bankF_none l c fun q hq => h q (by simp [hq])
theorem bankF_mem : ∀ (l : List (Int × List Int)) (p : Int × List Int), (l.map (·.1)).Nodup → p ∈ l → bankF l p.1 = some p.2
  | [], p, _, h => by cases h
  | a :: l, p, hn, h => by
    simp only [List.map_cons, List.nodup_cons] at hn
    rcases List.mem_cons.1 h with rfl | h
    · simp [bankF]
    · have h1 : ¬ a.1 = p.1 := fun e => hn.1 (List.mem_map.2 ⟨p, h, e.symm⟩)
      simp only [bankF, if_neg h1]
      exact bankF_mem l p hn.2 h
theorem bankF_perm {l m : List (Int × List Int)} (hp : l.Perm m) (hn : (l.map (·.1)).Nodup) (c : Int) : bankF l c = bankF m c := by
  have hn2 : (m.map (·.1)).Nodup := (hp.map _).nodup_iff.1 hn
  by_cases h : ∃ p ∈ l, p.1 = c
  · obtain ⟨p, h1, rfl⟩ := h
    rw [bankF_mem l p hn h1, bankF_mem m p hn2 (hp.mem_iff.1 h1)]
  · rw [bankF_none l c (fun p hp e => h ⟨p, hp, e⟩), bankF_none m c (fun p hp2 e => h ⟨p, hp.mem_iff.2 hp2, e⟩)]
theorem PMx.keys {w : World} {G : Nat → Nat} {i D B : Nat} {bs : List Nat} {tv : Value} {M : MemS} (h : PMx w G i D B bs tv M) : (M.banks.map (·.1)).Nodup := by
  have h1 := h.map.nodup
  have e : (bankL M bs).map (·.1) = M.banks.map (·.1) := by
    unfold bankL
    have hz : ∀ (l : List (Int × List Int)) (k : List Nat), k.length = l.length → (List.zipWith (fun p b => (p.1, Value.pointer (some ⟨b, 0, none⟩))) l k).map (·.1) = l.map (·.1) := by
      intro l
      induction l with
      | nil => intro k _; simp
      | cons a l ih =>
        intro k hk
        cases k with
        | nil => simp at hk
        | cons b k =>
          simp only [List.length_cons, Nat.add_right_cancel_iff] at hk
          rw [List.zipWith_cons_cons, List.map_cons, List.map_cons, ih k hk]
    exact hz _ _ h.blen
  rwa [e] at h1
end Go.Proofs.YtdnalhjdmlkbmaaDoor
namespace Go.Proofs.YtdnalhjdmlkbmaaDoor
open Go.RowKit
set_option linter.unusedVariables false
/-- A copy of a memory in new memory. -/
def CopyIs (w : World) (G : Nat → Nat) (p : Nat) (m : MemS) (e : Ending) (w' : World) : Prop :=
  ∃ D l G', e = .returned (.pointer (some ⟨D, 0, none⟩)) ∧ Adv (fun _ => False) w G w' G' ∧ l.Perm m.banks ∧ MemEq m { m with banks := l } ∧ PM w' G' p D { m with banks := l }
/-- A bank with its block. -/
def zipB (m : MemS) (bs : List Nat) : List ((Int × List Int) × Nat) := List.zip m.banks bs
def entB (z : (Int × List Int) × Nat) : Int × Value := (z.1.1, .pointer (some ⟨z.2, 0, none⟩))
theorem bankL_zip (m : MemS) (bs : List Nat) : bankL m bs = (zipB m bs).map entB := by
  unfold bankL zipB entB
  rw [List.zip_eq_zipWith, List.map_zipWith]
theorem zipB_fst (m : MemS) (bs : List Nat) (h : bs.length = m.banks.length) : (zipB m bs).map (·.1) = m.banks := by
  unfold zipB
  exact List.map_fst_zip (by omega)
theorem bankL_mem {M : MemS} {bs : List Nat} {x : Int × Value} (h : x ∈ bankL M bs) : ∃ q ∈ M.banks, q.1 = x.1 := by
  rw [bankL_zip] at h
  obtain ⟨z, hz, rfl⟩ := List.mem_map.1 h
  exact ⟨z.1, (List.of_mem_zip hz).1, rfl⟩
theorem zipB_mem {M : MemS} {bs : List Nat} {z : (Int × List Int) × Nat} (h : z ∈ zipB M bs) : ∃ k : Nat, M.banks[k]? = some z.1 ∧ bs[k]? = some z.2 := by
  obtain ⟨k, hk⟩ := List.mem_iff_getElem?.1 h
  unfold zipB at hk
  rw [List.getElem?_zip_eq_some] at hk
  exact ⟨k, hk⟩
theorem infoBankS : (Tryd.prog.info? 158).map (·.size) = some 16384 := by kernel_rfl
theorem infoMem : (Tryd.prog.info? 135).map (·.size) = some 19464 := by kernel_rfl
theorem bankZ_size : Tryd.zeroCells158.size = 16384 := by kernel_rfl
theorem memZ_size : Tryd.zeroCells135.size = 19464 := by kernel_rfl
theorem headC_length (B : Nat) (M : MemS) (tv : Value) (h1 : M.ram.length = 16384) (h2 : M.screen.length = 3072) : (headC B M tv).length = 19464 := by
  simp [headC, u8s_length, h1, h2]
theorem headC_one (B : Nat) (M : MemS) (ta : Option Addr) (n c : Nat) : ∀ u ∈ headC B M (.slice ta n c), u.oneCell' = true := by
  intro u hu
  simp only [headC, List.mem_append, List.mem_cons, List.not_mem_nil, or_false] at hu
  rcases hu with ((rfl | hu) | hu) | rfl | rfl | rfl | rfl | rfl | rfl | rfl
  · rfl
  · exact u8s_one _ u hu
  · exact u8s_one _ u hu
  all_goals rfl
set_option maxRecDepth 100000 in
set_option maxHeartbeats 4000000 in
theorem copy_any (G : Nat → Nat) (q p D : Nat) (m : MemS) (hm : MemOk m) (hn : m.tones.length ≤ 1000000) (hp9 : p ≠ 9) (w : World) (hp : PM w G q D m) :
    Calls Tryd.prog 72 #[.pointer (some ⟨D, 0, none⟩)] w (CopyIs w G p m) := by
  obtain ⟨B, bs, tv, hp⟩ := hp
  obtain ⟨ta, tc, rfl, _⟩ := hp.tones.slice
  have hkeys := hp.keys
  obtain ⟨C, hC, hCl⟩ := hp.head
  have HL := headC_length B m (.slice ta m.tones.length tc) hm.ram hm.screen
  have hrange : w.rangeAt D 0 (headC B m (.slice ta m.tones.length tc)) := by
    intro j v hv
    rw [Nat.zero_add]
    exact block_cell hC j v (by rw [← Array.getElem?_toList, hCl]; exact hv)
  have HR := Lib.hid hrange
  have HP := Lib.hid hp
  have hi2 : (Tryd.prog.info? 135).map (·.size) = some (headC B m (.slice ta m.tones.length tc)).length := by rw [infoMem, HL]
  have hi : (Tryd.prog.info? 135).map (·.size) = some (headC B m (.slice ta m.tones.length tc)).toArray.size := by rw [infoMem, List.size_toArray, HL]
  have hs : Tryd.zeroCells135.size = (headC B m (.slice ta m.tones.length tc)).toArray.size := by rw [memZ_size, List.size_toArray, HL]
  have ho : (headC B m (.slice ta m.tones.length tc)).toArray.all (·.oneCell') = true := all_oneCell_toArray (headC_one B m ta _ tc)
  have hz := heap_alloc_new w (.cells Tryd.zeroCells135 135)
  have HZ := Lib.hid (And.intro hz (And.intro hi (And.intro hs (And.intro hi2 ho))))
  have HK := Lib.hid hkeys
  have hlt := hp.lt
  have c0 : w.cell? ⟨D, 0, none⟩ = some (.map (some B)) := block_cell hC 0 _ (by rw [← Array.getElem?_toList, hCl]; rfl)
  have hmm := @run_makeMap Tryd.prog
  have hS := setRow_heap (w.alloc (.cells Tryd.zeroCells135 135)) w.heap.size _ (headC B m (.slice ta m.tones.length tc)).toArray _ _ hz
  have hA1 := ((Adv.refl (fun _ => False) w G).alloc (.cells Tryd.zeroCells135 135) p).newBlock (w'' := (w.alloc (.cells Tryd.zeroCells135 135)).setRow w.heap.size (headC B m (.slice ta m.tones.length tc)).toArray) w.heap.size (Nat.le_refl _) (fun k hk => setRow_other _ _ _ _ hk) (by simp [World.setRow]) rfl rfl rfl
  have hsz : ((w.alloc (.cells Tryd.zeroCells135 135)).setRow w.heap.size (headC B m (.slice ta m.tones.length tc)).toArray).heap.size = w.heap.size + 1 := by simp [World.setRow]
  obtain ⟨W1, hW1⟩ : ∃ v, v = (w.alloc (.cells Tryd.zeroCells135 135)).setRow w.heap.size (headC B m (.slice ta m.tones.length tc)).toArray := ⟨_, rfl⟩
  rw [← hW1] at hS hA1 hsz
  have HW1 := Lib.hid hW1
  have HS := Lib.hid hS
  have HA1 := Lib.hid hA1
  clear hp hC hCl hrange hi2 hi hs ho hz hkeys HL hW1 hS hA1 c0
  go_enter Tryd.func72, Tryd.ntmps72
  go_upto_region 4 with (first
    | (refine wpList_load_mid rfl 135 (.tmp 10) rfl D 0 rfl (headC B m (.slice ta m.tones.length tc)) _ HR.out Tryd.underlying135 rfl HZ.out.2.2.2.1 ?_)
    | (refine wpList_store_row rfl 135 (.tmp 3) (.tmp 11) rfl w.heap.size (headC B m (.slice ta m.tones.length tc)).toArray rfl rfl 135 Tryd.zeroCells135 HZ.out.1 HZ.out.2.1 HZ.out.2.2.1 HZ.out.2.2.2.2 ?_))
  rw [← HW1.out]
  have s0 : W1.cell? ⟨w.heap.size, 0, none⟩ = some (.map (some B)) := block_cell HS.out 0 _ rfl
  have s1 : W1.frozen? ⟨w.heap.size, 0, none⟩ = false := block_free HS.out 0
  have hDS : D < W1.heap.size := by omega
  go_upto_region 5 with fail
  obtain ⟨W2, hW2⟩ : ∃ v, v = (W1.setCell ⟨w.heap.size, 0, none⟩ (.map (some (w.heap.size + 1)))).alloc (.map #[] 0) := ⟨_, rfl⟩
  obtain ⟨G2, hG2⟩ : ∃ v, v = own1 (W1.setCell ⟨w.heap.size, 0, none⟩ (.map (some (w.heap.size + 1)))) (own1 w G p) p := ⟨_, rfl⟩
  have zS : (W1.setCell ⟨w.heap.size, 0, none⟩ (.map (some (w.heap.size + 1)))).heap.size = w.heap.size + 1 := by simp [World.setCell, hsz]
  have hA2 : Adv (fun _ => False) w G W2 G2 := by
    rw [hW2, hG2]
    exact (HA1.out.setNew (p := ⟨w.heap.size, 0, none⟩) (Nat.le_refl _) _).alloc _ p
  have hP2 : Part W2 G2 p w.heap.size (w.heap.size + 1) [] (.slice ta m.tones.length tc) { m with banks := [] } := by
    refine ⟨⟨(headC (w.heap.size + 1) m (.slice ta m.tones.length tc)).toArray, ?_, rfl⟩, ?_, ?_, ?_, rfl, (fun k q b h => by simp at h), List.nodup_nil, List.not_mem_nil⟩
    · rw [hW2, heap_past _ _ _ (by omega)]
      simp only [World.setCell, Array.getElem?_modify, HS.out]
      rfl
    · rw [hG2, own1_old (by omega)]; exact own1_new _ _ _
    · rw [hW2]
      have := MapI.made .u8 (W1.setCell ⟨w.heap.size, 0, none⟩ (.map (some (w.heap.size + 1))))
      rw [zS] at this
      exact this
    · rw [hG2]
      have := own1_new (W1.setCell ⟨w.heap.size, 0, none⟩ (.map (some (w.heap.size + 1)))) (own1 w G p) p
      rw [zS] at this
      exact this
  have hM2 := HP.out.adv hA2 id
  have z2 : W2.heap.size = w.heap.size + 2 := by rw [hW2]; simp [World.setCell, hsz]
  have hDB : D ≠ w.heap.size := by omega
  rw [← hW2]
  have c0 : W2.cell? ⟨D, 0, none⟩ = some (.map (some B)) := by
    obtain ⟨C, hC, hCl⟩ := hM2.head
    exact block_cell hC 0 _ (by rw [← Array.getElem?_toList, hCl]; rfl)
  have HA2 := Lib.hid hA2
  have HP2 := Lib.hid hP2
  have HM2 := Lib.hid hM2
  have hmap := hM2.map
  have hD2 : D < W2.heap.size := by omega
  clear hA2 hP2 hM2 hW2 hG2 zS s0 s1 hDS hsz HW1 HS HA1
  go_wp2_with (first | (at_range; refine wpList_range_I (q := .u8) rfl (.tmp 17) 130 rfl 5 157 Tryd.underlying130 B (bankL m bs) rfl hmap ?_; intro ob hri) | go_in)
  obtain ⟨W3, hW3⟩ : ∃ v, v = W2.alloc ob := ⟨_, rfl⟩
  obtain ⟨G3, hG3⟩ : ∃ v, v = own1 W2 G2 9 := ⟨_, rfl⟩
  have hA3 : Adv (fun _ => False) w G W3 G3 := by rw [hW3, hG3]; exact HA2.out.alloc _ 9
  have hX : Adv (fun _ => False) W2 G2 W3 G3 := by rw [hW3, hG3]; exact (Adv.refl _ W2 G2).alloc _ 9
  have hG9 : G3 W2.heap.size = 9 := by rw [hG3]; exact own1_new _ _ _
  have HP3 := Lib.hid (HP2.out.adv hX id)
  have HM3 := Lib.hid (HM2.out.adv hX id)
  rw [← hW3] at hri ⊢
  have HRI := Lib.hid hri
  have HA3 := Lib.hid hA3
  clear hX hA3 hW3 hG3 hri hmap c0
  obtain ⟨S, hS⟩ : ∃ v, v = w.heap.size := ⟨_, rfl⟩
  rw [← hS] at HP3 hDB z2 ⊢
  have HSZ := Lib.hid hS
  rw [z2] at HRI hG9
  obtain ⟨r, hr⟩ : ∃ v, v = S + 2 := ⟨_, rfl⟩
  rw [← hr] at HRI hG9 ⊢
  have HRS := Lib.hid hr
  clear hr hS z2 HA2 HP2 HM2 hD2 hlt
  go_loopw [4] (fun v4 wr => ∃ (done : List ((Int × List Int) × Nat)) (rz : List ((Int × List Int) × Nat)) (bs' : List Nat) (Gr : Nat → Nat), (done ++ rz).Perm (zipB m bs) ∧ Adv (fun _ => False) w G wr Gr ∧ RangeI .u8 wr B r (bankL m bs) (rz.map entB) ∧ Gr r = 9 ∧ Part wr Gr p S (S + 1) bs' (.slice ta m.tones.length tc) { m with banks := done.map (·.1) }) (fun _ wr => wr.rangeLeft B r)
  case atStart => exact ⟨[], zipB m bs, [], G3, by simp, HA3.out, by rw [← bankL_zip]; exact HRI.out, hG9, HP3.out⟩
  case round =>
    obtain ⟨done, rz, bs', Gr, hperm, ar, hri, hg9, hpart⟩ := hrel
    have HPE := Lib.hid hperm
    have AR := Lib.hid ar
    have HRI := Lib.hid hri
    have HPA := Lib.hid hpart
    have hleft := Lib.hid hri.left_eq
    have hG9r := Lib.hid hg9
    clear hperm ar hri hpart HA3 HM3 HP3 hG9 hg9
    go_wp2_with (first | (at_next; refine wpList_next_I (q := .u8) rfl (.tmp 18) rfl B r (bankL m bs) (rz.map entB) rfl HRI.out ?_ ?_) | go_in)
    · intro hz
      subst hz
      obtain ⟨CM, hCM, hCl⟩ := (HP.out.adv AR.out id).head
      have hcl : wr.cell? ⟨D, 19463, none⟩ = some (.slice ta m.tones.length tc) := block_cell hCM 19463 _ (by rw [← Array.getElem?_toList, hCl]; exact head_tail B m (.slice ta m.tones.length tc) hm 6)
      have HRow := Lib.hid (HP.out.adv AR.out id).tones
      have hSf : wr.frozen? ⟨S, 19463, none⟩ = false := by
        obtain ⟨C2, h2, _⟩ := HPA.out.head
        exact block_free h2 _
      clear hCM hCl
      go_wp2_with fail
      refine (clone_fresh Gr q p ta m.tones.length tc m.tones hn _ rfl HRow.out).mono ?_
      rintro e w6 ⟨ta6, tc6, G6, rfl, a6, r6, f6⟩
      have HP6 := Lib.hid (HPA.out.adv a6 id)
      have hSf6 : w6.frozen? ⟨S, 19463, none⟩ = false := by
        obtain ⟨C2, h2, _⟩ := HP6.out.head
        exact block_free h2 _
      have hSc6 : w6.cell? ⟨S, 19463, none⟩ = some (.slice ta m.tones.length tc) := by
        obtain ⟨C2, h2, h3⟩ := HP6.out.head
        exact block_cell h2 19463 _ (by rw [← Array.getElem?_toList, h3]; exact head_tail (S + 1) { m with banks := done.map (·.1) } (.slice ta m.tones.length tc) ⟨hm.ram, hm.screen, fun q hq => by obtain ⟨y, hy, rfl⟩ := List.mem_map.1 hq; obtain ⟨n, hn1, -⟩ := zipB_mem (HPE.out.mem_iff.1 (show y ∈ done ++ [] by simpa using hy)); exact hm.banks _ (List.mem_of_getElem? hn1)⟩ 6)
      have hSl := HPA.out.lt
      have H6 := Lib.hid (And.intro a6 (And.intro r6 f6))
      clear a6 r6 f6
      go_wp2_with fail
      go_ret
      have hpl : (done.map (·.1)).Perm m.banks := by
        have h1 := (HPE.out.map (·.1)).trans (by rw [zipB_fst m bs HP.out.blen])
        rwa [List.append_nil] at h1
      have hbs : ∀ b, b ∈ bs' → b < wr.heap.size := fun b hb => by
        obtain ⟨k, hk⟩ := List.mem_iff_getElem?.1 hb
        have hkl : k < ({ m with banks := done.map (·.1) } : MemS).banks.length := by rw [← HPA.out.blen]; exact (List.getElem?_eq_some_iff.1 hk).1
        obtain ⟨⟨C, h1, _⟩, _⟩ := HPA.out.bank k _ b (List.getElem?_eq_getElem hkl) hk
        exact (Array.getElem?_eq_some_iff.1 h1).1
      have hw := HP6.out.whole hm.ram hm.screen H6.out.2.1 (fun b hb => ⟨by have := H6.out.2.2 b hb; omega, fun hb2 => by have := H6.out.2.2 b hb; have := hbs b hb2; omega⟩)
      exact ⟨S, done.map (·.1), G6, rfl, (AR.out.trans H6.out.1).setNew (p := ⟨S, 19463, none⟩) (by rw [HSZ.out]; exact Nat.le_refl _) _, hpl, ⟨fun c => bankF_perm hpl.symm HK.out c, rfl⟩, S + 1, bs', _, hw⟩
    · intro pre a b post w' hrz hri2 hgrow hsize hentry
      obtain ⟨preZ, r2, hr2, hpre, hr3⟩ := List.map_eq_append_iff.1 hrz
      obtain ⟨z, postZ, hr4, hz, hpost⟩ := List.map_eq_cons_iff.1 hr3
      subst hr4
      subst hr2
      obtain ⟨⟨k, l⟩, bb⟩ := z
      obtain ⟨rfl, rfl⟩ : k = a ∧ Value.pointer (some ⟨bb, 0, none⟩) = b := by
        unfold entB at hz
        simpa using hz
      obtain ⟨n, hn1, hn2⟩ := zipB_mem (HPE.out.mem_iff.1 (show ((k, l), bb) ∈ done ++ (preZ ++ ((k, l), bb) :: postZ) by simp))
      have hl16 : l.length = 16384 := hm.banks (k, l) (List.mem_of_getElem? hn1)
      have hgb := grown_block hgrow hsize
      have hrS : r = w.heap.size + 2 := by rw [HRS.out, HSZ.out]
      have hA' : Adv (fun _ => False) w G w' Gr := AR.out.newBlock r (by omega) hgb hsize hgrow.os hgrow.tape hgrow.output
      have hX : Adv (fun o => o = 9) wr Gr w' Gr := ⟨hgrow.os, hgrow.tape, hgrow.output, hgrow.size, fun _ _ => rfl, fun b _ hs => hgb b fun e => hs (e ▸ hG9r.out)⟩
      have hP' := HPA.out.adv hX hp9
      obtain ⟨⟨CB, hCB, hCBl⟩, -⟩ := (HP.out.adv hA' id).bank n (k, l) bb hn1 hn2
      have hrB : w'.rangeAt bb 0 (u8s l) := by
        intro j v hv
        rw [Nat.zero_add]
        exact block_cell hCB j v (by rw [← Array.getElem?_toList, hCBl]; exact hv)
      have hbl : bb < w'.heap.size := (Array.getElem?_eq_some_iff.1 hCB).1
      have yi2 : (Tryd.prog.info? 158).map (·.size) = some (u8s l).length := by rw [infoBankS, u8s_length, hl16]
      have yi : (Tryd.prog.info? 158).map (·.size) = some (u8s l).toArray.size := by rw [infoBankS, List.size_toArray, u8s_length, hl16]
      have ys : Tryd.zeroCells158.size = (u8s l).toArray.size := by rw [bankZ_size, List.size_toArray, u8s_length, hl16]
      have yo : (u8s l).toArray.all (·.oneCell') = true := all_oneCell_toArray (u8s_one l)
      have yz := heap_alloc_new w' (.cells Tryd.zeroCells158 158)
      have yS := setRow_heap (w'.alloc (.cells Tryd.zeroCells158 158)) w'.heap.size _ (u8s l).toArray _ _ yz
      have YZ := Lib.hid (And.intro yz (And.intro yi (And.intro ys (And.intro yi2 yo))))
      have yA := ((hA'.alloc (.cells Tryd.zeroCells158 158) p).newBlock (w'' := (w'.alloc (.cells Tryd.zeroCells158 158)).setRow w'.heap.size (u8s l).toArray) w'.heap.size hA'.size (fun k hk => setRow_other _ _ _ _ hk) (by simp [World.setRow]) rfl rfl rfl)
      have yold : ∀ j, j < w'.heap.size → ((w'.alloc (.cells Tryd.zeroCells158 158)).setRow w'.heap.size (u8s l).toArray).heap[j]? = w'.heap[j]? := fun j hj => (setRow_other _ _ _ _ (by omega)).trans (heap_past _ _ _ hj)
      have ysz : ((w'.alloc (.cells Tryd.zeroCells158 158)).setRow w'.heap.size (u8s l).toArray).heap.size = w'.heap.size + 1 := by simp [World.setRow]
      obtain ⟨W4, hW4⟩ : ∃ v, v = (w'.alloc (.cells Tryd.zeroCells158 158)).setRow w'.heap.size (u8s l).toArray := ⟨_, rfl⟩
      rw [← hW4] at yS yA yold ysz
      obtain ⟨CS, hCS, hCSl⟩ := hP'.head
      have s0 : W4.cell? ⟨S, 0, none⟩ = some (.map (some (S + 1))) := block_cell ((yold S hP'.lt).trans hCS) 0 _ (by rw [← Array.getElem?_toList, hCSl]; rfl)
      have hv : valI (bankL { m with banks := done.map (·.1) } bs') k = none := by
        refine valI_no _ _ fun x hx => ?_
        obtain ⟨qq, hq, hqe⟩ := bankL_mem hx
        rw [← hqe]
        intro hk
        have hnd : ((done ++ (preZ ++ ((k, l), bb) :: postZ)).map (·.1.1)).Nodup := by
          have h1 := HPE.out.map (·.1.1)
          refine h1.nodup_iff.2 ?_
          have h2 := HK.out
          rw [← zipB_fst m bs HP.out.blen, List.map_map] at h2
          exact h2
        rw [List.map_append, List.nodup_append] at hnd
        obtain ⟨y, hy, rfl⟩ := List.mem_map.1 hq
        exact hnd.2.2 y.1.1 (List.mem_map.2 ⟨y, hy, rfl⟩) k (by simp) hk
      obtain ⟨ob5, hup, hm5⟩ := update_I (P := Tryd.prog) Tryd.underlying130 Tryd.underlying5 (w := W4) (hP'.map.of_block (yold _ hP'.map.lt)) k (.pointer (some ⟨w'.heap.size, 0, none⟩)) hv
      have HRB := Lib.hid hrB
      have HF := Lib.hid (And.intro hA' (And.intro hP' (And.intro yS (And.intro yA (And.intro yold (And.intro ysz hm5))))))
      have HW4 := Lib.hid hW4
      have HRI2 := Lib.hid hri2
      have HN := Lib.hid (And.intro hn1 (And.intro hn2 hl16))
      have HPR := Lib.hid (And.intro hpre hpost)
      clear hpre hr3 hz hpost hn1 hn2 hgb hA' hX hP' hCB hCBl hrB yi2 yi ys yo yz yS yA yold ysz hCS hCSl hv hm5 hrz hri2 hgrow hW4 HRI hl16 hrS hsize
      go_upto_region 9 with (first
        | (refine wpList_load_mid rfl 158 (.tmp 25) rfl bb 0 rfl (u8s l) _ HRB.out Tryd.underlying158 rfl YZ.out.2.2.2.1 ?_)
        | (refine wpList_store_row rfl 158 (.tmp 6) (.tmp 26) rfl w'.heap.size (u8s l).toArray rfl rfl 158 Tryd.zeroCells158 YZ.out.1 YZ.out.2.1 YZ.out.2.2.1 YZ.out.2.2.2.2 ?_))
      rw [← HW4.out]
      go_wp2
      obtain ⟨hA', hP', yS, yA, yold, ysz, hm5⟩ := HF.out
      have hSl := hP'.lt
      have hBl := hP'.map.lt
      have e5 : ∀ j, j ≠ S + 1 → (W4.putObj (S + 1) ob5).heap[j]? = W4.heap[j]? := fun j hj => World.putObj_heap_other hj
      have hSw : S = w.heap.size := HSZ.out
      have hB0 : B < w.heap.size := HP.out.map.lt
      have hrl := HRI2.out.lt
      have hrS : r = S + 2 := HRS.out
      have hA5 := yA.newBlock (w'' := W4.putObj (S + 1) ob5) (S + 1) (by omega) e5 (by simp [World.putObj]) rfl rfl rfl
      have R5 : RangeI .u8 (W4.putObj (S + 1) ob5) B r (bankL m bs) (pre ++ post) := HRI2.out.of_blocks ((e5 B (by omega)).trans (yold B HRI2.out.map.lt)) ((e5 r (by omega)).trans (yold r hrl))
      have P5 := hP'.more (w2 := W4.putObj (S + 1) ob5) (G' := own1 w' Gr p) (p := (k, l)) w'.heap.size (Nat.le_refl _) (fun j hj => own1_old hj) (own1_new _ _ _) (fun j hj hne => (e5 j hne).trans (yold j hj)) ⟨_, (e5 _ (by omega)).trans yS, rfl⟩ hm5
      have g5 : own1 w' Gr p r = 9 := (own1_old hrl).trans hG9r.out
      have HH := Lib.hid (And.intro hA5 (And.intro R5 (And.intro P5 g5)))
      clear hA' hP' yS yA yold ysz hm5 e5 hA5 R5 P5 g5 hSl hBl hSw hB0 hrl hrS
      go_roundw
      case rel =>
        obtain ⟨hA5, R5, P5, g5⟩ := HH.out
        refine ⟨done ++ [((k, l), bb)], preZ ++ postZ, bs' ++ [w'.heap.size], _, ?_, hA5, ?_, g5, ?_⟩
        · refine List.Perm.trans ?_ HPE.out
          simp only [List.append_assoc, List.cons_append, List.nil_append]
          exact List.Perm.append_left _ (List.perm_middle.symm)
        · rw [List.map_append, HPR.out.1, HPR.out.2]; exact R5
        · rw [List.map_append]; exact P5
      case measure =>
        rw [HH.out.2.1.left_eq, hleft.out]
        simp [← HPR.out.1, ← HPR.out.2]
end Go.Proofs.YtdnalhjdmlkbmaaDoor
namespace Go.Proofs.YtdnalhjdmlkbmaaDoor
open Go.RowKit
set_option linter.unusedVariables false
theorem vmMemory_any {w : World} {G : Nat → Nat} {p i j q P D R M : Nat} {code : List Int} {s : VmS} (h : VM w G p i j q P D R M code s) : Calls Tryd.prog 41 #[.pointer (some ⟨P, 0, none⟩)] w fun e w' => e = .returned (.pointer (some ⟨M, 0, none⟩)) ∧ w = w' := by
  have hP := h.lt
  obtain ⟨c0, c1, c2, c3, c4, c6⟩ := h.cells
  clear h
  go_enter Tryd.func41, Tryd.ntmps41
  go_wp2
  go_ret
  exact ⟨rfl, rfl⟩
end Go.Proofs.YtdnalhjdmlkbmaaDoor
namespace Go.Proofs.YtdnalhjdmlkbmaaDoor
open Go.RowKit
set_option linter.unusedVariables false
/-- A copy of a machine in new memory. -/
def VCopyIs (p i j q : Nat) (code : List Int) (w : World) (G : Nat → Nat) (s : VmS) (e : Ending) (w' : World) : Prop :=
  ∃ P D R M l G', e = .returned (.pointer (some ⟨P, 0, none⟩)) ∧ Adv (fun _ => False) w G w' G' ∧ MemEq s.m { s.m with banks := l } ∧ VM w' G' p i j q P D R M code { s with m := { s.m with banks := l } }
theorem VmOk.perm {code : List Int} {s : VmS} (h : VmOk code s) {l : List (Int × List Int)} (hl : l.Perm s.m.banks) : VmOk code { s with m := { s.m with banks := l } } :=
  ⟨⟨h.gd.d16, h.gd.r16, h.gd.dl, h.gd.rl, ⟨h.gd.mo.ram, h.gd.mo.screen, fun p hp => h.gd.mo.banks p (hl.mem_iff.1 hp)⟩, ⟨fun p hp => h.gd.mr.banks p (hl.mem_iff.1 hp), h.gd.mr.ram, h.gd.mr.screen, h.gd.mr.chosen, h.gd.mr.pad, h.gd.mr.volume, h.gd.mr.pitch, h.gd.mr.time⟩⟩, h.pc0, h.pc1, h.cb, h.cl⟩
set_option maxRecDepth 100000 in
set_option maxHeartbeats 2000000 in
theorem copyV_any {w : World} {G : Nat → Nat} {p i j q P D R M p' i' j' q' : Nat} {code : List Int} {s : VmS} (o : Own4 p' i' j' q') (h : VM w G p i j q P D R M code s) (hk : ∀ c ∈ s.r, 1 ≤ c.1 ∧ c.1 ≤ 4) (hn : s.m.tones.length ≤ 1000000) (h9 : q' ≠ 9) :
    Calls Tryd.prog 42 #[.pointer (some ⟨P, 0, none⟩)] w (VCopyIs p' i' j' q' code w G s) := by
  have HD := Lib.hid h.drew
  have HA := Lib.hid (Adv.refl (fun _ => False) w G).drew
  have HK := Lib.hid hk
  have HN := Lib.hid hn
  have hP := h.lt
  obtain ⟨c0, c1, c2, c3, c4, c6⟩ := HD.out.cells
  obtain ⟨ca, cc, hd0, rc, hca⟩ := h.head
  have c5 : w.drew.cell? ⟨P, 5, none⟩ = some (.slice ca code.length cc) := block_cell hd0 5 _ rfl
  have HCA := Lib.hid hca
  have HC := Lib.hid rc
  clear h hk hn rc hd0 hca
  go_enter Tryd.func42, Tryd.ntmps42
  go_upto_region 3 with fail
  go_region_held3 (fun w' => w'.cell? ⟨P, 0, none⟩ = some (.int .u16 s.pc) ∧ w'.cell? ⟨P, 1, none⟩ = some (.int .i64 s.st) ∧ w'.cell? ⟨P, 2, none⟩ = some (.int .i64 s.ft) ∧ w'.cell? ⟨P, 3, none⟩ = some (.pointer (some ⟨D, 0, none⟩)) ∧ w'.cell? ⟨P, 4, none⟩ = some (.pointer (some ⟨R, 0, none⟩)) ∧ w'.cell? ⟨P, 5, none⟩ = some (.slice ca code.length cc) ∧ w'.cell? ⟨P, 6, none⟩ = some (.pointer (some ⟨M, 0, none⟩))) (first | with_reducible exact ⟨c0, c1, c2, c3, c4, c5, c6⟩ | with_reducible exact Q1.out | with_reducible exact Q2.out)
    (first | (go_at_call 72; refine (copy_any _ q q' M s.m HD.out.ok.gd.mo HN.out h9 _ HD.out.tr.pm).mono ?_; rintro e w1 ⟨M1, l, G1, rfl, a1, pl, me, pm⟩; have A1 := Lib.hid (HA.out.trans a1); have H1 := Lib.hid (HD.out.still a1); have B1 := Lib.hid (And.intro pl (And.intro me pm)); obtain ⟨d0, d1, d2, d3, d4, d6⟩ := H1.out.cells; have d5 := a1.cell_some c5 id; have Q1 := Lib.hid (And.intro d0 (And.intro d1 (And.intro d2 (And.intro d3 (And.intro d4 (And.intro d5 d6)))))); have h2 := H1.out.alloc (.cells #[.int .u16 s.pc, .int .i64 s.st, .int .i64 s.ft, .pointer (some ⟨D, 0, none⟩), .pointer (some ⟨R, 0, none⟩), .slice ca code.length cc, .pointer (some ⟨M1, 0, none⟩)] 148) p'; obtain ⟨x0, x1, x2, x3, x4, x6⟩ := h2.cells; have x5 := ((Adv.refl (fun _ => False) w1 G1).alloc (.cells #[.int .u16 s.pc, .int .i64 s.st, .int .i64 s.ft, .pointer (some ⟨D, 0, none⟩), .pointer (some ⟨R, 0, none⟩), .slice ca code.length cc, .pointer (some ⟨M1, 0, none⟩)] 148) p').cell_some d5 id; have Q2 := Lib.hid (And.intro x0 (And.intro x1 (And.intro x2 (And.intro x3 (And.intro x4 (And.intro x5 x6)))))); clear a1 pl me pm d0 d1 d2 d3 d4 d5 d6 h2 x0 x1 x2 x3 x4 x5 x6))
  obtain ⟨W2, hW2⟩ : ∃ v, v = w1.alloc (.cells #[.int .u16 s.pc, .int .i64 s.st, .int .i64 s.ft, .pointer (some ⟨D, 0, none⟩), .pointer (some ⟨R, 0, none⟩), .slice ca code.length cc, .pointer (some ⟨M1, 0, none⟩)] 148) := ⟨_, rfl⟩
  obtain ⟨G2, hG2⟩ : ∃ v, v = own1 w1 G1 p' := ⟨_, rfl⟩
  obtain ⟨P2, hP2⟩ : ∃ v, v = w1.heap.size := ⟨_, rfl⟩
  have hN := heap_alloc_new w1 (.cells #[.int .u16 s.pc, .int .i64 s.st, .int .i64 s.ft, .pointer (some ⟨D, 0, none⟩), .pointer (some ⟨R, 0, none⟩), .slice ca code.length cc, .pointer (some ⟨M1, 0, none⟩)] 148)
  have hg2 : G2 P2 = p' := by rw [hG2, hP2]; exact own1_new _ _ _
  have aN := (Adv.refl (fun _ => False) w1 G1).alloc (.cells #[.int .u16 s.pc, .int .i64 s.st, .int .i64 s.ft, .pointer (some ⟨D, 0, none⟩), .pointer (some ⟨R, 0, none⟩), .slice ca code.length cc, .pointer (some ⟨M1, 0, none⟩)] 148) p'
  have hP12 : P ≠ P2 := by have := H1.out.lt; omega
  have hw12 : w.heap.size ≤ P2 := by have := A1.out.size; omega
  rw [← hW2, ← hG2] at aN
  rw [← hW2, ← hP2] at hN
  have A2 := Lib.hid (A1.out.trans aN)
  have V2 := Lib.hid (H1.out.still aN).drew
  have B2 := Lib.hid (And.intro B1.out.1 (And.intro B1.out.2.1 (B1.out.2.2.adv aN id)))
  have A2d := Lib.hid (Adv.refl (fun _ => False) W2 G2).drew
  have N2 := Lib.hid (And.intro hN (And.intro hg2 (And.intro hP12 hw12)))
  have hPl : P2 < W2.drew.heap.size := (Array.getElem?_eq_some_iff.1 hN).1
  rw [← hW2, ← hP2]
  obtain ⟨-, -, -, y3, y4, -⟩ := V2.out.cells
  clear hN hg2 aN hW2 hG2 hP2 Q1 Q2 hP12 hw12 c0 c1 c2 c3 c4 c5 c6 H1 A1 B1 HA HD
  go_upto_region 4 with fail
  go_region_held3 (fun w' => w'.cell? ⟨P, 3, none⟩ = some (.pointer (some ⟨D, 0, none⟩)) ∧ w'.cell? ⟨P, 4, none⟩ = some (.pointer (some ⟨R, 0, none⟩))) (first | with_reducible exact ⟨y3, y4⟩ | with_reducible exact Q3.out | with_reducible exact Q4.out | with_reducible exact Q5.out | with_reducible exact Q6.out | with_reducible exact Q7.out | with_reducible exact Q8.out)
    (first | (go_at_call 26; refine (newCells _ i D s.d _ V2.out.tr.pu V2.out.ok.gd.dl).mono ?_; rintro e w3 ⟨b1, k1, G3, rfl, a3, r3, o3⟩; have A3 := Lib.hid (A2d.out.trans a3); have V3 := Lib.hid (V2.out.still a3); have R3 := Lib.hid r3; obtain ⟨-, -, -, d3, d4, -⟩ := V3.out.cells; have Q3 := Lib.hid (And.intro d3 d4); clear a3 r3 o3 d3 d4) | (go_at_call 22; refine (newCellsR _ j R s.r _ V3.out.tr.pr (by have := V3.out.ok.gd.rl; omega)).mono ?_; rintro e w4 ⟨b2, k2, G4, rfl, a4, r4, o4⟩; have A4 := Lib.hid (A3.out.trans a4); have V4 := Lib.hid (V3.out.still a4); have R4 := Lib.hid (And.intro (R3.out.adv a4 (fun _ _ => id)) r4); obtain ⟨-, -, -, d3, d4, -⟩ := V4.out.cells; have Q4 := Lib.hid (And.intro d3 d4); clear a4 r4 o4 d3 d4) | (go_at_call 51; refine (stacksP G4 i' j' b1 s.d.length k1 s.d b2 s.r.length k2 s.r _ rfl V4.out.ok.gd.dl R4.out.1 rfl V4.out.ok.gd.rl R4.out.2 HK.out).mono ?_; rintro e w5 ⟨D5, R5, G5, rfl, a5, u5, v5⟩; have A5 := Lib.hid (A4.out.trans a5); have V5 := Lib.hid (V4.out.still a5); have U5 := Lib.hid (And.intro u5 v5); obtain ⟨-, -, -, d3, d4, -⟩ := V5.out.cells; have Q5 := Lib.hid (And.intro d3 d4); have hb5 := (A5.out.keep P2 (Array.getElem?_eq_some_iff.1 N2.out.1).1 id).trans N2.out.1; have f3 := block_free hb5 3; have f4 := block_free hb5 4; have g3 := block_cell hb5 3 _ rfl; have g4 := block_cell hb5 4 _ rfl; have HB5 := Lib.hid hb5; have h53 : ∀ (z : World), (∀ k, k ≠ P2 → z.heap[k]? = w5.heap[k]?) → z.cell? ⟨P, 3, none⟩ = some (.pointer (some ⟨D, 0, none⟩)) ∧ z.cell? ⟨P, 4, none⟩ = some (.pointer (some ⟨R, 0, none⟩)) := fun z hz => ⟨(World.cell?_of_block (a := ⟨P, 3, none⟩) (hz P N2.out.2.2.1)).trans d3, (World.cell?_of_block (a := ⟨P, 4, none⟩) (hz P N2.out.2.2.1)).trans d4⟩; have Q6 := Lib.hid (h53 (w5.setCell ⟨P2, 3, none⟩ (.pointer (some ⟨D5, 0, none⟩))) (fun k hk => Below.heap_setCell _ _ _ _ hk)); have Q7 := Lib.hid (h53 (w5.setCell ⟨P2, 4, none⟩ (.pointer (some ⟨R5, 0, none⟩))) (fun k hk => Below.heap_setCell _ _ _ _ hk)); have Q8 := Lib.hid (h53 ((w5.setCell ⟨P2, 3, none⟩ (.pointer (some ⟨D5, 0, none⟩))).setCell ⟨P2, 4, none⟩ (.pointer (some ⟨R5, 0, none⟩))) (fun k hk => (Below.heap_setCell _ _ _ _ hk).trans (Below.heap_setCell _ _ _ _ hk))); clear a5 u5 v5 d3 d4 hb5 h53))
  all_goals
    go_wp2_with fail
    go_ret
    obtain ⟨hN, hg2, hP12, hw12⟩ := N2.out
    have hlt : P2 < W2.heap.size := (Array.getElem?_eq_some_iff.1 hN).1
    have hl5 : P2 < w5.heap.size := (Array.getElem?_eq_some_iff.1 HB5.out).1
    have a5 := A5.out
    have hG5 : G5 P2 = p' := (a5.own P2 hlt).trans hg2
    have hk5 : ∀ k, k ≠ P2 → ((w5.setCell ⟨P2, 3, none⟩ (.pointer (some ⟨D5, 0, none⟩))).setCell ⟨P2, 4, none⟩ (.pointer (some ⟨R5, 0, none⟩))).heap[k]? = w5.heap[k]? := fun k hk => (Below.heap_setCell _ _ _ _ hk).trans (Below.heap_setCell _ _ _ _ hk)
    have aF := ((Adv.refl (fun o => o = p') w5 G5).setCell (p := ⟨P2, 3, none⟩) hG5 (.pointer (some ⟨D5, 0, none⟩))).setCell (p := ⟨P2, 4, none⟩) hG5 (.pointer (some ⟨R5, 0, none⟩))
    have hh : ((w5.setCell ⟨P2, 3, none⟩ (.pointer (some ⟨D5, 0, none⟩))).setCell ⟨P2, 4, none⟩ (.pointer (some ⟨R5, 0, none⟩))).heap[P2]? = some (.cells #[.int .u16 s.pc, .int .i64 s.st, .int .i64 s.ft, .pointer (some ⟨D5, 0, none⟩), .pointer (some ⟨R5, 0, none⟩), .slice ca code.length cc, .pointer (some ⟨M1, 0, none⟩)] 148 (0, 0)) := by
      simp only [World.setCell, Array.getElem?_modify, HB5.out]; rfl
    have hcode : ∀ ad, ca = some ad → G5 ad.block = 0 ∧ ad.block < w5.heap.size := fun ad e => by
      obtain ⟨h1, h2⟩ := HCA.out ad e
      have a := A2.out.trans a5
      exact ⟨(a.own _ h2).trans h1, Nat.lt_of_lt_of_le h2 a.size⟩
    have hrc : Reads w5 ca (u8s code) := (HC.out.adv A2.out (fun _ _ => id)).adv a5 (fun _ _ => id)
    refine ⟨P2, D5, R5, M1, l, G5, rfl, (A2.out.trans a5).setNew hw12 _ |>.setNew hw12 _, B2.out.2.1, ⟨ca, cc, hh, hrc.adv aF (fun ad e => by rw [(hcode ad e).1]; exact o.p0.symm), fun ad e => ⟨(hcode ad e).1, Nat.lt_of_lt_of_le (hcode ad e).2 aF.size⟩⟩, hG5, ⟨U5.out.1.adv aF (fun e => o.p3 (.inl e.symm)), U5.out.2.adv aF (fun e => o.p3 (.inr (.inl e.symm))), (B2.out.2.2.adv a5 id).adv aF (fun e => o.p3 (.inr (.inr e.symm)))⟩, ?_, V2.out.ok.perm B2.out.1⟩
    exact V5.out.tb.adv aF o.p0.symm
end Go.Proofs.YtdnalhjdmlkbmaaDoor
namespace Go.Proofs.YtdnalhjdmlkbmaaDoor
open Go.RowKit
set_option linter.unusedVariables false
/-- A new row of a label. -/
def RowIs (e size : Nat) (p n : Nat) (xs : List Value) (w : World) (G : Nat → Nat) (en : Ending) (w' : World) : Prop :=
  ∃ va vc G', en = .returned (.slice va n vc) ∧ Adv (fun _ => False) w G w' G' ∧ Row e size w' G' p (.slice va n vc) n xs
set_option maxRecDepth 100000 in
set_option maxHeartbeats 1000000 in
theorem own_any (p : Nat) (G : Nat → Nat) (xa : Option Addr) (n xc : Nat) (l : List Int) (hl : l.length = n) (hn : n ≤ 140737488351232) (w : World) (hr : Reads w xa (u8s l)) :
    Calls Tryd.prog 68 #[.slice xa n xc] w (RowIs 5 1 p n (u8s l) w G) := by
  obtain ⟨i0, hi, hz0, hz1, hz2⟩ := info_parts infoU8
  have HL := Lib.hid hl
  have A0 := Lib.hid ((Adv.refl (fun b => b = 9) w (fun _ => 0)).alloc (.cells #[] 5) 9)
  have R0 := Lib.hid (Row.new w (fun _ => 0) 5 1 9 0 [] (Nat.zero_le _) rfl)
  have X0 := Lib.hid (hr.alloc (.cells #[] 5))
  clear hl hr
  go_enter Tryd.func68, Tryd.ntmps68
  go_wp2_with (first
    | (at_builtin; refine wpList_append_reads rfl (.tmp 3) (.tmp 4) 70 rfl 5 i0 (.int .u8 0) 1 1 Tryd.underlying70 hi hz0 hz1 hz2 rfl (by decide) _ 9 (some ⟨w.heap.size, 0, none⟩) 0 0 [] rfl R0.out xa n xc (u8s l) rfl (by rw [u8s_length, HL.out, Nat.mul_one]) X0.out (u8s_one l) (by unfold maxLen; omega) (by omega) ?_; intro va1 vc1 w1 G1 h1 h2; rw [Nat.zero_add, List.nil_append] at h1; rw [Nat.zero_add]; have HR1 := Lib.hid h1; have HA1 := Lib.hid (A0.out.trans h2); clear h1 h2))
  go_ret
  obtain ⟨f1, f2⟩ := fresh_row HA1.out HR1.out G p
  exact ⟨va1, vc1, _, rfl, f1, f2⟩
end Go.Proofs.YtdnalhjdmlkbmaaDoor
