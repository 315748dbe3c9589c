/- PrimKeeps: the walk; What is known of an argument that can be read as data: by its type; The arguments of the statements on stacks, as lists; Stacks' cells that come in as arguments, with their ranges; PrimKeeps, its arguments opened. -/
import Derived.Deep.RegionHeld3
import Derived.ProofKit
import Derived.SizedLaws
import Derived.Deep.Slices
import Derived.OpenShut
import Derived.ChangeMaps5
import Derived.Test.YtdnalhjdmlkbmaaGreatDoorPrimKeepsU1
import Derived.Test.YtdnalhjdmlkbmaaGreatDoorPrimKeepsU2
import Derived.Test.YtdnalhjdmlkbmaaGreatDoorPrimKeepsU3
import Derived.Test.YtdnalhjdmlkbmaaGreatDoorPrimKeepsU4
import Derived.Test.YtdnalhjdmlkbmaaGreatDoorPrimKeepsU5
set_option linter.unusedVariables false
set_option linter.unusedSimpArgs false
set_option linter.unnecessarySimpa false
namespace Go.Proofs.YtdnalhjdmlkbmaaGreatDoor
open Go.RowKit
set_option linter.unusedVariables false
theorem KW.three {w : World} {G : Nat → Nat} {K D R M : Nat} {d : List Int} {r : List (Int × Int)} {m : MemS} {K2 D2 R2 M2 : Nat} {d2 : List Int} {r2 : List (Int × Int)} {m2 : MemS} {P k tn : Nat} (h : KW w G K D R M d r m K2 D2 R2 M2 d2 r2 m2 P k) (ht : (tn : Int) = takesN k) :
    w.cell? ⟨K, 0, none⟩ = some (.pointer (some ⟨D, 0, none⟩)) ∧ w.cell? ⟨K, 1, none⟩ = some (.pointer (some ⟨R, 0, none⟩)) ∧ w.cell? ⟨P, 2, none⟩ = some (.int .i64 tn) :=
  ⟨h.a.cells.1, h.a.cells.2.1, by rw [ht]; exact block_cell h.pr.1 2 _ rfl⟩
theorem prefix_take {a b : List Int} {u : Nat} (h : a.take u <+: b) (hu : u ≤ a.length) : b.take u = a.take u := by
  obtain ⟨t, rfl⟩ := h
  rw [List.take_append_of_le_length (by rw [List.length_take]; omega), List.take_take, Nat.min_self]
theorem prefix_min {a b : List (Int × Int)} (h : b <+: a ∨ a <+: b) : b.take (min a.length b.length) = a.take (min a.length b.length) := by
  rcases h with ⟨t, rfl⟩ | ⟨t, rfl⟩
  · rw [List.length_append, show min (b.length + t.length) b.length = b.length from by omega, List.take_length, List.take_left]
  · rw [List.length_append, show min a.length (a.length + t.length) = a.length from by omega, List.take_left, List.take_length]
def SK (b : Nat) : Prop := b = 1 ∨ b = 2 ∨ b = 3 ∨ b = 5 ∨ b = 6 ∨ b = 7
theorem SK.zero : ¬ SK 0 := by unfold SK; decide
theorem SK.a {b : Nat} (h : S3 1 2 3 b) : SK b := by unfold S3 at h; unfold SK; omega
theorem SK.b {b : Nat} (h : S3 5 6 7 b) : SK b := by unfold S3 at h; unfold SK; omega
set_option maxRecDepth 100000 in
set_option maxHeartbeats 8000000 in
theorem keeps_any (G : Nat → Nat) (xa : Option Addr) (m c : Nat) (l : List Int) (ya : Option Addr) (m2 c2 : Nat) (lr : List (Int × Int)) (a x : Int) (w : World) (ht : Tabs w (fun _ => 0)) (hl : l.length = m) (hr : Reads w xa (cellsU l)) (hcap : m ≤ c) (hc1 : c ≤ 9223372036854775807)
    (hlr : lr.length = m2) (hrr : Reads w ya (cellsR lr)) (hcap2 : m2 ≤ c2) (hc2 : c2 ≤ 9223372036854775807) (hwf : ∀ c ∈ lr, -9223372036854775808 ≤ c.1 ∧ c.1 ≤ 9223372036854775807) (hd : D16 l) (hR : R16 lr) (ha : 0 ≤ a ∧ a < 65536) (hx : 0 ≤ x ∧ x < 256) :
    Calls Tryz.prog 6 #[.slice xa m c, .slice ya m2 c2, .int .u16 a, .int .u8 x] w fun e w' => e = .returned (.bool true) ∧ ∃ G', Adv (fun _ => False) w G w' G' := by
  obtain ⟨m0, hm0⟩ : ∃ m, m = newM banks2 := ⟨_, rfl⟩
  have hz0 : m0.tones = [] ∧ keysF m0 = [0, 9] := by rw [hm0]; exact ⟨rfl, rfl⟩
  have Z0 := Lib.hid hz0
  obtain ⟨d0, hd0⟩ : ∃ d, d = l.take 256 := ⟨_, rfl⟩
  obtain ⟨r0, hr0⟩ : ∃ r, r = (lr.take 128).map normR := ⟨_, rfl⟩
  have BORN : ∀ (Gz : Nat → Nat) (i j q : Nat) (wz : World) (_ : Adv SK w (fun _ => 0) wz Gz), Calls Tryz.prog 9 #[.slice xa m c, .slice ya m2 c2] wz fun e w' => ∃ K D R M G', e = .returned (.pointer (some ⟨K, 0, none⟩)) ∧ Adv (fun _ => False) wz Gz w' G' ∧ W6g w' G' i j q K D R M d0 r0 m0 := by
    intro Gz i j q wz hz
    rw [hd0, hr0, hm0]
    exact bornG Gz i j q xa m c l ya m2 c2 lr wz hl (hr.adv hz fun _ _ => SK.zero) hcap hc1 hlr (hrr.adv hz fun _ _ => SK.zero) hcap2 hc2 hwf hd hR
  have BORN := Lib.hid BORN
  have HT := Lib.hid ht
  clear ht hl hr hcap hc1 hlr hrr hcap2 hc2 hwf hd hR hd0 hr0 hm0 hz0
  go_enter Tryz.func6, Tryz.ntmps6
  go_wp2_with fail
  refine (fixed_any (fun _ => 0) _ HT.out).mono ?_
  rintro e w0 ⟨rfl, G0, a0⟩
  have A0 := Lib.hid (a0.mono (T := SK) fun _ h => h.elim)
  clear a0
  go_wp2_with fail
  go_loopw [9] (fun v wr => ∃ k : Nat, 1 ≤ k ∧ k ≤ 64 ∧ v = .int .i64 k ∧ ∃ Gr, Adv SK w (fun _ => 0) wr Gr) (fun v _ => 64 - (intOf v).toNat)
  case atStart => exact ⟨1, by omega, by omega, rfl, G0, A0.out⟩
  case round =>
    obtain ⟨k, hk1, hk, rfl, Gr, ar⟩ := hrel
    by_cases hlt : k < 64
    · have AR := Lib.hid ar
      clear ar
      go_wp2_with fail
      refine (BORN.out Gr 1 2 3 wr AR.out).mono ?_
      rintro e wa ⟨K, D, R, M, Ga, rfl, aa, ha1⟩
      have AA := Lib.hid (AR.out.trans (aa.mono (T := SK) fun _ h => h.elim))
      have HA := Lib.hid ha1
      clear aa ha1
      go_wp2_with fail
      refine (BORN.out Ga 5 6 7 wa AA.out).mono ?_
      rintro e wb ⟨K2, D2, R2, M2, Gb, rfl, ab, hb1⟩
      have AB := Lib.hid (AA.out.trans (ab.mono (T := SK) fun _ h => h.elim))
      have HA := Lib.hid (HA.out.still ab)
      have HB := Lib.hid hb1
      clear ab hb1
      go_wp2_with fail
      refine (of_in Gb k hk1 hlt wb (HT.out.adv AB.out SK.zero)).mono ?_
      rintro e wq ⟨rfl, Gc, ac⟩
      have HTc := HT.out.adv (AB.out.trans (ac.mono (T := SK) fun _ h => h.elim)) SK.zero
      have aP := (Adv.refl (fun _ => False) wq Gc).alloc (.cells #[.int .i64 k, .string (nameB k), .int .i64 (takesN k), .int .i64 (leavesN k), .int .i64 (costsN k), .bool (operandB k)] 85) 0
      have H1 : KW _ _ K D R M d0 r0 m0 K2 D2 R2 M2 d0 r0 m0 wq.heap.size k := ⟨(HA.out.still ac).still aP, (HB.out.still ac).still aP, HTc.adv aP id, heap_alloc_new _ _, own1_new _ _ _⟩
      have A1 := Lib.hid ((AB.out.trans (ac.mono (T := SK) fun _ h => h.elim)).trans (aP.mono (T := SK) fun _ h => h.elim))
      have H1 := Lib.hid H1
      clear HTc aP ac HA HB
      unfold primV
      go_wp2_with fail
      obtain ⟨wd, hwd⟩ : ∃ v, v = wq.alloc (.cells #[.int .i64 k, .string (nameB k), .int .i64 (takesN k), .int .i64 (leavesN k), .int .i64 (costsN k), .bool (operandB k)] 85) := ⟨_, rfl⟩
      obtain ⟨Gd, hGd⟩ : ∃ v, v = own1 wq Gc 0 := ⟨_, rfl⟩
      rw [← hwd, ← hGd] at A1 H1
      rw [← hwd]
      clear hwd hGd
      refine (plain_any k _).mono ?_
      rintro e w' ⟨rfl, rfl⟩
      by_cases hpl : plainB k = true
      · rw [hpl]
        have HPL := Lib.hid hpl
        obtain ⟨-, -, cM⟩ := H1.out.b.cells
        clear hpl
        go_wp2_with fail
        refine (H1.out.begin2 x hx).mono ?_
        rintro e w2 ⟨rfl, G2, a2, h2⟩
        have A2 := Lib.hid (A1.out.trans (a2.mono (T := SK) fun _ h => SK.b h))
        have H2 := Lib.hid h2
        have HG0 := Lib.hid h2.a.gd
        obtain ⟨-, -, cM⟩ := h2.b.cells
        clear a2 h2
        go_wp2_with fail
        refine (H2.out.store2 a x ha hx (by show (beginF m0 x).tones.length ≤ 99999; exact Nat.zero_le _)).mono ?_
        rintro e w3 ⟨rfl, G3, a3, h3⟩
        have A3 := Lib.hid (A2.out.trans (a3.mono (T := SK) fun _ h => SK.b h))
        have HM := Lib.hid (show (storeF (beginF m0 x) a x).tones.length ≤ 99999 from Nat.le_trans (storeF_tones _ _ _) (by show 0 + 1 ≤ _; decide))
        obtain ⟨m3, hm3⟩ : ∃ v, v = storeF (beginF m0 x) a x := ⟨_, rfl⟩
        rw [← hm3] at h3 HM
        have H3 := Lib.hid h3
        clear a3 h3 hm3
        obtain ⟨cD, cR, cM⟩ := H3.out.a.cells
        have cP := block_cell H3.out.pr.1 2 _ rfl
        have T3 := takes_le k hlt
        obtain ⟨tn, htn⟩ : ∃ v : Nat, (v : Int) = takesN k := ⟨(takesN k).toNat, by omega⟩
        rw [← htn] at cP
        have HTN := Lib.hid htn
        have htn4 : tn ≤ 4 := by omega
        have hU : tn ≤ 100 := by omega
        clear htn T3
        have AC := Lib.hid (A3.out.trans ((Adv.refl (fun _ => False) w3 G3).drew.mono (T := SK) fun _ h => h.elim))
        have HC := Lib.hid (H3.out.still (Adv.refl _ w3 G3).drew)
        have QC := KW.three HC.out HTN.out
        go_upto_region 13 with fail
        go_region_held3 (fun w' => w'.cell? ⟨K, 0, none⟩ = some (.pointer (some ⟨D, 0, none⟩)) ∧ w'.cell? ⟨K, 1, none⟩ = some (.pointer (some ⟨R, 0, none⟩)) ∧ w'.cell? ⟨wq.heap.size, 2, none⟩ = some (.int .i64 tn)) (first | with_reducible exact QC | with_reducible assumption)
          (first | (go_at_call 30; refine (newCells _ 1 D d0 _ HC.out.a.tr.pu HC.out.a.gd.dl).mono ?_; rintro e wz ⟨bA, kA, Gz, rfl, az, rz, oz⟩; have AC := Lib.hid (AC.out.trans (az.mono (T := SK) fun _ h => h.elim)); have HC := Lib.hid (HC.out.still az); have RA := Lib.hid (show Has _ _ _ _ from ⟨rz, fun ad e => ⟨(oz ad e).1, (oz ad e).2.1⟩⟩); (try (have RB := Lib.hid (RB.out.adv az id))); (try (have RC := Lib.hid (RC.out.adv az id))); have QC := KW.three HC.out (HTN.out); clear az rz oz) | (go_at_call 31; refine (cellsR_new _ 2 R r0 _ HC.out.a.tr.pr (by have := HC.out.a.gd.rl; omega)).mono ?_; rintro e wz ⟨bB, kB, Gz, rfl, az, rz, oz⟩; have AC := Lib.hid (AC.out.trans (az.mono (T := SK) fun _ h => h.elim)); have HC := Lib.hid (HC.out.still az); have RB := Lib.hid (show Has _ _ _ _ from ⟨rz, oz⟩); (try (have RA := Lib.hid (RA.out.adv az id))); (try (have RC := Lib.hid (RC.out.adv az id))); have QC := KW.three HC.out (HTN.out); clear az rz oz) | (go_at_call 32; refine (under_any _ 1 D d0 tn (d0.length - tn) _ HC.out.a.tr.pu HC.out.a.gd.dl hU rfl).mono ?_; rintro e wz ⟨bC, kC, Gz, rfl, az, rz, oz⟩; have AC := Lib.hid (AC.out.trans (az.mono (T := SK) fun _ h => h.elim)); have HC := Lib.hid (HC.out.still az); have RC := Lib.hid (show Has _ _ _ _ from ⟨rz, oz⟩); (try (have RA := Lib.hid (RA.out.adv az id))); (try (have RB := Lib.hid (RB.out.adv az id))); have QC := KW.three HC.out (HTN.out); clear az rz oz))
        obtain ⟨-, -, cM⟩ := HC.out.a.cells
        clear QC cD cR cP
        go_wp2_with fail
        refine (text_any _ 3 M m0 HC.out.a.gd.mo HC.out.a.gd.mr (by rw [Z0.out.1]; decide) Z0.out.2 _ HC.out.a.tr.pm).mono ?_
        rintro e wy ⟨rfl, Gy, ay⟩
        have AC := Lib.hid (AC.out.trans (ay.mono (T := SK) fun _ h => h.elim))
        have HC := Lib.hid (HC.out.still ay)
        have RA := Lib.hid (RA.out.adv ay id)
        have RB := Lib.hid (RB.out.adv ay id)
        have RC := Lib.hid (RC.out.adv ay id)
        obtain ⟨S0, hS0⟩ : ∃ v, v = textF m0 := ⟨_, rfl⟩
        rw [← hS0]
        have HS0 := Lib.hid hS0
        clear ay cM hS0
        have hdr := (Adv.refl (fun _ => False) wy Gy).drew
        have AC := Lib.hid (AC.out.trans (hdr.mono (T := SK) fun _ h => h.elim))
        have HC := Lib.hid (HC.out.still hdr)
        have RA := Lib.hid (RA.out.adv hdr id)
        have RB := Lib.hid (RB.out.adv hdr id)
        have RC := Lib.hid (RC.out.adv hdr id)
        have QC := HC.out.a.cells
        clear hdr
        go_upto_region 15 with fail
        go_region_held3 (fun w' => w'.cell? ⟨K, 0, none⟩ = some (.pointer (some ⟨D, 0, none⟩)) ∧ w'.cell? ⟨K, 1, none⟩ = some (.pointer (some ⟨R, 0, none⟩)) ∧ w'.cell? ⟨K, 2, none⟩ = some (.pointer (some ⟨M, 0, none⟩))) (first | with_reducible exact QC | with_reducible assumption)
          (first | (go_at_call 23; refine (HC.out.do1 hlt HPL.out (by rw [Z0.out.1]; decide)).mono ?_; rintro e wx ⟨rfl, Gx, ax, hx1⟩; have AC := Lib.hid (AC.out.trans (ax.mono (T := SK) fun _ h => SK.a h)); have HC := Lib.hid hx1; have RA := Lib.hid (RA.out.adv ax own123.zero); have RB := Lib.hid (RB.out.adv ax own123.zero); have RC := Lib.hid (RC.out.adv ax own123.zero); have QC := HC.out.a.cells; clear ax hx1))
        obtain ⟨f, hf⟩ : ∃ f, f = faultF k d0 r0 := ⟨_, rfl⟩
        rw [← hf]
        have HF := Lib.hid hf
        obtain ⟨⟨d1, r1, m1⟩, ht1⟩ : ∃ t, t = doF k d0 r0 m0 := ⟨_, rfl⟩
        rw [← ht1] at HC
        have HC : Hid (KW wx Gx K D R M d1 r1 m1 K2 D2 R2 M2 d0 r0 m3 wq.heap.size k) := HC
        have HD1 := Lib.hid ht1
        clear ht1 hf QC
        have hdr := (Adv.refl (fun _ => False) wx Gx).drew
        have AC := Lib.hid (AC.out.trans (hdr.mono (T := SK) fun _ h => h.elim))
        have HC := Lib.hid (HC.out.still hdr)
        have RA := Lib.hid (RA.out.adv hdr id)
        have RB := Lib.hid (RB.out.adv hdr id)
        have RC := Lib.hid (RC.out.adv hdr id)
        have QC := HC.out.b.cells
        clear hdr
        go_upto_region 16 with fail
        go_region_held3 (fun w' => w'.cell? ⟨K2, 0, none⟩ = some (.pointer (some ⟨D2, 0, none⟩)) ∧ w'.cell? ⟨K2, 1, none⟩ = some (.pointer (some ⟨R2, 0, none⟩)) ∧ w'.cell? ⟨K2, 2, none⟩ = some (.pointer (some ⟨M2, 0, none⟩))) (first | with_reducible exact QC | with_reducible assumption)
          (first | (go_at_call 23; refine (HC.out.do2 hlt HPL.out HM.out).mono ?_; rintro e wv ⟨rfl, Gv, ax, hx1⟩; have AC := Lib.hid (AC.out.trans (ax.mono (T := SK) fun _ h => SK.b h)); have HC := Lib.hid hx1; have RA := Lib.hid (RA.out.adv ax own567.zero); have RB := Lib.hid (RB.out.adv ax own567.zero); have RC := Lib.hid (RC.out.adv ax own567.zero); have QC := HC.out.b.cells; clear ax hx1))
        rw [← HF.out]
        obtain ⟨⟨d2, r2, m4⟩, ht2⟩ : ∃ t, t = doF k d0 r0 m3 := ⟨_, rfl⟩
        rw [← ht2] at HC
        have HC : Hid (KW wv Gv K D R M d1 r1 m1 K2 D2 R2 M2 d2 r2 m4 wq.heap.size k) := HC
        have HD2 := Lib.hid ht2
        clear ht2 QC
        have hdr := (Adv.refl (fun _ => False) wv Gv).drew
        have AC := Lib.hid (AC.out.trans (hdr.mono (T := SK) fun _ h => h.elim))
        have HC := Lib.hid (HC.out.still hdr)
        have RA := Lib.hid (RA.out.adv hdr id)
        have RB := Lib.hid (RB.out.adv hdr id)
        have RC := Lib.hid (RC.out.adv hdr id)
        have QC := HC.out.a.cells
        clear hdr
        go_upto_region 17 with fail
        go_region_held3 (fun w' => w'.cell? ⟨K, 0, none⟩ = some (.pointer (some ⟨D, 0, none⟩)) ∧ w'.cell? ⟨K, 1, none⟩ = some (.pointer (some ⟨R, 0, none⟩)) ∧ w'.cell? ⟨K, 2, none⟩ = some (.pointer (some ⟨M, 0, none⟩))) (first | with_reducible exact QC | with_reducible assumption)
          (first | (go_at_call 30; refine (cellsU_full _ 1 D d1 _ HC.out.a.tr.pu HC.out.a.gd.dl).mono ?_; rintro e wz ⟨bD, Gz, rfl, az, rz⟩; have AC := Lib.hid (AC.out.trans (az.mono (T := SK) fun _ h => h.elim)); have HC := Lib.hid (HC.out.still az); have RD := Lib.hid rz; have RA := Lib.hid (RA.out.adv az id); have RB := Lib.hid (RB.out.adv az id); have RC := Lib.hid (RC.out.adv az id); (try (have RE := Lib.hid (RE.out.adv az id))); have QC := HC.out.a.cells; clear az rz) | (go_at_call 31; refine (cellsR_new _ 2 R r1 _ HC.out.a.tr.pr (by have := HC.out.a.gd.rl; omega)).mono ?_; rintro e wz ⟨bE, kE, Gz, rfl, az, rz, oz⟩; have AC := Lib.hid (AC.out.trans (az.mono (T := SK) fun _ h => h.elim)); have HC := Lib.hid (HC.out.still az); have RE := Lib.hid (show Has _ _ _ _ from ⟨rz, oz⟩); have RA := Lib.hid (RA.out.adv az id); have RB := Lib.hid (RB.out.adv az id); have RC := Lib.hid (RC.out.adv az id); (try (have RD := Lib.hid (RD.out.adv az id))); have QC := HC.out.a.cells; clear az rz oz))
        obtain ⟨-, -, cM⟩ := QC
        have hk1 : keysF m1 = [0, 9] := by
          have := congrArg (fun t => t.2.2) HD1.out
          simp only at this
          rw [this, doF_keys k hlt]; exact Z0.out.2
        have HK1 := Lib.hid hk1
        have ht1 : m1.tones.length ≤ 1000000 := by
          have := congrArg (fun t => t.2.2) HD1.out
          simp only at this
          rw [this]
          have h5 := (doF_good k hlt (m := m0) (d := d0) (r := r0) HG0.out).2
          rw [Z0.out.1] at h5
          exact Nat.le_trans h5 (by decide)
        have HT1 := Lib.hid ht1
        clear hk1 ht1
        go_wp2_with fail
        refine (text_any _ 3 M m1 HC.out.a.gd.mo HC.out.a.gd.mr HT1.out HK1.out _ HC.out.a.tr.pm).mono ?_
        rintro e wy ⟨rfl, Gy, ay⟩
        have AC := Lib.hid (AC.out.trans (ay.mono (T := SK) fun _ h => h.elim))
        have HC := Lib.hid (HC.out.still ay)
        have RA := Lib.hid (RA.out.adv ay id)
        have RB := Lib.hid (RB.out.adv ay id)
        have RC := Lib.hid (RC.out.adv ay id)
        have RD := Lib.hid (RD.out.adv ay id)
        have RE := Lib.hid (RE.out.adv ay id)
        obtain ⟨S1, hS1⟩ : ∃ v, v = textF m1 := ⟨_, rfl⟩
        rw [← hS1]
        have HS1 := Lib.hid hS1
        clear ay cM hS1
        have hr0l := HG0.out.rl
        have hd0l := HG0.out.dl
        have hr1l := HC.out.a.gd.rl
        have hd1l := HC.out.a.gd.dl
        by_cases hf0 : f = 0
        · subst hf0
          have kp := doF_keep k hlt HPL.out (d := d0) (r := r0) (m := m0) HF.out.symm
          rw [← HD1.out] at kp
          obtain ⟨kd, kq, kr, krp, kw⟩ := kp
          simp only at kd kq kr krp kw
          rw [← HTN.out] at kq
          have kq : d0.take (d0.length - tn) <+: d1 := kq
          obtain ⟨u, hu⟩ : ∃ v, v = d0.length - tn := ⟨_, rfl⟩
          rw [← hu] at kq RC
          rw [← hu]
          have hul : u ≤ d0.length := by omega
          have huen : u ≤ d1.length := by have := kq.length_le; rw [List.length_take] at this; omega
          have KQ := Lib.hid (prefix_take kq hul)
          have KR := Lib.hid (prefix_min krp)
          have hLV := leaves_le k hlt
          have hTV := takes_le k hlt
          obtain ⟨dn, hdn⟩ : ∃ v, v = d0.length := ⟨_, rfl⟩
          obtain ⟨rn, hrn⟩ : ∃ v, v = r0.length := ⟨_, rfl⟩
          obtain ⟨en, hen⟩ : ∃ v, v = d1.length := ⟨_, rfl⟩
          obtain ⟨sn, hsn⟩ : ∃ v, v = r1.length := ⟨_, rfl⟩
          rw [← hdn, ← hen] at kd
          rw [← hrn, ← hsn] at kr
          rw [← hdn] at hd0l hul
          rw [← hrn] at hr0l
          rw [← hen] at hd1l huen
          rw [← hsn] at hr1l
          rw [← hdn, ← hrn, ← hen, ← hsn]
          have hw1 : wrap64 ((dn : Int) + leavesN k) = (dn : Int) + leavesN k := by unfold wrap64; omega
          have hw2 : wrap64 ((dn : Int) + leavesN k - takesN k) = (en : Int) := by unfold wrap64; omega
          have hw3 : wrap64 ((rn : Int) + returnedN k) = (sn : Int) := by unfold wrap64; omega
          have HDN := Lib.hid hdn
          have HRN := Lib.hid hrn
          have HEN := Lib.hid hen
          have HSN := Lib.hid hsn
          have HKW := Lib.hid (show writesB k = false → S1 = S0 from fun h => by rw [HS1.out, HS0.out, kw h])
          have cP2 := block_cell HC.out.pr.1 2 _ rfl
          have cP3 := block_cell HC.out.pr.1 3 _ rfl
          have HU := Lib.hid hu
          obtain ⟨mn, hmn⟩ : ∃ v : Nat, v = min rn sn := ⟨_, rfl⟩
          have HMN := Lib.hid (show min (rn : Int) sn = (mn : Int) from by omega)
          have hmn1 : mn ≤ rn := by omega
          have hmn2 : mn ≤ sn := by omega
          have KR2 : r1.take mn = r0.take mn := by rw [hmn, hrn, hsn]; exact KR.out
          have KR2 := Lib.hid KR2
          clear kd kq kr krp kw hdn hrn hen hsn hu hLV hTV hmn
          obtain ⟨wb, hwb⟩ : ∃ b, writesB k = b := ⟨_, rfl⟩
          rw [hwb] at HKW
          have hws : wb = true ∨ (wb = false ∧ S1 = S0) := by
            cases wb with
            | true => exact .inl rfl
            | false => exact .inr ⟨rfl, HKW.out rfl⟩
          have HWS := Lib.hid hws
          have HWB := Lib.hid hwb
          have KR3 := Lib.hid (show ∀ q, q ≤ mn → r1.take q = r0.take q from fun q hq => by
            have h := congrArg (List.take q) KR2.out
            rwa [List.take_take, List.take_take, Nat.min_eq_left hq] at h)
          obtain ⟨rb, hrb⟩ : ∃ b, readsB k = b := ⟨_, rfl⟩
          have HRB := Lib.hid hrb
          clear hrb hws hwb HKW HS0 HS1
          go_upto_region 19 with fail
          go_cut [149] from 133 to 149 (fun s149 wx => s149 = .bool false ∧ wy = wx)
          case first =>
            go_wp2_with fail
            refine (writes_any k _).mono ?_
            rintro e w' ⟨rfl, rfl⟩
            rw [HWB.out]
            rcases HWS.out with hw | ⟨hw, hw'⟩
            · subst hw
              go_wp2_with fail
              go_meet
              exact ⟨rfl, rfl⟩
            · subst hw
              subst hw'
              go_wp2_with fail
              go_meet
              exact ⟨rfl, rfl⟩
          case rest =>
            obtain ⟨rfl, rfl⟩ := hcut
            go_upto_region 24 with fail
            go_cut [211] from 171 to 211 (fun s211 wx => s211 = .bool false ∧ ∃ q, wx = wy.drewN q)
            case first =>
              go_wp2_with fail
              refine (returned_any k _).mono ?_
              rintro e w' ⟨rfl, rfl⟩
              go_wp2_with fail
              all_goals
                have hmn9 := HMN.out
                refine (sameR_yes bE bB sn kE rn kB _ r1 r0 _ HSN.out.symm HRN.out.symm (by omega) (by omega) (by omega) (by omega) RE.out.1 RB.out.1 (KR3.out _ (by omega))).mono ?_
                rintro e w' ⟨rfl, q, rfl⟩
                go_wp2_with fail
                refine (sameL_any bD bC u en u kC (d1.take u) (d0.take u) _ (by rw [List.length_take, ← HEN.out]; omega) (by rw [List.length_take, ← HDN.out]; omega) (by omega) (by omega) ((RD.out.1.adv ((Adv.refl (fun _ => False) wy Gy).drewN q) (fun _ _ => id)).takeU u) (RC.out.1.adv ((Adv.refl (fun _ => False) wy Gy).drewN q) (fun _ _ => id))).mono ?_
                rintro e w' ⟨rfl, q2, rfl⟩
                rw [decide_eq_true KQ.out]
                go_wp2_with fail
                go_meet
                exact ⟨rfl, q + q2, rfl⟩
            case rest =>
              obtain ⟨rfl, q, rfl⟩ := hcut
              go_wp2_with fail
              refine (reads_any k _).mono ?_
              rintro e w' ⟨rfl, rfl⟩
              rw [HRB.out]
              cases rb with
              | true =>
                go_wp2
                go_roundw
                case rel => exact ⟨k + 1, by omega, by omega, by go_num, Gy, AC.out.drewN q⟩
                case measure => simp [intOf]; omega
              | false =>
                have hdr := ((Adv.refl (fun _ => False) wy Gy).drewN q).drew
                have AC := Lib.hid (AC.out.trans (hdr.mono (T := SK) fun _ h => h.elim))
                have HC := Lib.hid (HC.out.still hdr)
                have RD := Lib.hid (RD.out.adv hdr id)
                have RE := Lib.hid (RE.out.adv hdr id)
                have QC := HC.out.b.cells
                clear hdr RA RB RC
                go_upto_region 27 with fail
                go_region_held3 (fun w' => w'.cell? ⟨K2, 0, none⟩ = some (.pointer (some ⟨D2, 0, none⟩)) ∧ w'.cell? ⟨K2, 1, none⟩ = some (.pointer (some ⟨R2, 0, none⟩)) ∧ w'.cell? ⟨K2, 2, none⟩ = some (.pointer (some ⟨M2, 0, none⟩))) (first | with_reducible exact QC | with_reducible assumption)
                  (first | (go_at_call 30; refine (cellsU_full _ 5 D2 d2 _ HC.out.b.tr.pu HC.out.b.gd.dl).mono ?_; rintro e wz ⟨bF, Gz, rfl, az, rz⟩; have AC := Lib.hid (AC.out.trans (az.mono (T := SK) fun _ h => h.elim)); have HC := Lib.hid (HC.out.still az); have RF := Lib.hid rz; have RD := Lib.hid (RD.out.adv az id); have RE := Lib.hid (RE.out.adv az id); (try (have RG := Lib.hid (RG.out.adv az id))); have QC := HC.out.b.cells; clear az rz) | (go_at_call 31; refine (cellsR_new _ 6 R2 r2 _ HC.out.b.tr.pr (by have := HC.out.b.gd.rl; omega)).mono ?_; rintro e wz ⟨bG, kG, Gz, rfl, az, rz, oz⟩; have AC := Lib.hid (AC.out.trans (az.mono (T := SK) fun _ h => h.elim)); have HC := Lib.hid (HC.out.still az); have RG := Lib.hid (show Has _ _ _ _ from ⟨rz, oz⟩); have RD := Lib.hid (RD.out.adv az id); have RE := Lib.hid (RE.out.adv az id); (try (have RF := Lib.hid (RF.out.adv az id))); have QC := HC.out.b.cells; clear az rz oz))
                obtain ⟨rfl, rfl⟩ : d1 = d2 ∧ r1 = r2 := by
                  have h1 := HD1.out
                  have h2 := HD2.out
                  have h3 := doF_reads k hlt HRB.out d0 r0 m0 m3
                  rw [← h1, ← h2] at h3
                  exact h3
                rw [← HEN.out, ← HSN.out]
                clear QC
                go_wp2_with fail
                refine (sameL_any bD bF en en en en d1 d1 _ HEN.out.symm HEN.out.symm (by omega) (by omega) RD.out.1 RF.out.1).mono ?_
                rintro e w' ⟨rfl, q2, rfl⟩
                rw [decide_eq_true (rfl : d1 = d1)]
                go_wp2_with fail
                refine (sameR_yes bE bG sn kE sn kG sn r1 r1 _ HSN.out.symm HSN.out.symm (Nat.le_refl _) (Nat.le_refl _) (by omega) (by omega) (RE.out.1.adv ((Adv.refl (fun _ => False) wz Gz).drewN q2) (fun _ _ => id)) (RG.out.1.adv ((Adv.refl (fun _ => False) wz Gz).drewN q2) (fun _ _ => id)) rfl).mono ?_
                rintro e w' ⟨rfl, q3, rfl⟩
                go_wp2
                go_roundw
                case rel => exact ⟨k + 1, by omega, by omega, by go_num, Gz, AC.out.drewN (q2 + q3)⟩
                case measure => simp [intOf]; omega
        · have e1 : (d1, r1, m1) = (d0, r0, m0) := by rw [HD1.out, doF_no (by rw [← HF.out]; exact hf0)]
          obtain ⟨e2, e3, e4⟩ : d1 = d0 ∧ r1 = r0 ∧ m1 = m0 := by simpa using e1
          have e5 : S1 = S0 := by rw [HS1.out, HS0.out, e4]
          subst e5
          rw [e2] at RD
          rw [e3] at RE
          rw [e2, e3]
          have hfb : (f == 0) = false := by simpa using hf0
          have hfb2 : (f != 0) = true := by simpa using hf0
          clear hf0 e1 e2 e3 e4
          obtain ⟨dn, hdn⟩ : ∃ v, v = d0.length := ⟨_, rfl⟩
          obtain ⟨rn, hrn⟩ : ∃ v, v = r0.length := ⟨_, rfl⟩
          rw [← hdn, ← hrn]
          rw [← hdn] at hd0l
          rw [← hrn] at hr0l
          have HDN := Lib.hid hdn
          have HRN := Lib.hid hrn
          clear hdn hrn
          go_wp2_with fail
          refine (sameL_any bD bA dn dn dn kA d0 d0 _ HDN.out.symm HDN.out.symm (by omega) (by omega) RD.out.1 RA.out.1).mono ?_
          rintro e w' ⟨rfl, q, rfl⟩
          rw [decide_eq_true (rfl : d0 = d0)]
          go_wp2_with fail
          refine (sameR_yes bE bB rn kE rn kB rn r0 r0 _ HRN.out.symm HRN.out.symm (Nat.le_refl _) (Nat.le_refl _) (by omega) (by omega) (RE.out.1.adv ((Adv.refl (fun _ => False) wy Gy).drewN q) (fun _ _ => id)) (RB.out.1.adv ((Adv.refl (fun _ => False) wy Gy).drewN q) (fun _ _ => id)) rfl).mono ?_
          rintro e w' ⟨rfl, q2, rfl⟩
          go_wp2
          go_roundw
          case rel => exact ⟨k + 1, by omega, by omega, by go_num, Gy, AC.out.drewN (q + q2)⟩
          case measure => simp [intOf]; omega
      · rw [show plainB k = false from by simpa using hpl]
        go_wp2
        go_roundw
        case rel => exact ⟨k + 1, by omega, by omega, by go_num, Gd, A1.out⟩
        case measure => simp [intOf]; omega
    · have HF := Lib.hid ar
      clear ar
      go_wp2
      go_ret
      exact ⟨rfl, _, joined_adv HF.out SK.zero⟩
end Go.Proofs.YtdnalhjdmlkbmaaGreatDoor
namespace Go.Proofs.YtdnalhjdmlkbmaaGreatDoor
open Go.RowKit Go.ChangeShapes Go.WideShapes

/-- Cells that read as data of type t have the form K, and what they hold is within the reach. -/
def Opens (P : Program) (t : TypeId) {α : Type} (K : World → α → List Value → Prop) : Prop :=
  ∀ {H : Type} (enc : TypeId × Value → H) (w : World) (fuel : Nat) (cs : List Value) (x : DataW H × List MemPlace), DataW.trod enc P w 0 (fun _ => true) true fuel t cs = some x →
    (∀ n ∈ DataW.weights P t x.1, n ≤ reachBytes) → ∃ a, K w a cs

def kInt (k : IntKind) : World → Int → List Value → Prop := fun _ n cs => cs = [.int k n] ∧ (Lit.int k n).wf = true
def kBool : World → Bool → List Value → Prop := fun _ b cs => cs = [.bool b]
def kString : World → ByteArray → List Value → Prop := fun _ s cs => cs = [.string s] ∧ s.size ≤ 140737488351232
/-- A slice: its elements, each of 'size' cells; its capacity is within the reach. -/
def kSlice {α : Type} (size bytes : Nat) (K : World → α → List Value → Prop) : World → List α → List Value → Prop := fun w l cs =>
  ∃ a c, cs = [.slice a l.length c] ∧ l.length ≤ c ∧ c * bytes ≤ 140737488351232 ∧
    (l = [] ∨ ∃ b o, a = some ⟨b, o, none⟩ ∧ ∀ i x, l[i]? = some x → ∃ cs', K w x cs' ∧ cs'.length = size ∧ ∀ j u, cs'[j]? = some u → w.cell? ⟨b, o + i * size + j, none⟩ = some u)

theorem opens_int {P : Program} {t : TypeId} {k : IntKind} (ht : P.underlying t = some (.int k)) : Opens P t (kInt k) := by
  intro H enc w fuel cs x h _
  obtain ⟨n, rfl, _, hw⟩ := DataW.trod_int ht h
  exact ⟨n, rfl, hw⟩
theorem opens_bool {P : Program} {t : TypeId} (ht : P.underlying t = some .bool) : Opens P t kBool := by
  intro H enc w fuel cs x h _
  obtain ⟨n, rfl, _⟩ := DataW.trod_bool ht h
  exact ⟨n, rfl⟩
theorem opens_string {P : Program} {t : TypeId} (ht : P.underlying t = some .string) : Opens P t kString := by
  intro H enc w fuel cs x h hr
  obtain ⟨s, rfl, rfl, _⟩ := DataW.trod_string ht h
  refine ⟨s, rfl, ?_⟩
  have := hr s.data.toList.length (by simp [DataW.weights])
  simpa [reachBytes] using this

theorem weights_all {H : Type} {P : Program} {e : TypeId} : ∀ {l : List (DataW H)} {d : DataW H}, d ∈ l → ∀ n ∈ d.weights P e, n ∈ DataW.weightsAll P e l
  | [], d, hd, _, _ => by simp at hd
  | y :: l, d, hd, n, hn => by
    rcases List.mem_cons.1 hd with rfl | h
    · simp [DataW.weightsAll, hn]
    · simp [DataW.weightsAll, weights_all h n hn]

/-- From each place to a list. -/
theorem list_of {α : Type} {p : Nat → α → Prop} : ∀ (n : Nat), (∀ i, i < n → ∃ y, p i y) → ∃ l : List α, l.length = n ∧ ∀ i x, l[i]? = some x → p i x
  | 0, _ => ⟨[], rfl, fun i x hi => by simp at hi⟩
  | m + 1, each => by
    obtain ⟨l, h1, h2⟩ := list_of m (fun i hi => each i (by omega))
    obtain ⟨y, hy⟩ := each m (by omega)
    refine ⟨l ++ [y], by simp [h1], fun i x hi => ?_⟩
    by_cases him : i < l.length
    · exact h2 i x (by rwa [List.getElem?_append_left him] at hi)
    · rw [List.getElem?_append_right (by omega)] at hi
      obtain ⟨rfl, rfl⟩ : i = m ∧ x = y := by
        rw [List.getElem?_singleton] at hi
        split at hi
        · exact ⟨by omega, by simpa using hi.symm⟩
        · cases hi
      exact hy
theorem opens_slice {P : Program} {t e : TypeId} {α : Type} {K : World → α → List Value → Prop} {size bytes : Nat} (ht : P.underlying t = some (.slice e)) (hc : P.cellsOf e = size) (hs : 0 < size) (hb : P.bytesOf e = bytes) (hK : Opens P e K) :
    Opens P t (kSlice size bytes K) := by
  intro H enc w fuel cs x h hr
  rcases DataW.trod_slice ht h with ⟨rfl, rfl⟩ | ⟨a, len, cap, elems, rest, n, _, rfl, rfl, _, hl, _, hlen, hel, hsp, _⟩
  · exact ⟨[], none, 0, rfl, Nat.le_refl _, by omega, .inl rfl⟩
  · obtain ⟨hrl, _⟩ := hsp rfl
    have hcap : cap * bytes ≤ 140737488351232 := by
      have := hr ((elems.map (·.1)).length + (rest.map (·.1)).length |> (· * P.bytesOf e)) (by simp [DataW.weights, ht])
      simp only [List.length_map, hlen, hrl, hb, reachBytes] at this
      rwa [show len + (cap - len) = cap from by omega] at this
    have each : ∀ i, i < len → ∃ y, ∃ cs', K w y cs' ∧ cs'.length = size ∧ ∀ j u, cs'[j]? = some u → w.cell? (a.add (i * size + j)) = some u := by
      intro i hi
      have h1 := hel i hi
      obtain ⟨ei, hei⟩ : ∃ ei, elems[i]? = some ei := ⟨elems[i]'(by omega), by simp⟩
      rw [hei, hc] at h1
      cases hcs : w.cells? 0 (a.add (i * size)) size with
      | none => rw [hcs] at h1; simp at h1
      | some cs' =>
        rw [hcs] at h1
        simp only [Option.bind_some] at h1
        obtain ⟨_, hcl, hcell⟩ := World.cells?_some hcs
        obtain ⟨y, hy⟩ := hK enc w n cs' ei h1 (fun m hm => hr m (by
          simp only [DataW.weights, ht, List.mem_cons, List.mem_append]
          exact .inr (.inl (weights_all (List.mem_map.2 ⟨ei, List.mem_of_getElem? hei, rfl⟩) m hm))))
        refine ⟨y, cs', hy, hcl, fun j u hj => ?_⟩
        have hjl : j < size := by rw [← hcl]; exact (List.getElem?_eq_some_iff.1 hj).1
        have := hcell j hjl
        rw [Go.Deep.add_add] at this
        rw [this]; exact hj
    rcases Nat.eq_zero_or_pos len with h0 | hpos
    · exact ⟨[], some a, cap, by rw [h0]; rfl, by simp, hcap, .inl rfl⟩
    · have hsp0 : ∃ b o, a = ⟨b, o, none⟩ := by
        obtain ⟨y, cs', _, hcl, hcell⟩ := each 0 hpos
        obtain ⟨u, hu⟩ : ∃ u, cs'[0]? = some u := ⟨cs'[0]'(by omega), by simp⟩
        have h2 := hcell 0 u hu
        simp only [Nat.zero_mul, Nat.add_zero, Addr.add_zero'] at h2
        obtain ⟨b, o, sp⟩ := a
        cases sp with
        | none => exact ⟨b, o, rfl⟩
        | some _ => simp only [World.cell?] at h2; split at h2 <;> simp at h2
      obtain ⟨b, o, rfl⟩ := hsp0
      obtain ⟨l, h1, h2⟩ := list_of len each
      refine ⟨l, some ⟨b, o, none⟩, cap, by rw [h1], by omega, hcap, .inr ⟨b, o, rfl, fun i x hi => ?_⟩⟩
      obtain ⟨cs', ha, hb', hc'⟩ := h2 i x hi
      refine ⟨cs', ha, hb', fun j u hj => ?_⟩
      have := hc' j u hj
      rwa [Addr.add_lit, ← Nat.add_assoc] at this

/-- A struct of two fields; of five. -/
theorem opens_struct2 {P : Program} {t : TypeId} {f0 f1 : Field} {α β : Type} {K0 : World → α → List Value → Prop} {K1 : World → β → List Value → Prop} (ht : P.underlying t = some (.struct #[f0, f1]))
    (h0 : Opens P f0.type K0) (h1 : Opens P f1.type K1) : Opens P t (fun w (x : α × β) cs => cs.length = P.cellsOf t ∧ K0 w x.1 ((cs.drop f0.offset).take (P.cellsOf f0.type)) ∧ K1 w x.2 ((cs.drop f1.offset).take (P.cellsOf f1.type))) := by
  intro H enc w fuel cs x h hr
  obtain ⟨xs, n, _, rfl, hl, hlen, hf⟩ := DataW.trod_struct ht h
  match xs, hlen with
  | [y0, y1], _ =>
    have g0 := hf 0 f0 rfl
    have g1 := hf 1 f1 rfl
    have e : DataW.weights P t (.agg ([y0, y1].map (·.1))) = y0.1.weights P f0.type ++ (y1.1.weights P f1.type ++ []) := by simp [DataW.weights, ht, DataW.weightsEach]
    obtain ⟨a, ha⟩ := h0 enc w n _ y0 g0 (fun m hm => hr m (by rw [e]; simp [hm]))
    obtain ⟨b, hb⟩ := h1 enc w n _ y1 g1 (fun m hm => hr m (by rw [e]; simp [hm]))
    exact ⟨(a, b), hl, ha, hb⟩
theorem opens_struct5 {P : Program} {t : TypeId} {f0 f1 f2 f3 f4 : Field} {α β γ δ ε : Type} {K0 : World → α → List Value → Prop} {K1 : World → β → List Value → Prop} {K2 : World → γ → List Value → Prop} {K3 : World → δ → List Value → Prop} {K4 : World → ε → List Value → Prop}
    (ht : P.underlying t = some (.struct #[f0, f1, f2, f3, f4])) (h0 : Opens P f0.type K0) (h1 : Opens P f1.type K1) (h2 : Opens P f2.type K2) (h3 : Opens P f3.type K3) (h4 : Opens P f4.type K4) :
    Opens P t (fun w (x : α × β × γ × δ × ε) cs => cs.length = P.cellsOf t ∧ K0 w x.1 ((cs.drop f0.offset).take (P.cellsOf f0.type)) ∧ K1 w x.2.1 ((cs.drop f1.offset).take (P.cellsOf f1.type)) ∧
      K2 w x.2.2.1 ((cs.drop f2.offset).take (P.cellsOf f2.type)) ∧ K3 w x.2.2.2.1 ((cs.drop f3.offset).take (P.cellsOf f3.type)) ∧ K4 w x.2.2.2.2 ((cs.drop f4.offset).take (P.cellsOf f4.type))) := by
  intro H enc w fuel cs x h hr
  obtain ⟨xs, n, _, rfl, hl, hlen, hf⟩ := DataW.trod_struct ht h
  match xs, hlen with
  | [y0, y1, y2, y3, y4], _ =>
    have e : DataW.weights P t (.agg ([y0, y1, y2, y3, y4].map (·.1))) = y0.1.weights P f0.type ++ (y1.1.weights P f1.type ++ (y2.1.weights P f2.type ++ (y3.1.weights P f3.type ++ (y4.1.weights P f4.type ++ [])))) := by simp [DataW.weights, ht, DataW.weightsEach]
    obtain ⟨a, ha⟩ := h0 enc w n _ y0 (hf 0 f0 rfl) (fun m hm => hr m (by rw [e]; simp [hm]))
    obtain ⟨b, hb⟩ := h1 enc w n _ y1 (hf 1 f1 rfl) (fun m hm => hr m (by rw [e]; simp [hm]))
    obtain ⟨c, hc⟩ := h2 enc w n _ y2 (hf 2 f2 rfl) (fun m hm => hr m (by rw [e]; simp [hm]))
    obtain ⟨d, hd⟩ := h3 enc w n _ y3 (hf 3 f3 rfl) (fun m hm => hr m (by rw [e]; simp [hm]))
    obtain ⟨f, hf⟩ := h4 enc w n _ y4 (hf 4 f4 rfl) (fun m hm => hr m (by rw [e]; simp [hm]))
    exact ⟨(a, b, c, d, f), hl, ha, hb, hc, hd, hf⟩

/-- An argument: its value's cells have the form K. -/
theorem opens_arg {P : Program} {H : Type} {enc : TypeId × Value → H} {w : World} {ts : List TypeId} {ds : List (DataW H)} (hsz : (DataW.weightsEach P ts ds).all (· ≤ reachBytes) = true) {j : Nat} {t : TypeId} {d : DataW H} {v : Value} {p : List MemPlace}
    {α : Type} {K : World → α → List Value → Prop} (hK : Opens P t K) (h : DataW.Trod enc P w 0 (fun _ => true) true t v d p) (htj : ts[j]? = some t) (hdj : ds[j]? = some d) : ∃ a, K w a v.cells.toList := by
  obtain ⟨fuel, hf⟩ := h
  exact hK enc w fuel _ _ hf (fun n hn => by simpa using List.all_eq_true.1 hsz n (DataW.weights_mem_each htj hdj n hn))
#print axioms opens_slice
end Go.Proofs.YtdnalhjdmlkbmaaGreatDoor
namespace Go.Proofs.YtdnalhjdmlkbmaaGreatDoor
open Go.RowKit Go.ChangeShapes Go.WideShapes

theorem Tryz.cells31 : Tryz.prog.cellsOf 31 = 1 := by kernel_rfl
theorem Tryz.bytes31 : Tryz.prog.bytesOf 31 = 2 := by kernel_rfl
theorem Tryz.cells111 : Tryz.prog.cellsOf 111 = 2 := by kernel_rfl
theorem Tryz.bytes111 : Tryz.prog.bytesOf 111 = 16 := by kernel_rfl
theorem Tryz.cells3 : Tryz.prog.cellsOf 3 = 1 := by kernel_rfl

theorem opens22 : Opens Tryz.prog 22 (kSlice 1 2 (kInt .u16)) := opens_slice Tryz.underlying22 Tryz.cells31 (by omega) Tryz.bytes31 (opens_int Tryz.underlying31)
theorem kU {w : World} {l : List Int} {cs : List Value} (h : kSlice 1 2 (kInt .u16) w l cs) : ∃ a c, cs = [.slice a l.length c] ∧ l.length ≤ c ∧ c ≤ 70368744175616 ∧ Reads w a (cellsU l) := by
  obtain ⟨a, c, rfl, h1, h2, h3⟩ := h
  refine ⟨a, c, rfl, h1, by omega, ?_⟩
  rcases h3 with rfl | ⟨b, o, rfl, h3⟩
  · exact .inl rfl
  · refine .inr ⟨b, o, rfl, fun j u hu => ?_⟩
    simp only [cellsU, List.getElem?_map, Option.map_eq_some_iff] at hu
    obtain ⟨x, hx, rfl⟩ := hu
    obtain ⟨cs', ⟨rfl, _⟩, _, hc⟩ := h3 j x hx
    have := hc 0 _ rfl
    simpa using this
/-- The cells of an api.Cell. -/
def kCell : World → Int × Int → List Value → Prop := fun _ c cs => cs = [.int .i64 c.1, .int .u16 c.2]
theorem opens43 : Opens Tryz.prog 111 kCell := by
  intro H enc w fuel cs x h hr
  obtain ⟨a, h1, h2, h3⟩ := opens_struct2 Tryz.underlying111 (opens_int Tryz.underlying3) (opens_int Tryz.underlying31) enc w fuel cs x h hr
  rw [Tryz.cells111] at h1
  rw [Tryz.cells3] at h2
  rw [Tryz.cells31] at h3
  match cs, h1 with
  | [c0, c1], _ =>
    have e0 := h2.1
    have e1 := h3.1
    simp at e0 e1
    exact ⟨a, by rw [e0, e1]; rfl⟩
theorem opens36 : Opens Tryz.prog 23 (kSlice 2 16 kCell) := opens_slice Tryz.underlying23 Tryz.cells111 (by omega) Tryz.bytes111 opens43
theorem cellsR_get (l : List (Int × Int)) : ∀ (j : Nat) (u : Value), (cellsR l)[j]? = some u → ∃ (i : Nat) (d : Nat) (c : Int × Int), j = i * 2 + d ∧ l[i]? = some c ∧ [Value.int .i64 c.1, .int .u16 c.2][d]? = some u := by
  induction l with
  | nil => intro j u h; simp [cellsR] at h
  | cons c l ih =>
    intro j u h
    simp only [cellsR, List.flatMap_cons] at h ih
    match j with
    | 0 => exact ⟨0, 0, c, rfl, rfl, h⟩
    | 1 => exact ⟨0, 1, c, rfl, rfl, h⟩
    | j + 2 =>
      obtain ⟨i, d, c', h1, h2, h3⟩ := ih j u h
      exact ⟨i + 1, d, c', by omega, h2, h3⟩
theorem kR {w : World} {l : List (Int × Int)} {cs : List Value} (h : kSlice 2 16 kCell w l cs) : ∃ a c, cs = [.slice a l.length c] ∧ l.length ≤ c ∧ c ≤ 8796093021952 ∧ Reads w a (cellsR l) := by
  obtain ⟨a, c, rfl, h1, h2, h3⟩ := h
  refine ⟨a, c, rfl, h1, by omega, ?_⟩
  rcases h3 with rfl | ⟨b, o, rfl, h3⟩
  · exact .inl rfl
  · refine .inr ⟨b, o, rfl, fun j u hu => ?_⟩
    obtain ⟨i, d, x, rfl, hx, hd⟩ := cellsR_get l j u hu
    obtain ⟨cs', rfl, _, hc⟩ := h3 i x hx
    have := hc d _ hd
    rwa [← Nat.add_assoc]
theorem slice_of {a a' : Option Addr} {n n' c c' : Nat} (h : (Value.slice a n c).cells.toList = [.slice a' n' c']) : Value.slice a n c = .slice a' n' c' := by simpa [Value.cells] using h
end Go.Proofs.YtdnalhjdmlkbmaaGreatDoor
namespace Go.Proofs.YtdnalhjdmlkbmaaGreatDoor
open Go.RowKit Go.ChangeShapes Go.WideShapes
set_option linter.unusedVariables false
theorem wf_i64_of {n : Int} (h : (Lit.int .i64 n).wf = true) : -9223372036854775808 ≤ n ∧ n ≤ 9223372036854775807 := by
  simp [Lit.wf, IntKind.min, IntKind.max, IntKind.signed, IntKind.bits] at h
  omega
theorem kUW {w : World} {l : List Int} {cs : List Value} (h : kSlice 1 2 (kInt .u16) w l cs) : ∃ a c, cs = [.slice a l.length c] ∧ l.length ≤ c ∧ c ≤ 70368744175616 ∧ Reads w a (cellsU l) ∧ D16 l := by
  obtain ⟨a, c, h1, h2, h3, h4⟩ := kU h
  refine ⟨a, c, h1, h2, h3, h4, fun x hx => ?_⟩
  obtain ⟨b, d, _, _, _, h5⟩ := h
  rcases h5 with rfl | ⟨b, o, rfl, h5⟩
  · cases hx
  · obtain ⟨j, hj⟩ := List.getElem?_of_mem hx
    obtain ⟨cs', ⟨_, hw⟩, _⟩ := h5 j x hj
    exact wf_u16_of hw
/-- The cells of an api.Cell, with their ranges. -/
def kCellW : World → Int × Int → List Value → Prop := fun _ c cs => cs = [.int .i64 c.1, .int .u16 c.2] ∧ (Lit.int .i64 c.1).wf = true ∧ (Lit.int .u16 c.2).wf = true
theorem opensCellW : Opens Tryz.prog 111 kCellW := by
  intro H enc w fuel cs x h hr
  obtain ⟨a, h1, h2, h3⟩ := opens_struct2 Tryz.underlying111 (opens_int Tryz.underlying3) (opens_int Tryz.underlying31) enc w fuel cs x h hr
  have w2 := h2.2
  have w3 := h3.2
  rw [Tryz.cells111] at h1
  rw [Tryz.cells3] at h2
  rw [Tryz.cells31] at h3
  match cs, h1 with
  | [c0, c1], _ =>
    have e0 := h2.1
    have e1 := h3.1
    simp at e0 e1
    exact ⟨a, by rw [e0, e1], w2, w3⟩
theorem opensCellsW : Opens Tryz.prog 23 (kSlice 2 16 kCellW) := opens_slice Tryz.underlying23 Tryz.cells111 (by omega) Tryz.bytes111 opensCellW
theorem kRW {w : World} {l : List (Int × Int)} {cs : List Value} (h : kSlice 2 16 kCellW w l cs) : ∃ a c, cs = [.slice a l.length c] ∧ l.length ≤ c ∧ c ≤ 8796093021952 ∧ Reads w a (cellsR l) ∧ R16 l ∧ (∀ x ∈ l, -9223372036854775808 ≤ x.1 ∧ x.1 ≤ 9223372036854775807) := by
  obtain ⟨a, c, rfl, h1, h2, h3⟩ := h
  have hall : ∀ x ∈ l, (Lit.int .i64 x.1).wf = true ∧ (Lit.int .u16 x.2).wf = true := by
    intro x hx
    rcases h3 with rfl | ⟨b, o, rfl, h3⟩
    · cases hx
    · obtain ⟨j, hj⟩ := List.getElem?_of_mem hx
      obtain ⟨cs', ⟨_, hw⟩, _⟩ := h3 j x hj
      exact hw
  refine ⟨a, c, rfl, h1, by omega, ?_, fun x hx => wf_u16_of (hall x hx).2, fun x hx => wf_i64_of (hall x hx).1⟩
  rcases h3 with rfl | ⟨b, o, rfl, h3⟩
  · exact .inl rfl
  · refine .inr ⟨b, o, rfl, fun j u hu => ?_⟩
    obtain ⟨i, d, x, rfl, hx, hd⟩ := cellsR_get l j u hu
    obtain ⟨cs', ⟨rfl, _⟩, _, hc⟩ := h3 i x hx
    have := hc d _ hd
    rwa [← Nat.add_assoc]
end Go.Proofs.YtdnalhjdmlkbmaaGreatDoor
namespace Go.Proofs.YtdnalhjdmlkbmaaGreatDoor.primKeeps
open Go.RowKit Go.ChangeShapes Go.WideShapes
set_option linter.unusedVariables false
set_option maxRecDepth 100000 in
theorem primKeeps_open {H : Type} {enc : TypeId × Value → H} (W : World) (base : Nat) (v0 : Value) (d0 : DataW H) (p0 : List MemPlace) (h0 : DataW.Trod enc Tryz.prog W 0 (fun _ => true) true 22 v0 d0 p0) (o0 : Value.okWide Tryz.prog W .any base 22 v0)
    (v1 : Value) (d1 : DataW H) (p1 : List MemPlace) (h1 : DataW.Trod enc Tryz.prog W 0 (fun _ => true) true 23 v1 d1 p1) (o1 : Value.okWide Tryz.prog W .any base 23 v1)
    (v2 : Value) (d2 : DataW H) (p2 : List MemPlace) (h2 : DataW.Trod enc Tryz.prog W 0 (fun _ => true) true 31 v2 d2 p2) (o2 : Value.okWide Tryz.prog W .any base 31 v2)
    (v3 : Value) (d3 : DataW H) (p3 : List MemPlace) (h3 : DataW.Trod enc Tryz.prog W 0 (fun _ => true) true 5 v3 d3 p3) (o3 : Value.okWide Tryz.prog W .any base 5 v3)
    (hsz : (DataW.weightsEach Tryz.prog ([22, 23, 31, 5] ++ []) ([d0, d1, d2, d3] ++ [])).all (· ≤ reachBytes) = true) (hL : laidMetH Tryz.prog laid4 W) :
    Calls Tryz.prog 6 #[v0, v1, v2, v3] W fun e w' => e = .returned (.bool true) ∧ Below W.heap.size W w' := by
  obtain ⟨xs, hx⟩ := opens_arg hsz (j := 0) opens22 h0 rfl rfl
  obtain ⟨ys, hy⟩ := opens_arg hsz (j := 1) opensCellsW h1 rfl rfl
  obtain ⟨a, n, c, rfl⟩ := okWide_slice Tryz.underlying22 o0
  obtain ⟨b, m, c2, rfl⟩ := okWide_slice Tryz.underlying23 o1
  obtain ⟨z, rfl, _, _, hz⟩ := open_int Tryz.underlying31 o2 h2
  obtain ⟨x, rfl, _, _, hv⟩ := open_int Tryz.underlying5 o3 h3
  have hz := wf_u16_of hz
  have hv := wf_u8_of hv
  obtain ⟨a', c', f1, g1, b1, r1, x1⟩ := kUW hx
  obtain ⟨b', c2', f2, g2, b2, r2, x2, x3⟩ := kRW hy
  rw [slice_of f1, slice_of f2]
  refine (keeps_any (fun _ => 0) a' xs.length c' xs b' ys.length c2' ys z x W (of_laid hL) rfl r1 g1 (by omega) rfl r2 g2 (by omega) x3 x1 x2 hz hv).mono ?_
  rintro e w' ⟨rfl, G', ha⟩
  exact ⟨rfl, ha.below (Nat.le_refl _) fun _ _ => id⟩
end Go.Proofs.YtdnalhjdmlkbmaaGreatDoor.primKeeps
