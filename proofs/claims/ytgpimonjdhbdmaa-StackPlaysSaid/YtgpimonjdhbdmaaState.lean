/- The pair's state, between two calls. -/
import Derived.Test.YtgpimonjdhbdmaaTake
namespace Go.Proofs.Ytgpimonjdhbdmaa
open Go.RowKit

theorem cellsPU_any (G : Nat → Nat) (x i D : Nat) (l : List Int) (w : World) (hp : PU w G i D l) (h1 : l.length ≤ 1000) :
    Calls Try.prog 21 #[.pointer (some ⟨D, 0, none⟩)] w fun e w' => ∃ a c G', e = .returned (.slice a l.length c) ∧ Adv (fun _ => False) w G w' G' ∧ Row 32 1 w' G' x (.slice a l.length c) l.length (cellsU l) := by
  by_cases h0 : l = []
  · subst h0
    refine (cellsPU_nil G i D w hp).mono ?_
    rintro e w' ⟨rfl, rfl⟩
    exact ⟨none, 0, G, rfl, Adv.refl _ _ _, Row.nil _ _ _ _ _⟩
  · refine (cellsPU G i D l w hp h0 h1).mono ?_
    rintro e w' ⟨rfl, rfl⟩
    exact ⟨_, _, own1 w G x, rfl, (Adv.refl _ w G).alloc _ x, Row.new w G 32 1 x l.length (cellsU l) (by unfold maxLen; omega) (by rw [cellsU_length, Nat.mul_one])⟩
theorem cellsPR_any (G : Nat → Nat) (x i D : Nat) (l : List (Int × Int)) (w : World) (hp : PR w G i D l) (h1 : l.length ≤ 1000) :
    Calls Try.prog 18 #[.pointer (some ⟨D, 0, none⟩)] w fun e w' => ∃ a c G', e = .returned (.slice a l.length c) ∧ Adv (fun _ => False) w G w' G' ∧ Row 43 2 w' G' x (.slice a l.length c) l.length (cellsR l) := by
  by_cases h0 : l = []
  · subst h0
    refine (cellsPR_nil G i D w hp).mono ?_
    rintro e w' ⟨rfl, rfl⟩
    exact ⟨none, 0, G, rfl, Adv.refl _ _ _, Row.nil _ _ _ _ _⟩
  · refine (cellsPR G i D l w hp h0 h1).mono ?_
    rintro e w' ⟨rfl, rfl⟩
    exact ⟨_, _, own1 w G x, rfl, (Adv.refl _ w G).alloc _ x, Row.new w G 43 2 x l.length (cellsR l) (by unfold maxLen; omega) (by rw [cellsR_length])⟩

/-- Owners: 1, 2 the program's stacks; 3, 4 the document's; 5 the pair; 6 what was handed out; 11, 12 the lists of that; 7 to 10 nobody. -/
structure Stands (w : World) (G : Nat → Nat) (P n : Nat) (D R E Q : Nat) (gv gr : Value) (l : List Int) (m : List (Int × Int)) : Prop where
  pair : PairS w G P D R E Q gv gr
  d : PU w G 1 D l
  r : PR w G 2 R m
  e : EU w G 3 E l
  q : ER w G 4 Q m
  gu : Gave 22 11 w G (fun o => o = 6) markU gv n
  gr : Gave 36 12 w G (fun o => o = 6) markR gr n
  hl : l.length ≤ 256
  hm : m.length ≤ 128
/-- What the pair does: all but the outside may change. -/
def Moves (w : World) (G : Nat → Nat) (w' : World) (G' : Nat → Nat) : Prop := Adv (fun o => o ≠ 0) w G w' G'
/-- Owners 7 to 10 are nobody's. -/
def Free (w : World) (G : Nat → Nat) : Prop := ∀ b, b < w.heap.size → ¬ (7 ≤ G b ∧ G b ≤ 10)
def StandsA (w : World) (G : Nat → Nat) (P n : Nat) : Prop := Free w G ∧ ∃ D R E Q gv gr l m, Stands w G P n D R E Q gv gr l m
theorem Stands.adv {w w' : World} {G G' : Nat → Nat} {P n D R E Q : Nat} {gv gr : Value} {l : List Int} {m : List (Int × Int)} {S : Nat → Prop} (h : Stands w G P n D R E Q gv gr l m) (ha : Adv S w G w' G')
    (hs : ¬ S 1 ∧ ¬ S 2 ∧ ¬ S 3 ∧ ¬ S 4 ∧ ¬ S 5 ∧ ¬ S 6 ∧ ¬ S 11 ∧ ¬ S 12) : Stands w' G' P n D R E Q gv gr l m := by
  obtain ⟨h1, h2, h3, h4, h5, h6, h7, h8⟩ := hs
  exact ⟨h.pair.adv ha h5, h.d.adv ha h1, h.r.adv ha h2, h.e.adv ha h3, h.q.adv ha h4, h.gu.adv ha h7 (by rintro _ rfl; exact h6), h.gr.adv ha h8 (by rintro _ rfl; exact h6), h.hl, h.hm⟩
theorem Stands.adv0 {w w' : World} {G G' : Nat → Nat} {P n D R E Q : Nat} {gv gr : Value} {l : List Int} {m : List (Int × Int)} (h : Stands w G P n D R E Q gv gr l m) (ha : Adv (fun _ => False) w G w' G') : Stands w' G' P n D R E Q gv gr l m := h.adv ha ⟨id, id, id, id, id, id, id, id⟩
/-- What belonged to 7 to 10 is 6's. -/
def fold6 (H : Nat → Nat) : Nat → Nat := fun b => if 7 ≤ H b ∧ H b ≤ 10 then 6 else H b
theorem fold6_is {H : Nat → Nat} {b i : Nat} (h : H b = i) (hi : ¬ (7 ≤ i ∧ i ≤ 10)) : fold6 H b = i := by
  unfold fold6; rw [h, if_neg hi]
theorem fold6_in {H : Nat → Nat} {b : Nat} (h : 7 ≤ H b ∧ H b ≤ 10) : fold6 H b = 6 := if_pos h
theorem fold6_free (w : World) (H : Nat → Nat) : Free w (fold6 H) := by
  intro b _ h
  unfold fold6 at h
  split at h <;> omega
theorem Adv.fold6 {S : Nat → Prop} {w w' : World} {G H : Nat → Nat} (h : Adv S w G w' H) (hf : Free w G) : Adv S w G w' (fold6 H) :=
  ⟨h.os, h.tape, h.output, h.size, fun b hb => by rw [fold6_is (h.own b hb) (hf b hb)], h.keep⟩
theorem Row.relabel {e size : Nat} {w : World} {G H : Nat → Nat} {i : Nat} {v : Value} {n : Nat} {xs : List Value} (h : Row e size w G i v n xs) (hH : ∀ b, b < w.heap.size → G b = i → H b = i) : Row e size w H i v n xs :=
  ⟨h.row, fun b e => hH b (h.row.lt b e).2 (h.own b e)⟩

theorem Row.drewN {e size : Nat} {w : World} {G : Nat → Nat} {i : Nat} {v : Value} {n : Nat} {xs : List Value} (h : Row e size w G i v n xs) (d : Nat) : Row e size (w.drewN d) G i v n xs := h.adv ((Adv.refl (fun _ => False) w G).drewN d) id
theorem Reads.drewN {w : World} {a : Option Addr} {xs : List Value} (h : Reads w a xs) (d : Nat) : Reads (w.drewN d) a xs := h.adv (G := fun _ => 0) ((Adv.refl (fun _ => False) w (fun _ => 0)).drewN d) (fun _ _ => id)
set_option maxHeartbeats 2000000 in
set_option maxRecDepth 100000 in
theorem same_any (G : Nat → Nat) (P n D R E Q : Nat) (gv gr : Value) (l : List Int) (m : List (Int × Int)) (w : World) (hF : Free w G) (hS : Stands w G P n D R E Q gv gr l m) (hn : n ≤ 900) :
    Calls Try.prog 23 #[.pointer (some ⟨P, 0, none⟩)] w fun e w' => e = .returned (.bool true) ∧ ∃ G', Moves w G w' G' ∧ StandsA w' G' P (n + 2) := by
  obtain ⟨cA, cB, cC, cD, cE, cF, cfr⟩ := hS.pair.cells
  have hl := hS.hl
  have hm := hS.hm
  have HS := Lib.hid hS
  have HF := Lib.hid hF
  clear cfr hS hF cE cF cC cD
  go_enter Try.func23, Try.ntmps23
  go_upto_region 1 with fail
  go_cut [3, 4] (fun s3 s4 wx => ∃ a c b d H, s3 = .slice a l.length c ∧ s4 = .slice b m.length d ∧ Adv (fun _ => False) w G wx H ∧ Row 32 1 wx H 7 (.slice a l.length c) l.length (cellsU l) ∧ Row 43 2 wx H 8 (.slice b m.length d) m.length (cellsR m))
  case first =>
    go_region_held3 (fun w' => w'.cell? ⟨P, 0, none⟩ = some (.pointer (some ⟨D, 0, none⟩)) ∧ w'.cell? ⟨P, 1, none⟩ = some (.pointer (some ⟨R, 0, none⟩))) (first | exact ⟨cA, cB⟩ | exact KU2.out | exact KR2.out | exact KU.out | exact KR.out)
      (first
        | (go_at_call 21; refine (cellsPU_any GR 7 1 D l _ ((HS.out.d.drew).adv HAR.out id) (by omega)).mono ?_; rintro e w' ⟨a, c, GU2, rfl, ha, hr⟩; have HAU2 := Lib.hid (HAR.out.trans ha); have HRR2 := Lib.hid (HRR.out.adv ha id); have HRU2 := Lib.hid hr; have KU2 := Lib.hid (And.intro ((HAU2.out.cell_some (p := ⟨P, 0, none⟩) cA id)) (HAU2.out.cell_some (p := ⟨P, 1, none⟩) cB id)); clear ha hr)
        | (go_at_call 21; refine (cellsPU_any G 7 1 D l _ (HS.out.d.drew) (by omega)).mono ?_; rintro e w' ⟨a, c, GU, rfl, ha, hr⟩; have HAU := Lib.hid ha; have HRU := Lib.hid hr; have KU := Lib.hid (And.intro ((ha.cell_some (p := ⟨P, 0, none⟩) cA id)) (ha.cell_some (p := ⟨P, 1, none⟩) cB id)); clear ha hr)
        | (go_at_call 18; refine (cellsPR_any GU 8 2 R m _ ((HS.out.r.drew).adv HAU.out id) (by omega)).mono ?_; rintro e w' ⟨b, d, GR2, rfl, ha, hr⟩; have HAR2 := Lib.hid (HAU.out.trans ha); have HRU2 := Lib.hid (HRU.out.adv ha id); have HRR2 := Lib.hid hr; have KR2 := Lib.hid (And.intro ((HAR2.out.cell_some (p := ⟨P, 0, none⟩) cA id)) (HAR2.out.cell_some (p := ⟨P, 1, none⟩) cB id)); clear ha hr)
        | (go_at_call 18; refine (cellsPR_any G 8 2 R m _ (HS.out.r.drew) (by omega)).mono ?_; rintro e w' ⟨b, d, GR, rfl, ha, hr⟩; have HAR := Lib.hid ha; have HRR := Lib.hid hr; have KR := Lib.hid (And.intro ((ha.cell_some (p := ⟨P, 0, none⟩) cA id)) (ha.cell_some (p := ⟨P, 1, none⟩) cB id)); clear ha hr))
    all_goals
      go_wp2_with fail
      go_meet
      first
        | exact ⟨a, c, b, d, GU2, rfl, rfl, ((Adv.refl _ w G).drew).trans HAU2.out, HRU2.out, HRR2.out⟩
        | exact ⟨a, c, b, d, GR2, rfl, rfl, ((Adv.refl _ w G).drew).trans HAR2.out, HRU2.out, HRR2.out⟩
  case rest =>
  obtain ⟨a1, c1, b1, d1, G1, rfl, rfl, h1, h2, h3⟩ := hcut
  obtain ⟨wA, rfl⟩ : ∃ x : World, x = wc := ⟨_, rfl⟩
  have hs1 := HS.out.adv0 h1
  obtain ⟨cA, cB, _, _, _, _, _⟩ := hs1.pair.cells
  have HS1 := Lib.hid hs1
  have HA1 := Lib.hid h1
  have HX1 := Lib.hid h2
  have HY1 := Lib.hid h3
  clear hs1 h1 h2 h3 HS
  go_upto_region 2 with fail
  go_cut [5, 6] (fun s5 s6 wx => ∃ a c b d H, s5 = .slice a l.length c ∧ s6 = .slice b m.length d ∧ Adv (fun _ => False) wA G1 wx H ∧ Row 32 1 wx H 9 (.slice a l.length c) l.length (cellsU l) ∧ Row 43 2 wx H 10 (.slice b m.length d) m.length (cellsR m))
  case first =>
    go_region_held3 (fun w' => w'.cell? ⟨P, 0, none⟩ = some (.pointer (some ⟨D, 0, none⟩)) ∧ w'.cell? ⟨P, 1, none⟩ = some (.pointer (some ⟨R, 0, none⟩))) (first | exact ⟨cA, cB⟩ | exact KU2.out | exact KR2.out | exact KU.out | exact KR.out)
      (first
        | (go_at_call 21; refine (cellsPU_any GR 9 1 D l _ ((HS1.out.d.drew).adv HAR.out id) (by omega)).mono ?_; rintro e w' ⟨a, c, GU2, rfl, ha, hr⟩; have HAU2 := Lib.hid (HAR.out.trans ha); have HRR2 := Lib.hid (HRR.out.adv ha id); have HRU2 := Lib.hid hr; have KU2 := Lib.hid (And.intro ((HAU2.out.cell_some (p := ⟨P, 0, none⟩) cA id)) (HAU2.out.cell_some (p := ⟨P, 1, none⟩) cB id)); clear ha hr)
        | (go_at_call 21; refine (cellsPU_any G1 9 1 D l _ (HS1.out.d.drew) (by omega)).mono ?_; rintro e w' ⟨a, c, GU, rfl, ha, hr⟩; have HAU := Lib.hid ha; have HRU := Lib.hid hr; have KU := Lib.hid (And.intro ((ha.cell_some (p := ⟨P, 0, none⟩) cA id)) (ha.cell_some (p := ⟨P, 1, none⟩) cB id)); clear ha hr)
        | (go_at_call 18; refine (cellsPR_any GU 10 2 R m _ ((HS1.out.r.drew).adv HAU.out id) (by omega)).mono ?_; rintro e w' ⟨b, d, GR2, rfl, ha, hr⟩; have HAR2 := Lib.hid (HAU.out.trans ha); have HRU2 := Lib.hid (HRU.out.adv ha id); have HRR2 := Lib.hid hr; have KR2 := Lib.hid (And.intro ((HAR2.out.cell_some (p := ⟨P, 0, none⟩) cA id)) (HAR2.out.cell_some (p := ⟨P, 1, none⟩) cB id)); clear ha hr)
        | (go_at_call 18; refine (cellsPR_any G1 10 2 R m _ (HS1.out.r.drew) (by omega)).mono ?_; rintro e w' ⟨b, d, GR, rfl, ha, hr⟩; have HAR := Lib.hid ha; have HRR := Lib.hid hr; have KR := Lib.hid (And.intro ((ha.cell_some (p := ⟨P, 0, none⟩) cA id)) (ha.cell_some (p := ⟨P, 1, none⟩) cB id)); clear ha hr))
    all_goals
      go_wp2_with fail
      go_meet
      first
        | exact ⟨a, c, b, d, GU2, rfl, rfl, ((Adv.refl _ wA G1).drew).trans HAU2.out, HRU2.out, HRR2.out⟩
        | exact ⟨a, c, b, d, GR2, rfl, rfl, ((Adv.refl _ wA G1).drew).trans HAR2.out, HRU2.out, HRR2.out⟩
  case rest =>
  obtain ⟨a2, c2, b2, d2, G2, rfl, rfl, h1, h2, h3⟩ := hcut
  obtain ⟨wB, rfl⟩ : ∃ x : World, x = wc := ⟨_, rfl⟩
  have hs2 := HS1.out.adv0 h1
  have HX1 := Lib.hid (HX1.out.adv h1 id)
  have HY1 := Lib.hid (HY1.out.adv h1 id)
  have HA2 := Lib.hid (HA1.out.trans h1)
  have HX2 := Lib.hid h2
  have HY2 := Lib.hid h3
  have HS2 := Lib.hid hs2
  obtain ⟨_, _, cC, cD, _, _, _⟩ := hs2.pair.cells
  obtain ⟨ev, he⟩ := hs2.e
  obtain ⟨qv, hq⟩ := hs2.q
  obtain ⟨ea, ec, e1⟩ := he.slice
  obtain ⟨qa, qc, e2⟩ := hq.slice
  rw [e1] at he
  rw [e2] at hq
  have cEE := he.cell
  have cQQ := hq.cell
  have HE := Lib.hid he.reads.1
  have HQ := Lib.hid hq.reads.1
  clear h1 h2 h3 HS1 HA1 hs2 he hq e1 e2
  go_upto_region 3 with fail
  go_cut [7] (fun s7 wx => s7 = .bool true ∧ ∃ q, wx = wB.drewN q)
  case first =>
    go_wp2_with fail
    refine (sameU_any _ _ _ c1 _ ec l l _ rfl rfl (by omega) (by omega) HX1.out.reads HE.out).mono ?_
    rintro e w' ⟨rfl, q1, rfl⟩
    rw [decide_eq_true rfl]
    go_wp2_with fail
    refine (sameR_any _ _ _ d1 _ qc m m _ rfl rfl (by omega) (by omega) ((HY1.out.drewN q1).reads) (HQ.out.drewN q1)).mono ?_
    rintro e w' ⟨rfl, q2, rfl⟩
    rw [decide_eq_true rfl]
    go_wp2_with fail
    refine (sameU_any _ _ _ c2 _ ec l l _ rfl rfl (by omega) (by omega) ((HX2.out.drewN _).reads) (HE.out.drewN _)).mono ?_
    rintro e w' ⟨rfl, q3, rfl⟩
    rw [decide_eq_true rfl]
    go_wp2_with fail
    refine (sameR_any _ _ _ d2 _ qc m m _ rfl rfl (by omega) (by omega) ((HY2.out.drewN _).reads) (HQ.out.drewN _)).mono ?_
    rintro e w' ⟨rfl, q4, rfl⟩
    rw [decide_eq_true rfl]
    go_wp2_with fail
    go_meet
    exact ⟨rfl, q1 + q2 + q3 + q4, by simp⟩
  case rest =>
  obtain ⟨rfl, q, rfl⟩ := hcut
  obtain ⟨wC, hwC⟩ : ∃ x : World, x = wB.drewN q := ⟨_, rfl⟩
  have hd := (Adv.refl (fun _ => False) wB G2).drewN q
  rw [← hwC] at hd
  have HS3 := Lib.hid (HS2.out.adv0 hd)
  have HA3 := Lib.hid (HA2.out.trans hd)
  have HX3 := Lib.hid (HX1.out.adv hd id)
  have HY3 := Lib.hid (HY1.out.adv hd id)
  have HX4 := Lib.hid (HX2.out.adv hd id)
  have HY4 := Lib.hid (HY2.out.adv hd id)
  rw [← hwC]
  clear cA cB cC cD cEE cQQ hd hwC HS2 HA2 HX1 HX2 HY1 HY2 HE HQ
  go_wp2_with fail
  refine (take_any G2 (fun o => o = 6) 7 8 P D R E Q gv gr n a1 l.length c1 _ b1 m.length d1 _ wC HS3.out.pair HS3.out.gu HS3.out.gr (by omega) HX3.out (by omega) HY3.out (by omega) (by omega) (by omega)).mono ?_
  rintro e w4 ⟨rfl, G4, gv1, gr1, h1, h2, h3, h4⟩
  have HD := Lib.hid (HS3.out.d.adv h1 (by omega))
  have HR := Lib.hid (HS3.out.r.adv h1 (by omega))
  have HE := Lib.hid (HS3.out.e.adv h1 (by omega))
  have HQ := Lib.hid (HS3.out.q.adv h1 (by omega))
  have HX5 := Lib.hid (HX4.out.adv h1 (by omega))
  have HY5 := Lib.hid (HY4.out.adv h1 (by omega))
  have HA4 := Lib.hid ((HA3.out.mono (T := fun o => o ≠ 0) fun _ h => h.elim).trans (h1.mono (T := fun o => o ≠ 0) fun _ h => by omega))
  have HP4 := Lib.hid h2
  have HU4 := Lib.hid h3
  have HV4 := Lib.hid h4
  clear h1 h2 h3 h4 HA3 HX3 HY3 HX4 HY4
  go_wp2_with fail
  refine (take_any G4 (fun o => o = 6 ∨ o = 7 ∨ o = 8) 9 10 P D R E Q gv1 gr1 (n + 1) a2 l.length c2 _ b2 m.length d2 _ w4 HP4.out HU4.out HV4.out (by omega) HX5.out (by omega) HY5.out (by omega) (by omega) (by omega)).mono ?_
  rintro e w5 ⟨rfl, G5, gv2, gr2, h1, h2, h3, h4⟩
  have HD5 := Lib.hid (HD.out.adv h1 (by omega))
  have HR5 := Lib.hid (HR.out.adv h1 (by omega))
  have HE5 := Lib.hid (HE.out.adv h1 (by omega))
  have HQ5 := Lib.hid (HQ.out.adv h1 (by omega))
  have HA5 := Lib.hid (HA4.out.trans (h1.mono (T := fun o => o ≠ 0) fun _ h => by omega))
  have HP5 := Lib.hid h2
  have HU5 := Lib.hid h3
  have HV5 := Lib.hid h4
  clear h1 h2 h3 h4 HA4 HX5 HY5 HP4 HU4 HV4 HD HR HE HQ
  obtain ⟨cA, cB, cC, cD, _, _, _⟩ := HP5.out.cells
  obtain ⟨ev, he⟩ := HE5.out
  obtain ⟨qv, hq⟩ := HQ5.out
  obtain ⟨ea, ec, e1⟩ := he.slice
  obtain ⟨qa, qc, e2⟩ := hq.slice
  rw [e1] at he
  rw [e2] at hq
  have cEE := he.cell
  have cQQ := hq.cell
  clear he hq e1 e2
  have hlu : ∀ q, Calls Try.prog 10 #[.pointer (some ⟨D, 0, none⟩)] (w5.drewN q) fun e w' => e = .returned (.int .i64 l.length) ∧ w' = w5.drewN q := fun q => (lenPU G5 1 D l _ (HD5.out.drewN q)).mono fun e w' h => ⟨h.1, h.2.symm⟩
  have hlr : ∀ q, Calls Try.prog 17 #[.pointer (some ⟨R, 0, none⟩)] (w5.drewN q) fun e w' => e = .returned (.int .i64 m.length) ∧ w' = w5.drewN q := fun q => (lenPR G5 2 R m _ (HR5.out.drewN q)).mono fun e w' h => ⟨h.1, h.2.symm⟩
  have HLU := Lib.hid hlu
  have HLR := Lib.hid hlr
  clear hlu hlr
  go_wp2_with fail
  go_quiet ((first | (go_at_call 10; exact Calls.quiet_of_same (HLU.out _)) | (go_at_call 17; exact Calls.quiet_of_same (HLR.out _))))
  go_wp2_with fail
  go_ret
  have hd := (Adv.refl (fun _ => False) w5 G5).drewN nq
  have hall : Moves w G (w5.drewN nq) G5 := HA5.out.trans (hd.mono fun _ h => h.elim)
  have hf : ∀ i, ¬ (7 ≤ i ∧ i ≤ 10) → ∀ b, b < (w5.drewN nq).heap.size → G5 b = i → fold6 G5 b = i := fun i hi b _ e => fold6_is e hi
  have h6 : ∀ b, b < (w5.drewN nq).heap.size → ((G5 b = 6 ∨ G5 b = 7 ∨ G5 b = 8) ∨ G5 b = 9 ∨ G5 b = 10) → fold6 G5 b = 6 := fun b _ h => by
    by_cases h7 : 7 ≤ G5 b ∧ G5 b ≤ 10
    · exact fold6_in h7
    · exact fold6_is (by omega) (by omega)
  obtain ⟨us, u1, u2⟩ := HU5.out.adv hd id (fun _ _ => id)
  obtain ⟨vs, v1, v2⟩ := HV5.out.adv hd id (fun _ _ => id)
  have hp := HP5.out.adv hd id
  refine ⟨rfl, fold6 G5, Adv.fold6 hall HF.out, fold6_free _ _, D, R, E, Q, gv2, gr2, l, m, ⟨hp.head, fold6_is hp.own (by omega)⟩, (HD5.out.adv hd id).relabel (hf 1 (by omega)), (HR5.out.adv hd id).relabel (hf 2 (by omega)), (HE5.out.adv hd id).relabel (hf 3 (by omega)), (HQ5.out.adv hd id).relabel (hf 4 (by omega)), ⟨us, u1.relabel (hf 11 (by omega)), fun i v hv => (u2 i v hv).mono h6⟩, ⟨vs, v1.relabel (hf 12 (by omega)), fun i v hv => (v2 i v hv).mono h6⟩, hl, hm⟩
end Go.Proofs.Ytgpimonjdhbdmaa
