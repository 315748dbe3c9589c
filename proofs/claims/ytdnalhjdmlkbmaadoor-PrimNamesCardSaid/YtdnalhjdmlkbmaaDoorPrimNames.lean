/- PrimNames' walk. -/
import Derived.Test.YtdnalhjdmlkbmaaDoorFixed
import Derived.Test.YtdnalhjdmlkbmaaDoorFaults
import Derived.Test.YtdnalhjdmlkbmaaDoorCtl
namespace Go.Proofs.YtdnalhjdmlkbmaaDoor
open Go.RowKit

set_option maxRecDepth 100000 in
theorem named_op (G : Nat → Nat) (k : Nat) (s : ByteArray) (h1 : 1 ≤ k) (hk : k < 64) (hs : ((nameB k).toList == s.toList) = true) (w : World) (ht : Tabs w G) :
    Calls Tryd.prog 19 #[.int .i64 k, .string s] w fun e w' => e = .returned (.bool true) ∧ ∃ G', Adv (fun _ => False) w G w' G' := by
  have HT := Lib.hid ht
  clear ht
  go_enter Tryd.func19, Tryd.ntmps19
  go_wp2_with fail
  refine (of_in G k h1 hk _ HT.out).mono ?_
  rintro e w1 ⟨rfl, G1, ha1⟩
  unfold primV
  have HA := Lib.hid (ha1.alloc (.cells #[.int .i64 k, .string (nameB k), .int .i64 (takesN k), .int .i64 (leavesN k), .int .i64 (costsN k), .bool (operandB k)] 25) 0)
  clear ha1
  go_wp2_with fail
  go_ret
  exact ⟨rfl, _, HA.out⟩
theorem do_do (G : Nat → Nat) (i j D R M : Nat) (base : List Int) (a b : Int) (rl : List (Int × Int)) (hi : i ≠ 0) (hj : j ≠ 0) (hij : i ≠ j) (hl : (base ++ [a, b]).length ≤ 256) (hrl : rl.length + 2 ≤ 128) (hneed : needF (base ++ [a, b]).length (takesN 6) (leavesN 6) = 0)
    (w : World) (ht : Tabs w G) (hp : PU w G i D (base ++ [a, b])) (hr : PR w G j R rl) :
    Calls Tryd.prog 21 #[.int .i64 6, .pointer (some ⟨D, 0, none⟩), .pointer (some ⟨R, 0, none⟩), .pointer (some ⟨M, 0, none⟩)] w fun e w' => e = .returned (.int .i64 0) ∧ ∃ G', Adv (fun o => o = i ∨ o = j) w G w' G' ∧ PU w' G' i D base ∧ PR w' G' j R (rl ++ [(2, a), (3, b)]) := by
  refine do_ok G 6 (by decide) (by decide) 106 (enters_of Tryd.func106 (by kernel_rfl) rfl) (fun _ _ c => c = #[]) (fun G w => (does_6 w).mono fun e w' h => ⟨#[], G, h.1, by rw [← h.2]; exact Adv.refl _ _ _, rfl⟩) (fun _ _ _ _ _ _ h _ _ => h)
    i j D R ⟨M, 0, none⟩ (base ++ [a, b]) rl hi hj (fun o => o = i ∨ o = j) (fun w' G' => PU w' G' i D base ∧ PR w' G' j R (rl ++ [(2, a), (3, b)])) hl (by omega) hneed rfl (by show (rl.length : Int) + 2 ≤ 128; omega) w ht hp hr ?_
  intro w1 G1 K c ha hc hk
  subst hc
  exact doDo_any G1 i j D K R _ base a b rl hi hj hij (by omega) w1 (hp.adv ha id) (hr.adv ha id) hk
theorem do_index (G : Nat → Nat) (i j D R M : Nat) (l : List Int) (rl : List (Int × Int)) (hi : i ≠ 0) (hj : j ≠ 0) (hl : l.length + 1 ≤ 256) (hrl : rl.length ≤ 128) (hneed : needF l.length (takesN 58) (leavesN 58) = 0) (hlooks : looksF 58 rl = 0)
    (w : World) (ht : Tabs w G) (hp : PU w G i D l) (hr : PR w G j R rl) :
    Calls Tryd.prog 21 #[.int .i64 58, .pointer (some ⟨D, 0, none⟩), .pointer (some ⟨R, 0, none⟩), .pointer (some ⟨M, 0, none⟩)] w fun e w' => e = .returned (.int .i64 0) ∧ ∃ G', Adv (fun o => o = i) w G w' G' ∧ PU w' G' i D (l ++ [atV rl 0 3]) := by
  refine do_ok G 58 (by decide) (by decide) 115 (enters_of Tryd.func115 (by kernel_rfl) rfl) (fun _ _ c => c = #[]) (fun G w => (does_58 w).mono fun e w' h => ⟨#[], G, h.1, by rw [← h.2]; exact Adv.refl _ _ _, rfl⟩) (fun _ _ _ _ _ _ h _ _ => h)
    i j D R ⟨M, 0, none⟩ l rl hi hj (fun o => o = i) (fun w' G' => PU w' G' i D (l ++ [atV rl 0 3])) (by omega) hrl hneed hlooks (by show (rl.length : Int) + 0 ≤ 128; omega) w ht hp hr ?_
  intro w1 G1 K c ha hc hk
  subst hc
  exact doIndex_any G1 i j D K R _ l rl hl hrl w1 (hp.adv ha id) (hr.adv ha id) hk
set_option maxRecDepth 100000 in
set_option maxHeartbeats 4000000 in
theorem names_any (G : Nat → Nat) (w : World) (ht : Tabs w (fun _ => 0)) : Calls Tryd.prog 5 #[] w fun e w' => e = .returned (.bool true) ∧ ∃ G', Adv (fun _ => False) w G w' G' := by
  have HT0 := Lib.hid ht
  clear ht
  go_enter Tryd.func5, Tryd.ntmps5
  go_wp2_with fail
  refine (fixed_any (fun _ => 0) _ HT0.out).mono ?_
  rintro e w1 ⟨rfl, G1, ha⟩
  have HA1 := Lib.hid ha
  have HT1 := Lib.hid (HT0.out.adv ha id)
  clear ha
  go_wp2_with fail
  refine (named_op G1 1 ⟨#[]⟩ (by decide) (by decide) (by decide +kernel) _ HT1.out).mono ?_
  rintro e w2 ⟨rfl, G2, ha⟩
  have HA2 := Lib.hid (HA1.out.trans ha)
  have HT2 := Lib.hid (HT0.out.adv HA2.out id)
  clear ha HA1 HT1
  go_wp2_with fail
  refine (named_op G2 7 ⟨#[]⟩ (by decide) (by decide) (by decide +kernel) _ HT2.out).mono ?_
  rintro e w3 ⟨rfl, G3, ha⟩
  have HA3 := Lib.hid (HA2.out.trans ha)
  have HT3 := Lib.hid (HT0.out.adv HA3.out id)
  clear ha HA2 HT2
  go_wp2_with fail
  refine (named_op G3 8 ⟨#[]⟩ (by decide) (by decide) (by decide +kernel) _ HT3.out).mono ?_
  rintro e w4 ⟨rfl, G4, ha⟩
  have HA4 := Lib.hid (HA3.out.trans ha)
  have HT4 := Lib.hid (HT0.out.adv HA4.out id)
  clear ha HA3 HT3
  go_wp2_with fail
  refine (named_op G4 9 ⟨#[110, 111, 112]⟩ (by decide) (by decide) (by decide +kernel) _ HT4.out).mono ?_
  rintro e w5 ⟨rfl, G5, ha⟩
  have HA5 := Lib.hid (HA4.out.trans ha)
  have HT5 := Lib.hid (HT0.out.adv HA5.out id)
  clear ha HA4 HT4
  go_wp2_with fail
  refine (named_op G5 10 ⟨#[121, 105, 101, 108, 100]⟩ (by decide) (by decide) (by decide +kernel) _ HT5.out).mono ?_
  rintro e w6 ⟨rfl, G6, ha⟩
  have HA6 := Lib.hid (HA5.out.trans ha)
  have HT6 := Lib.hid (HT0.out.adv HA6.out id)
  clear ha HA5 HT5
  go_wp2_with fail
  refine (named_op G6 11 ⟨#[104, 97, 108, 116]⟩ (by decide) (by decide) (by decide +kernel) _ HT6.out).mono ?_
  rintro e w7 ⟨rfl, G7, ha⟩
  have HA7 := Lib.hid (HA6.out.trans ha)
  have HT7 := Lib.hid (HT0.out.adv HA7.out id)
  clear ha HA6 HT6
  go_wp2_with fail
  refine (named_op G7 12 ⟨#[100, 117, 112]⟩ (by decide) (by decide) (by decide +kernel) _ HT7.out).mono ?_
  rintro e w8 ⟨rfl, G8, ha⟩
  have HA8 := Lib.hid (HA7.out.trans ha)
  have HT8 := Lib.hid (HT0.out.adv HA8.out id)
  clear ha HA7 HT7
  go_wp2_with fail
  refine (named_op G8 18 ⟨#[116, 117, 99, 107]⟩ (by decide) (by decide) (by decide +kernel) _ HT8.out).mono ?_
  rintro e w9 ⟨rfl, G9, ha⟩
  have HA9 := Lib.hid (HA8.out.trans ha)
  have HT9 := Lib.hid (HT0.out.adv HA9.out id)
  clear ha HA8 HT8
  go_wp2_with fail
  refine (named_op G9 20 ⟨#[50, 100, 114, 111, 112]⟩ (by decide) (by decide) (by decide +kernel) _ HT9.out).mono ?_
  rintro e w10 ⟨rfl, G10, ha⟩
  have HA10 := Lib.hid (HA9.out.trans ha)
  have HT10 := Lib.hid (HT0.out.adv HA10.out id)
  clear ha HA9 HT9
  go_wp2_with fail
  refine (named_op G10 21 ⟨#[43]⟩ (by decide) (by decide) (by decide +kernel) _ HT10.out).mono ?_
  rintro e w11 ⟨rfl, G11, ha⟩
  have HA11 := Lib.hid (HA10.out.trans ha)
  have HT11 := Lib.hid (HT0.out.adv HA11.out id)
  clear ha HA10 HT10
  go_wp2_with fail
  refine (named_op G11 27 ⟨#[117, 109, 111, 100]⟩ (by decide) (by decide) (by decide +kernel) _ HT11.out).mono ?_
  rintro e w12 ⟨rfl, G12, ha⟩
  have HA12 := Lib.hid (HA11.out.trans ha)
  have HT12 := Lib.hid (HT0.out.adv HA12.out id)
  clear ha HA11 HT11
  go_wp2_with fail
  refine (named_op G12 33 ⟨#[49, 45]⟩ (by decide) (by decide) (by decide +kernel) _ HT12.out).mono ?_
  rintro e w13 ⟨rfl, G13, ha⟩
  have HA13 := Lib.hid (HA12.out.trans ha)
  have HT13 := Lib.hid (HT0.out.adv HA13.out id)
  clear ha HA12 HT12
  go_wp2_with fail
  refine (named_op G13 39 ⟨#[105, 110, 118, 101, 114, 116]⟩ (by decide) (by decide) (by decide +kernel) _ HT13.out).mono ?_
  rintro e w14 ⟨rfl, G14, ha⟩
  have HA14 := Lib.hid (HA13.out.trans ha)
  have HT14 := Lib.hid (HT0.out.adv HA14.out id)
  clear ha HA13 HT13
  go_wp2_with fail
  refine (named_op G14 41 ⟨#[114, 115, 104, 105, 102, 116]⟩ (by decide) (by decide) (by decide +kernel) _ HT14.out).mono ?_
  rintro e w15 ⟨rfl, G15, ha⟩
  have HA15 := Lib.hid (HA14.out.trans ha)
  have HT15 := Lib.hid (HT0.out.adv HA15.out id)
  clear ha HA14 HT14
  go_wp2_with fail
  refine (named_op G15 47 ⟨#[117, 62]⟩ (by decide) (by decide) (by decide +kernel) _ HT15.out).mono ?_
  rintro e w16 ⟨rfl, G16, ha⟩
  have HA16 := Lib.hid (HA15.out.trans ha)
  have HT16 := Lib.hid (HT0.out.adv HA16.out id)
  clear ha HA15 HT15
  go_wp2_with fail
  refine (named_op G16 49 ⟨#[48, 60]⟩ (by decide) (by decide) (by decide +kernel) _ HT16.out).mono ?_
  rintro e w17 ⟨rfl, G17, ha⟩
  have HA17 := Lib.hid (HA16.out.trans ha)
  have HT17 := Lib.hid (HT0.out.adv HA17.out id)
  clear ha HA16 HT16
  go_wp2_with fail
  refine (named_op G17 50 ⟨#[64]⟩ (by decide) (by decide) (by decide +kernel) _ HT17.out).mono ?_
  rintro e w18 ⟨rfl, G18, ha⟩
  have HA18 := Lib.hid (HA17.out.trans ha)
  have HT18 := Lib.hid (HT0.out.adv HA18.out id)
  clear ha HA17 HT17
  go_wp2_with fail
  refine (named_op G18 54 ⟨#[43, 33]⟩ (by decide) (by decide) (by decide +kernel) _ HT18.out).mono ?_
  rintro e w19 ⟨rfl, G19, ha⟩
  have HA19 := Lib.hid (HA18.out.trans ha)
  have HT19 := Lib.hid (HT0.out.adv HA19.out id)
  clear ha HA18 HT18
  go_wp2_with fail
  refine (named_op G19 55 ⟨#[62, 114]⟩ (by decide) (by decide) (by decide +kernel) _ HT19.out).mono ?_
  rintro e w20 ⟨rfl, G20, ha⟩
  have HA20 := Lib.hid (HA19.out.trans ha)
  have HT20 := Lib.hid (HT0.out.adv HA20.out id)
  clear ha HA19 HT19
  go_wp2_with fail
  refine (named_op G20 59 ⟨#[106]⟩ (by decide) (by decide) (by decide +kernel) _ HT20.out).mono ?_
  rintro e w21 ⟨rfl, G21, ha⟩
  have HA21 := Lib.hid (HA20.out.trans ha)
  have HT21 := Lib.hid (HT0.out.adv HA21.out id)
  clear ha HA20 HT20
  go_wp2_with fail
  refine (named_op G21 60 ⟨#[112, 108, 111, 116]⟩ (by decide) (by decide) (by decide +kernel) _ HT21.out).mono ?_
  rintro e w22 ⟨rfl, G22, ha⟩
  have HA22 := Lib.hid (HA21.out.trans ha)
  have HT22 := Lib.hid (HT0.out.adv HA22.out id)
  clear ha HA21 HT21
  go_wp2_with fail
  refine (named_op G22 63 ⟨#[98, 97, 110, 107]⟩ (by decide) (by decide) (by decide +kernel) _ HT22.out).mono ?_
  rintro e w23 ⟨rfl, G23, ha⟩
  have HA23 := Lib.hid (HA22.out.trans ha)
  have HT23 := Lib.hid (HT0.out.adv HA23.out id)
  clear ha HA22 HT22
  have HX := Lib.hid (Reads.new w23 (cellsU [10, 0]) 41)
  have HAx := Lib.hid (HA23.out.alloc (.cells (cellsU [10, 0]).toArray 41) 0)
  go_wp2_with fail
  refine (born0 (own1 w23 G23 0) _ 2 2 [10, 0] _ rfl (by decide) HX.out (by decide) (by decide)).mono ?_
  rintro e wb ⟨K, D, R, M, Gb, rfl, hab, ⟨x, y, z, hk, hgk⟩, hpb, hrb, -⟩
  have HAb := Lib.hid (HAx.out.trans hab)
  have HTd := Lib.hid (HT0.out.adv (HAx.out.trans hab).drew id)
  have HPd := Lib.hid hpb.drew
  have HRd := Lib.hid hrb.drew
  have hkk : ∀ (S : Nat → Prop) (w' : World) (G' : Nat → Nat), ¬ S 0 → Adv S wb Gb w' G' → w'.cell? ⟨K, 0, none⟩ = some (.pointer (some ⟨D, 0, none⟩)) ∧ w'.cell? ⟨K, 1, none⟩ = some (.pointer (some ⟨R, 0, none⟩)) ∧ w'.cell? ⟨K, 2, none⟩ = some (.pointer (some ⟨M, 0, none⟩)) := fun S w' G' hs h =>
    ⟨h.cell_some (p := ⟨K, 0, none⟩) (block_cell hk 0 _ rfl) (by show ¬ S (Gb K); rw [hgk]; exact hs), h.cell_some (p := ⟨K, 1, none⟩) (block_cell hk 1 _ rfl) (by show ¬ S (Gb K); rw [hgk]; exact hs), h.cell_some (p := ⟨K, 2, none⟩) (block_cell hk 2 _ rfl) (by show ¬ S (Gb K); rw [hgk]; exact hs)⟩
  have HKK := Lib.hid hkk
  clear hab hk hgk hpb hrb hkk HX HAx
  obtain ⟨cD, cR, cM⟩ := HKK.out (fun _ => False) _ _ id (Adv.refl _ wb Gb)
  go_upto_region 7 with fail
  go_region_held3 (fun w' => w'.cell? ⟨K, 0, none⟩ = some (.pointer (some ⟨D, 0, none⟩)) ∧ w'.cell? ⟨K, 1, none⟩ = some (.pointer (some ⟨R, 0, none⟩)) ∧ w'.cell? ⟨K, 2, none⟩ = some (.pointer (some ⟨M, 0, none⟩))) (first | exact ⟨cD, cR, cM⟩ | exact HKK.out _ _ _ (by decide) HA7.out)
    ((go_at_call 21; refine (do_do Gb 1 2 D R M [] 10 0 [] (by decide) (by decide) (by decide) (by decide) (by decide) (by decide) _ HTd.out HPd.out HRd.out).mono ?_; rintro e w7 ⟨rfl, G7, ha7, hp7, hr7⟩; have HA7 := Lib.hid (((Adv.refl (fun o => o = 1 ∨ o = 2) wb Gb).drew).trans ha7); have HP7 := Lib.hid hp7; have HR7 := Lib.hid hr7; clear ha7 hp7 hr7))
  have HT7 := Lib.hid ((HT0.out.adv ((HAb.out.mono fun _ h => h.elim).trans HA7.out) (by decide)))
  have HTe := Lib.hid (HT7.out.adv ((Adv.refl (fun _ => False) w7 G7).drew) id)
  have HPe := Lib.hid HP7.out.drew
  have HRe := Lib.hid HR7.out.drew
  clear cD cR cM
  obtain ⟨cD, cR, cM⟩ := HKK.out _ _ _ (by decide) HA7.out
  go_upto_region 8 with fail
  go_region_held3 (fun w' => w'.cell? ⟨K, 0, none⟩ = some (.pointer (some ⟨D, 0, none⟩)) ∧ w'.cell? ⟨K, 1, none⟩ = some (.pointer (some ⟨R, 0, none⟩)) ∧ w'.cell? ⟨K, 2, none⟩ = some (.pointer (some ⟨M, 0, none⟩))) (first | exact ⟨cD, cR, cM⟩ | exact HKK.out _ _ _ (by decide) HA8.out)
    ((go_at_call 21; refine (do_index G7 1 2 D R M [] [(2, 10), (3, 0)] (by decide) (by decide) (by decide) (by decide) (by decide) (by decide) _ HTe.out HPe.out HRe.out).mono ?_; rintro e w8 ⟨rfl, G8, ha8, hp8⟩; have HA8 := Lib.hid (HA7.out.trans (((Adv.refl (fun o => o = 1 ∨ o = 2) w7 G7).drew).trans (ha8.mono fun _ h => .inl h))); have HP8 := Lib.hid hp8; have HR8 := Lib.hid (HRe.out.adv ha8 (by decide)); clear ha8 hp8))
  have HT8 := Lib.hid ((HT0.out.adv ((HAb.out.mono fun _ h => h.elim).trans HA8.out) (by decide)))
  have HTf := Lib.hid (HT8.out.adv ((Adv.refl (fun _ => False) w8 G8).drew) id)
  have HPf := Lib.hid (show PU w8.drew G8 1 D [0] from HP8.out.drew)
  have HRf := Lib.hid HR8.out.drew
  clear cD cR cM
  obtain ⟨cD, cR, cM⟩ := HKK.out _ _ _ (by decide) HA8.out
  go_upto_region 9 with fail
  go_region_held3 (fun w' => w'.cell? ⟨K, 0, none⟩ = some (.pointer (some ⟨D, 0, none⟩)) ∧ w'.cell? ⟨K, 1, none⟩ = some (.pointer (some ⟨R, 0, none⟩)) ∧ w'.cell? ⟨K, 2, none⟩ = some (.pointer (some ⟨M, 0, none⟩))) (first | exact ⟨cD, cR, cM⟩ | exact HKK.out _ _ _ (by decide) HA9.out)
    ((go_at_call 21; refine (do_looks G8 59 (by decide) (by decide) 116 (fun _ _ c => c = #[]) (fun G w => (does_59 w).mono fun e w' h => ⟨#[], G, h.1, by rw [← h.2]; exact Adv.refl _ _ _, rfl⟩) (fun _ _ _ _ _ _ h _ _ => h) 1 2 D R ⟨M, 0, none⟩ [0] [(2, 10), (3, 0)] (by decide) (by decide) (by decide) (by decide) _ HTf.out HPf.out HRf.out).mono ?_; rintro e w9 ⟨rfl, G9, ha9⟩; rw [show looksF ((59 : Nat) : Int) [(2, 10), (3, 0)] = 3 from by decide]; have HA9 := Lib.hid (HA8.out.trans (((Adv.refl (fun o => o = 1 ∨ o = 2) w8 G8).drew).trans (ha9.mono fun _ h => h.elim))); have HP9 := Lib.hid (HPf.out.adv ha9 id); have HR9 := Lib.hid (HRf.out.adv ha9 id); clear ha9))
  clear cD cR cM
  obtain ⟨cD, cR, cM⟩ := HKK.out _ _ _ (by decide) HA9.out
  go_wp2_with fail
  refine (cellsPR G9 2 R [(2, 10), (3, 0)] _ HR9.out (by simp) (by simp)).mono ?_
  rintro e w10 ⟨rfl, h10⟩
  have hr10 := Reads.new w9 (cellsR [(2, 10), (3, 0)]) 59
  have hp10 := HP9.out.alloc (.cells (cellsR [(2, 10), (3, 0)]).toArray 59) 0
  have ha10 := HA9.out.alloc (.cells (cellsR [(2, 10), (3, 0)]).toArray 59) 0
  have hg10 : own1 w9 G9 0 w9.heap.size = 0 := by simp [own1]
  rw [← h10] at hr10 hp10 ha10
  obtain ⟨G10, hG10⟩ : ∃ g, g = own1 w9 G9 0 := ⟨_, rfl⟩
  obtain ⟨B, hB⟩ : ∃ b, b = w9.heap.size := ⟨_, rfl⟩
  rw [← hG10] at hp10 ha10 hg10
  rw [← hB] at hr10 hg10 ⊢
  rw [show ([(2, 10), (3, 0)] : List (Int × Int)).length = 2 from rfl]
  have HR10 := Lib.hid (And.intro hr10 hg10)
  have HP10 := Lib.hid hp10
  have HA10 := Lib.hid ha10
  clear hr10 hp10 ha10 hG10 hB hg10 h10 cD cR cM
  obtain ⟨cD, cR, cM⟩ := HKK.out _ _ _ (by decide) HA10.out
  go_wp2_with fail
  refine (lenPU G10 1 D [0] _ HP10.out).mono ?_
  rintro e w' ⟨rfl, rfl⟩
  go_wp2_with fail
  refine (popPU G10 1 D [] 0 _ HP10.out).mono ?_
  rintro e w11 ⟨rfl, ha11, hp11⟩
  have HA11 := Lib.hid (HA10.out.trans (ha11.mono fun _ h => .inl h))
  have HR11 := Lib.hid ((HR10.out.1.adv ha11 (fun ad e => by cases e; show ¬ (G10 B = 1); rw [HR10.out.2]; decide)).alloc (.cells (cellsR [(2, 10), (3, 0)]).toArray 59))
  clear ha11 hp11
  go_wp2_with fail
  refine (sameR_any _ _ 2 2 2 2 [(2, 10), (3, 0)] [(2, 10), (3, 0)] _ rfl rfl (by decide) (by decide) HR11.out (Reads.new w11 (cellsR [(2, 10), (3, 0)]) 59)).mono ?_
  rintro e wd ⟨rfl, q, rfl⟩
  rw [show decide ([((2 : Int), (10 : Int)), (3, 0)] = [(2, 10), (3, 0)]) = true from by decide]
  have HF := Lib.hid ((HA11.out.alloc (.cells (cellsR [(2, 10), (3, 0)]).toArray 59) 0).drewN q)
  obtain ⟨wf, hwf⟩ : ∃ wf, wf = (w11.alloc (.cells (cellsR [(2, 10), (3, 0)]).toArray 59)).drewN q := ⟨_, rfl⟩
  rw [← hwf]
  have hF := HF.out
  rw [← hwf] at hF
  have HFF := Lib.hid hF
  clear hF HF hwf
  go_wp2_with fail
  go_ret
  exact ⟨rfl, _, joined_adv (S := fun o => o = 1 ∨ o = 2) (G := G) ((HAb.out.mono fun _ h => h.elim).trans HFF.out) (by decide)⟩
end Go.Proofs.YtdnalhjdmlkbmaaDoor
