/- The statements' own closed check: it answers true. -/
import Derived.Test.YtdnalhjdmlkbmaaDoorBorn0
import Derived.Test.YtdnalhjdmlkbmaaDoorDoes
import Derived.Test.YtdnalhjdmlkbmaaDoorDo
import Derived.Test.YtdnalhjdmlkbmaaDoorSame
import Derived.Test.YtdnalhjdmlkbmaaDoorSames
namespace Go.Proofs.YtdnalhjdmlkbmaaDoor
open Go.RowKit

/-- What does hands back, for a shuffle. -/
theorem shuf_is (k n : Nat) (ps : List Nat) (h : ∀ (G : Nat → Nat) (w : World), Calls Tryd.prog 79 #[.int .i64 k] w fun e w' => ∃ c G', e = .returned (.func (.func 104) #[] c) ∧ Adv (fun _ => False) w G w' G' ∧ ShufCl n ps w' G' c) : DoesIs k 104 (ShufCl n ps) := h
theorem shuf_keeps (n : Nat) (ps : List Nat) : Keeps (ShufCl n ps) := fun _ _ _ _ _ _ h ha hs => h.adv ha hs
/-- Do of a shuffle, where there is room. -/
theorem do_shuffle (G : Nat → Nat) (k : Nat) (hk : k < 64) (hpl : plainB k = true) (n : Nat) (ps : List Nat) (hd : DoesIs k 104 (ShufCl n ps)) (hps : ∀ p ∈ ps, p < n) (h0 : 0 < n) (h4 : n ≤ 100)
    (i j D R : Nat) (M : Addr) (base t : List Int) (rl : List (Int × Int)) (hn : t.length = n) (hi : i ≠ 0) (hj : j ≠ 0) (hl : (base ++ t).length ≤ 256) (hroom : base.length + ps.length ≤ 256) (hrl : rl.length ≤ 128)
    (hneed : needF (base ++ t).length (takesN k) (leavesN k) = 0) (hlooks : looksF k rl = 0) (hadds : (rl.length : Int) + addsF k ≤ 128) (w : World) (ht : Tabs w G) (hp : PU w G i D (base ++ t)) (hr : PR w G j R rl) :
    Calls Tryd.prog 21 #[.int .i64 k, .pointer (some ⟨D, 0, none⟩), .pointer (some ⟨R, 0, none⟩), .pointer (some M)] w fun e w' => e = .returned (.int .i64 0) ∧ ∃ G', Adv (fun o => o = i) w G w' G' ∧ PU w' G' i D (base ++ picks t ps) := by
  refine do_ok G k hk hpl 104 (enters_of Tryd.func104 (by kernel_rfl) rfl) (ShufCl n ps) hd (shuf_keeps n ps) i j D R M (base ++ t) rl hi hj (fun o => o = i) (fun w' G' => PU w' G' i D (base ++ picks t ps)) hl hrl hneed hlooks hadds w ht hp hr ?_
  intro w1 G1 K c ha hc hk1
  obtain ⟨B1, B2, la, lc, hcs, hB1, hG1, hB2, hG2, hla, hGl⟩ := hc
  subst hcs
  exact shuffle_any G1 i D K R (some M) base t n hn h0 h4 ps hps hroom hi B1 B2 la lc w1 (hp.adv ha id) hk1 hB1 hG1 hB2 hG2 hla hGl
theorem prim24 : primV (24 : Nat) = .agg #[.int .i64 24, .string ⟨#[47]⟩, .int .i64 2, .int .i64 1, .int .i64 4, .bool false] := by kernel_rfl
theorem prim19 : primV (19 : Nat) = .agg #[.int .i64 19, .string ⟨#[50, 100, 117, 112]⟩, .int .i64 2, .int .i64 4, .int .i64 2, .bool false] := by kernel_rfl
theorem nmd_2dup : nmd ⟨#[50, 100, 117, 112]⟩ = some 19 := by kernel_rfl
theorem do_rot (G : Nat → Nat) (i j D R M : Nat) (hi : i ≠ 0) (hj : j ≠ 0) (w : World) (ht : Tabs w G) (hp : PU w G i D [1, 2, 3]) (hr : PR w G j R []) :
    Calls Tryd.prog 21 #[.int .i64 16, .pointer (some ⟨D, 0, none⟩), .pointer (some ⟨R, 0, none⟩), .pointer (some ⟨M, 0, none⟩)] w fun e w' => e = .returned (.int .i64 0) ∧ ∃ G', Adv (fun o => o = i) w G w' G' ∧ PU w' G' i D [2, 3, 1] :=
  do_shuffle G 16 (by decide) (by decide) 3 [1, 2, 0] (shuf_is 16 3 [1, 2, 0] does_16) (by decide) (by decide) (by decide) i j D R ⟨M, 0, none⟩ [] [1, 2, 3] [] rfl hi hj (by decide) (by decide) (by decide) (by decide) (by decide) (by decide) w ht hp hr
set_option maxRecDepth 100000 in
set_option maxHeartbeats 1000000 in
theorem fixed_any (G : Nat → Nat) (w : World) (ht : Tabs w (fun _ => 0)) : Calls Tryd.prog 10 #[] w fun e w' => e = .returned (.bool true) ∧ ∃ G', Adv (fun _ => False) w G w' G' := by
  have HT := Lib.hid ht
  clear ht
  go_enter Tryd.func10, Tryd.ntmps10
  go_wp2_with fail
  refine (of_in (fun _ => 0) 24 (by decide) (by decide) _ HT.out).mono ?_
  rintro e w1 ⟨rfl, G1, ha1⟩
  rw [prim24]
  have HA1 := Lib.hid (ha1.alloc (.cells #[.int .i64 24, .string ⟨#[47]⟩, .int .i64 2, .int .i64 1, .int .i64 4, .bool false] 25) 0)
  have HB1 := Lib.hid (And.intro (heap_alloc_new w1 (.cells #[.int .i64 24, .string ⟨#[47]⟩, .int .i64 2, .int .i64 1, .int .i64 4, .bool false] 25)) (And.intro (show w1.heap.size < (w1.alloc (.cells #[.int .i64 24, .string ⟨#[47]⟩, .int .i64 2, .int .i64 1, .int .i64 4, .bool false] 25)).heap.size from by simp) (show own1 w1 G1 0 w1.heap.size = 0 from by simp [own1])))
  clear ha1
  go_wp2_with fail
  refine (of_out (own1 w1 G1 0) 64 (.inr (by decide)) _).mono ?_
  rintro e w2 ⟨rfl, G2, ha2⟩
  have HA2 := Lib.hid ((HA1.out.trans ha2).alloc (.cells #[.int .i64 0, .string ⟨#[]⟩, .int .i64 0, .int .i64 0, .int .i64 0, .bool false] 25) 0)
  have HK2 := Lib.hid (ha2.alloc (.cells #[.int .i64 0, .string ⟨#[]⟩, .int .i64 0, .int .i64 0, .int .i64 0, .bool false] 25) 0)
  have HT2 := Lib.hid (HT.out.adv HA2.out id)
  clear ha2
  unfold primV0
  go_wp2_with fail
  refine (named_any (own1 w2 G2 0) ⟨#[50, 100, 117, 112]⟩ _ HT2.out).mono ?_
  rintro e w3 ⟨rfl, G3, ha3⟩
  rw [nmd_2dup]
  simp only [nmdV, prim19, Option.isSome_some]
  have HA3 := Lib.hid ((HA2.out.trans ha3).alloc (.cells #[.int .i64 19, .string ⟨#[50, 100, 117, 112]⟩, .int .i64 2, .int .i64 4, .int .i64 2, .bool false] 25) 0 |>.alloc (.cells #[.int .u16 1, .int .u16 2, .int .u16 3] 41) 0)
  have HK3 := Lib.hid ((HK2.out.trans ha3).alloc (.cells #[.int .i64 19, .string ⟨#[50, 100, 117, 112]⟩, .int .i64 2, .int .i64 4, .int .i64 2, .bool false] 25) 0 |>.alloc (.cells #[.int .u16 1, .int .u16 2, .int .u16 3] 41) 0)
  have HX3 := Lib.hid (Reads.new (w3.alloc (.cells #[.int .i64 19, .string ⟨#[50, 100, 117, 112]⟩, .int .i64 2, .int .i64 4, .int .i64 2, .bool false] 25)) (cellsU [1, 2, 3]) 41)
  have hx3 := HX3.out
  rw [show (w3.alloc (.cells #[.int .i64 19, .string ⟨#[50, 100, 117, 112]⟩, .int .i64 2, .int .i64 4, .int .i64 2, .bool false] 25)).heap.size = w3.heap.size + 1 from by simp] at hx3
  have HY3 := Lib.hid hx3
  have hb3 : ((w3.alloc (.cells #[.int .i64 19, .string ⟨#[50, 100, 117, 112]⟩, .int .i64 2, .int .i64 4, .int .i64 2, .bool false] 25)).alloc (.cells #[.int .u16 1, .int .u16 2, .int .u16 3] 41)).heap[w3.heap.size]? = some (.cells #[.int .i64 19, .string ⟨#[50, 100, 117, 112]⟩, .int .i64 2, .int .i64 4, .int .i64 2, .bool false] 25 (0, 0)) := (heap_past _ _ _ (by simp)).trans (heap_alloc_new w3 _)
  have HB3 := Lib.hid (And.intro hb3 (And.intro (show w3.heap.size < ((w3.alloc (.cells #[.int .i64 19, .string ⟨#[50, 100, 117, 112]⟩, .int .i64 2, .int .i64 4, .int .i64 2, .bool false] 25)).alloc (.cells #[.int .u16 1, .int .u16 2, .int .u16 3] 41)).heap.size from by simp; omega) (show own1 (w3.alloc (.cells #[.int .i64 19, .string ⟨#[50, 100, 117, 112]⟩, .int .i64 2, .int .i64 4, .int .i64 2, .bool false] 25)) (own1 w3 G3 0) 0 w3.heap.size = 0 from by simp [own1])))
  clear ha3 hx3 hb3 HX3
  go_wp2_with fail
  refine (born0 (own1 (w3.alloc (.cells #[.int .i64 19, .string ⟨#[50, 100, 117, 112]⟩, .int .i64 2, .int .i64 4, .int .i64 2, .bool false] 25)) (own1 w3 G3 0) 0) _ 3 3 [1, 2, 3] _ rfl (by decide) HY3.out (by decide) (by decide)).mono ?_
  rintro e w4 ⟨K, D, R, M, G4, rfl, ha4, ⟨x, y, z, hk, hgk⟩, hp4, hr4, -⟩
  have HA4 := Lib.hid (HA3.out.trans ha4)
  have HP4 := Lib.hid hp4
  have HR4 := Lib.hid hr4
  have hc1 := ((HK3.out.trans ha4).keep _ HB1.out.2.1 id).trans HB1.out.1
  have hc3 := (ha4.keep _ HB3.out.2.1 id).trans HB3.out.1
  have hg1 : G4 w1.heap.size = 0 := ((HK3.out.trans ha4).own _ HB1.out.2.1).trans HB1.out.2.2
  have hg3 : G4 w3.heap.size = 0 := (ha4.own _ HB3.out.2.1).trans HB3.out.2.2
  have HC4 := Lib.hid (And.intro hc1 (And.intro hc3 (And.intro hg1 hg3)))
  have HT4 := Lib.hid (HT.out.adv HA4.out id)
  have cD := block_cell hk 0 _ rfl
  have cR := block_cell hk 1 _ rfl
  have cM := block_cell hk 2 _ rfl
  have HW4 := Lib.hid (And.intro hk hgk)
  clear ha4 hk hgk hc1 hc3 hg1 hg3
  have HTd := Lib.hid (HT4.out.adv ((Adv.refl (fun _ => False) w4 G4).drew) id)
  have HPd := Lib.hid hp4.drew
  have HRd := Lib.hid hr4.drew
  clear hp4 hr4
  go_upto_region 7 with fail
  go_region_held3 (fun w' => w'.cell? ⟨K, 0, none⟩ = some (.pointer (some ⟨D, 0, none⟩)) ∧ w'.cell? ⟨K, 1, none⟩ = some (.pointer (some ⟨R, 0, none⟩)) ∧ w'.cell? ⟨K, 2, none⟩ = some (.pointer (some ⟨M, 0, none⟩))) (first | exact ⟨cD, cR, cM⟩ | exact KD5.out)
    ((go_at_call 21; refine (do_rot G4 1 2 D R M (by decide) (by decide) _ HTd.out HPd.out HRd.out).mono ?_; rintro e w5 ⟨rfl, G5, ha5, hp5⟩; have HA5 := Lib.hid ha5; have HP5 := Lib.hid hp5; have KD5 := Lib.hid (And.intro (ha5.cell_some (p := ⟨K, 0, none⟩) cD (by show ¬ (G4 K = 1); rw [HW4.out.2]; decide)) (And.intro (ha5.cell_some (p := ⟨K, 1, none⟩) cR (by show ¬ (G4 K = 1); rw [HW4.out.2]; decide)) (ha5.cell_some (p := ⟨K, 2, none⟩) cM (by show ¬ (G4 K = 1); rw [HW4.out.2]; decide)))); clear ha5 hp5))
  obtain ⟨cD5, -, -⟩ := KD5.out
  have hc1 := (HA5.out.keep (b := w1.heap.size) ?lt1 (by show ¬ (G4 _ = 1); rw [HC4.out.2.2.1]; decide)).trans (show w4.drew.heap[w1.heap.size]? = _ from HC4.out.1)
  have hc3 := (HA5.out.keep (b := w3.heap.size) ?lt3 (by show ¬ (G4 _ = 1); rw [HC4.out.2.2.2]; decide)).trans (show w4.drew.heap[w3.heap.size]? = _ from HC4.out.2.1)
  case lt1 => exact (Array.getElem?_eq_some_iff.1 HC4.out.1).1
  case lt3 => exact (Array.getElem?_eq_some_iff.1 HC4.out.2.1).1
  have HC5 := Lib.hid (And.intro hc1 hc3)
  clear hc1 hc3
  go_wp2_with fail
  refine (cellsPU G5 1 D [2, 3, 1] _ HP5.out (by simp) (by simp)).mono ?_
  rintro e w6 ⟨rfl, h6⟩
  have d1 := (heap_past w5 (.cells (cellsU [2, 3, 1]).toArray 41) _ (Array.getElem?_eq_some_iff.1 HC5.out.1).1).trans HC5.out.1
  have d3 := (heap_past w5 (.cells (cellsU [2, 3, 1]).toArray 41) _ (Array.getElem?_eq_some_iff.1 HC5.out.2).1).trans HC5.out.2
  have hr6 := Reads.new w5 (cellsU [2, 3, 1]) 41
  have ha6 := HA5.out.alloc (.cells (cellsU [2, 3, 1]).toArray 41) 0
  rw [← h6] at d1 d3 hr6 ha6
  obtain ⟨B6, hB6⟩ : ∃ b, b = w5.heap.size := ⟨_, rfl⟩
  rw [← hB6] at hr6 ⊢
  obtain ⟨G6, hG6⟩ : ∃ g, g = own1 w5 G5 0 := ⟨_, rfl⟩
  rw [← hG6] at ha6
  clear h6 hB6 hG6
  have HR6 := Lib.hid hr6
  have HA6 := Lib.hid ha6
  have hk6 : ∀ (w' : World) (G' : Nat → Nat), Adv (fun _ => False) w6 G6 w' G' → w'.heap[w1.heap.size]? = _ ∧ w'.heap[w3.heap.size]? = _ := fun w' G' h =>
    ⟨(h.keep _ (Array.getElem?_eq_some_iff.1 d1).1 id).trans d1, (h.keep _ (Array.getElem?_eq_some_iff.1 d3).1 id).trans d3⟩
  have hK6 : ∀ (w' : World) (G' : Nat → Nat), Adv (fun _ => False) w6 G6 w' G' →
      (w'.cell? ⟨w1.heap.size, 0, none⟩ = some (.int .i64 24) ∧ w'.cell? ⟨w1.heap.size, 1, none⟩ = some (.string ⟨#[47]⟩) ∧ w'.cell? ⟨w1.heap.size, 2, none⟩ = some (.int .i64 2) ∧ w'.cell? ⟨w1.heap.size, 3, none⟩ = some (.int .i64 1) ∧ w'.cell? ⟨w1.heap.size, 4, none⟩ = some (.int .i64 4) ∧ w'.cell? ⟨w1.heap.size, 5, none⟩ = some (.bool false)) ∧
      (w'.cell? ⟨w3.heap.size, 0, none⟩ = some (.int .i64 19) ∧ w'.cell? ⟨w3.heap.size, 1, none⟩ = some (.string ⟨#[50, 100, 117, 112]⟩) ∧ w'.cell? ⟨w3.heap.size, 2, none⟩ = some (.int .i64 2) ∧ w'.cell? ⟨w3.heap.size, 3, none⟩ = some (.int .i64 4) ∧ w'.cell? ⟨w3.heap.size, 4, none⟩ = some (.int .i64 2) ∧ w'.cell? ⟨w3.heap.size, 5, none⟩ = some (.bool false)) := fun w' G' h =>
    have a := (hk6 w' G' h).1
    have b := (hk6 w' G' h).2
    ⟨⟨block_cell a 0 _ rfl, block_cell a 1 _ rfl, block_cell a 2 _ rfl, block_cell a 3 _ rfl, block_cell a 4 _ rfl, block_cell a 5 _ rfl⟩, ⟨block_cell b 0 _ rfl, block_cell b 1 _ rfl, block_cell b 2 _ rfl, block_cell b 3 _ rfl, block_cell b 4 _ rfl, block_cell b 5 _ rfl⟩⟩
  have HK6 := Lib.hid hK6
  clear d1 d3 hr6 ha6 hk6 hK6
  rw [show ([2, 3, 1] : List Int).length = 3 from rfl]
  obtain ⟨⟨e0, e1, e2, e3, e4, e5⟩, ⟨f0, f1, f2, f3, f4, f5⟩⟩ := HK6.out _ _ (Adv.refl _ w6 G6)
  go_wp2_with fail
  refine (same_any G6 _ _ _ _ _ _ _).mono ?_
  rintro e ws1 ⟨rfl, Gs1, has1⟩
  have HS1 := Lib.hid has1
  clear has1 e0 e1 e2 e3 e4 e5 f0 f1 f2 f3 f4 f5
  obtain ⟨⟨g0, g1, g2, g3, g4, g5⟩, ⟨k0, k1, k2, k3, k4, k5⟩⟩ := HK6.out _ _ HS1.out
  go_wp2_with fail
  refine (same_any Gs1 _ _ _ _ _ _ _).mono ?_
  rintro e ws2 ⟨rfl, Gs2, has2⟩
  have HS2 := Lib.hid (HS1.out.trans has2)
  clear has2 g0 g1 g2 g3 g4 g5 k0 k1 k2 k3 k4 k5
  go_wp2_with fail
  refine (sameU_any _ _ 3 3 3 3 [2, 3, 1] [2, 3, 1] _ rfl rfl (by decide) (by decide) ((HR6.out.adv HS2.out (fun _ _ => id)).alloc _) (Reads.new ws2 (cellsU [2, 3, 1]) 41)).mono ?_
  rintro e wd ⟨rfl, q, rfl⟩
  rw [show decide ([(2 : Int), 3, 1] = [2, 3, 1]) = true from by decide]
  have HF := Lib.hid ((HA6.out.trans (HS2.out.mono (T := fun o => o = 1) fun _ h => h.elim)).alloc (.cells #[.int .u16 2, .int .u16 3, .int .u16 1] 41) 0 |>.drewN q)
  obtain ⟨wf, hwf⟩ : ∃ wf, wf = (ws2.alloc (.cells (cellsU [2, 3, 1]).toArray 41)).drewN q := ⟨_, rfl⟩
  rw [← hwf]
  have hF := HF.out
  rw [show (ws2.alloc (.cells #[.int .u16 2, .int .u16 3, .int .u16 1] 41)).drewN q = wf from hwf.symm] at hF
  have HFF := Lib.hid hF
  clear hF HF hwf HR6 HS2 HS1 HK6 HA6
  go_wp2_with fail
  refine (plain_any 16 _).mono ?_
  rintro e wd ⟨rfl, rfl⟩
  rw [show plainB 16 = true from by decide]
  go_wp2_with fail
  refine (plain_any 3 _).mono ?_
  rintro e wd ⟨rfl, rfl⟩
  rw [show plainB 3 = false from by decide]
  go_wp2_with fail
  go_ret
  exact ⟨rfl, _, joined_adv (S := fun o => o = 1) (G := G) (((HA4.out.drew).mono fun _ h => h.elim).trans HFF.out) (by decide)⟩
end Go.Proofs.YtdnalhjdmlkbmaaDoor
