/- PrimTable's walk. -/
import Derived.Test.YtdnalhjdmlkbmaaDoorFixed
import Derived.Test.YtdnalhjdmlkbmaaDoorOf
namespace Go.Proofs.YtdnalhjdmlkbmaaDoor
open Go.RowKit

/-- A number's row, whatever the number. -/
def inB (y : Int) : Bool := decide (1 ≤ y) && decide (y < 64)
def rA (y : Int) : Int := if inB y then y else 0
def rS (y : Int) : ByteArray := if inB y then nameB y.toNat else ⟨#[]⟩
def rB (y : Int) : Int := if inB y then takesN y.toNat else 0
def rC (y : Int) : Int := if inB y then leavesN y.toNat else 0
def rD (y : Int) : Int := if inB y then costsN y.toNat else 0
def rO (y : Int) : Bool := if inB y then operandB y.toNat else false
def rE (y : Int) : Int := if inB y then 0 else 60
def rV (y : Int) : Value := .agg #[.int .i64 (rA y), .string (rS y), .int .i64 (rB y), .int .i64 (rC y), .int .i64 (rD y), .bool (rO y)]
theorem rV_in (k : Nat) (h1 : 1 ≤ k) (h2 : k < 64) : rV (k : Int) = primV k ∧ rE (k : Int) = 0 := by
  have h : inB (k : Int) = true := by simp [inB]; omega
  constructor
  · simp [rV, rA, rS, rB, rC, rD, rO, h, primV]
  · simp [rE, h]
theorem rV_out (y : Int) (h : y < 1 ∨ 64 ≤ y) : rV y = primV0 ∧ rE y = 60 := by
  have h : inB y = false := by unfold inB; rw [Bool.and_eq_false_iff]; simp only [decide_eq_false_iff_not]; omega
  constructor
  · simp [rV, rA, rS, rB, rC, rD, rO, h, primV0]
  · simp [rE, h]
theorem of_any (G : Nat → Nat) (y : Int) (w : World) (ht : Tabs w G) : Calls Tryd.prog 11 #[.int .i64 y] w fun e w' => e = .returned (.tuple #[rV y, .int .i64 (rE y)]) ∧ ∃ G', Adv (fun _ => False) w G w' G' := by
  by_cases h : y < 1 ∨ 64 ≤ y
  · rw [(rV_out y h).1, (rV_out y h).2]; exact of_out G y h w
  · obtain ⟨k, rfl⟩ := Int.eq_ofNat_of_zero_le (show 0 ≤ y by omega)
    rw [(rV_in k (by omega) (by omega)).1, (rV_in k (by omega) (by omega)).2]; exact of_in G k (by omega) (by omega) w ht
theorem refOf_any (G : Nat → Nat) (y : Int) (w : World) : Calls Tryd.prog 12 #[.int .i64 y] w fun e w' => e = .returned (.tuple #[rV y, .int .i64 (rE y)]) ∧ ∃ G', Adv (fun _ => False) w G w' G' := by
  by_cases h : y < 1 ∨ 64 ≤ y
  · rw [(rV_out y h).1, (rV_out y h).2]; exact refOf_out G y h w
  · obtain ⟨k, rfl⟩ := Int.eq_ofNat_of_zero_le (show 0 ≤ y by omega)
    rw [(rV_in k (by omega) (by omega)).1, (rV_in k (by omega) (by omega)).2]; exact refOf_in G k (by omega) (by omega) w
set_option maxRecDepth 1000000 in
theorem nmd_table : ∀ k, k < 64 → nmd (nameB k) = if (nameB k).toList.isEmpty then none else some k := by decide +kernel
/-- The row that a row's name has. -/
theorem nmd_rS (y : Int) : ((rS y).toList.isEmpty = true ∧ nmd (rS y) = none) ∨ ((rS y).toList.isEmpty = false ∧ ∃ k, nmd (rS y) = some k ∧ primV k = rV y) := by
  by_cases h : y < 1 ∨ 64 ≤ y
  · have h : inB y = false := by unfold inB; rw [Bool.and_eq_false_iff]; simp only [decide_eq_false_iff_not]; omega
    have e : rS y = nameB 0 := by simp only [rS, h]; rfl
    refine .inl ?_
    rw [e, nmd_table 0 (by decide), show (nameB 0).toList.isEmpty = true from by decide +kernel]
    exact ⟨rfl, rfl⟩
  · obtain ⟨k, rfl⟩ := Int.eq_ofNat_of_zero_le (show 0 ≤ y by omega)
    have hi : inB (k : Int) = true := by simp [inB]; omega
    have e : rS (k : Int) = nameB k := by simp [rS, hi]
    rw [e, nmd_table k (by omega)]
    cases hq : (nameB k).toList.isEmpty with
    | true => exact .inl ⟨rfl, rfl⟩
    | false => exact .inr ⟨rfl, k, rfl, (rV_in k (by omega) (by omega)).1.symm⟩
def opsL (y : Int) (j : Nat) : List Value := .int .i64 y :: (List.range j).map fun i : Nat => Value.int .i64 ((i : Int) - 1)
theorem opsL_length (y : Int) (j : Nat) : (opsL y j).length = 1 + j := by simp [opsL]; omega
theorem opsL_succ (y : Int) (j : Nat) : opsL y j ++ [.int .i64 ((j : Int) - 1)] = opsL y (j + 1) := by simp [opsL, List.range_succ]
theorem opsL_at (y : Int) (j i : Nat) (h : i < 1 + j) : ∃ z, (opsL y j)[i]? = some (.int .i64 z) := by
  cases i with
  | zero => exact ⟨y, rfl⟩
  | succ i => exact ⟨(i : Int) - 1, by simp [opsL, show i < j by omega]⟩
theorem Tryd.info3 : (Tryd.prog.info? 3).map (fun i => (i.zero, i.size, i.bytes)) = some (some (.int .i64 0), 1, 8) := by kernel_rfl
set_option maxRecDepth 100000 in
set_option maxHeartbeats 1000000 in
theorem table_any (G : Nat → Nat) (y : Int) (s : ByteArray) (w : World) (ht : Tabs w (fun _ => 0)) : Calls Tryd.prog 3 #[.int .i64 y, .string s] w fun e w' => e = .returned (.bool true) ∧ ∃ G', Adv (fun _ => False) w G w' G' := by
  obtain ⟨i0, hi, hz0, hz1, hz2⟩ := info_parts Tryd.info3
  have HT := Lib.hid ht
  clear ht
  go_enter Tryd.func3, Tryd.ntmps3
  go_wp2_with fail
  refine (fixed_any (fun _ => 0) _ HT.out).mono ?_
  rintro e w1 ⟨rfl, G1, ha1⟩
  have HA1 := Lib.hid ((ha1.mono (T := fun o => o = 9) fun _ h => h.elim).alloc (.cells (opsL y 0).toArray 3) 9)
  have HR1 := Lib.hid (Row.new w1 G1 3 1 9 1 (opsL y 0) (by unfold maxLen; omega) rfl)
  clear ha1
  go_wp2_with fail
  go_loopw [5, 6] (fun s5 s6 wr => ∃ j : Nat, j ≤ 67 ∧ s6 = .int .i64 ((j : Int) - 1) ∧ ∃ va vc Gr, s5 = .slice va (1 + j) vc ∧ Row 3 1 wr Gr 9 (.slice va (1 + j) vc) (1 + j) (opsL y j) ∧ Adv (fun o => o = 9) w (fun _ => 0) wr Gr) (fun _ s6 _ => 67 - (intOf s6 + 1).toNat)
  case atStart => exact ⟨0, by omega, rfl, _, _, _, rfl, HR1.out, HA1.out⟩
  case round =>
    obtain ⟨j, hj, rfl, va, vc, Gr, rfl, hrow, hadv⟩ := hrel
    have HRow := Lib.hid hrow
    have HAdv := Lib.hid hadv
    clear hrow hadv
    by_cases hlt : j < 67
    · have b1 : decide ((j : Int) - 1 < 66) = true := by simp; omega
      have HRo := Lib.hid (HRow.out.adv (S := fun _ => False) ((Adv.refl (fun _ => False) wr Gr).alloc (.cells #[.int .i64 ((j : Int) - 1)] 3) 0) id)
      have HAo := Lib.hid (HAdv.out.alloc (.cells #[.int .i64 ((j : Int) - 1)] 3) 0)
      have HRd := Lib.hid (Reads.new wr [Value.int .i64 ((j : Int) - 1)] 3)
      go_wp2_with (at_builtin; refine wpList_append_reads rfl (.tmp 26) (.tmp 28) 23 rfl 3 i0 (.int .i64 0) 1 8 Tryd.underlying23 hi hz0 hz1 hz2 rfl (by decide) (own1 wr Gr 0) 9 va (1 + j) vc (opsL y j) rfl HRo.out (some ⟨wr.heap.size, 0, none⟩) 1 1 [.int .i64 ((j : Int) - 1)] rfl rfl HRd.out (by intro u hu; simp at hu; subst hu; rfl) (by unfold maxLen; omega) (by omega) ?_; intro va2 vc2 w2 G2 h1 h2; rw [opsL_succ] at h1; have HR2 := Lib.hid h1; have HA2 := Lib.hid (HAo.out.trans h2); clear h1 h2)
      go_roundw
      case rel => exact ⟨j + 1, by omega, by go_num, va2, vc2, G2, rfl, HR2.out, HA2.out⟩
      case measure => simp [intOf]; omega
    · have b1 : decide ((j : Int) - 1 < 66) = false := by simp; omega
      obtain rfl : j = 67 := by omega
      obtain ⟨g, rfl⟩ : ∃ g, va = some ⟨g, 0, none⟩ := by
        obtain ⟨a, c, e, -, -, h⟩ := HRow.out.slice
        obtain ⟨g, rfl⟩ := h (by omega)
        cases e
        exact ⟨g, rfl⟩
      have HRow8 := Lib.hid (show Row 3 1 wr Gr 9 (.slice (some ⟨g, 0, none⟩) 68 vc) 68 (opsL y 67) from HRow.out)
      clear HRow
      simp only [Nat.reduceAdd]
      rw [show (((67 : Nat) : Int) - 1) = 66 from rfl]
      go_wp2_with fail
      go_loopw [7] (fun s7 wx => ∃ k : Nat, k ≤ 68 ∧ s7 = .int .i64 k ∧ ∃ Gx, Row 3 1 wx Gx 9 (.slice (some ⟨g, 0, none⟩) 68 vc) 68 (opsL y 67) ∧ Adv (fun o => o = 9) w (fun _ => 0) wx Gx) (fun s7 _ => 68 - (intOf s7).toNat)
      case atStart => exact ⟨0, by omega, rfl, Gr, HRow8.out, HAdv.out⟩
      case round =>
        obtain ⟨k, hk, rfl, Gx, hrow, hadv⟩ := hrel
        have HRx := Lib.hid hrow
        have HAx := Lib.hid hadv
        clear hrow hadv
        by_cases hlt : k < 68
        · obtain ⟨z, hz⟩ := opsL_at y 67 k (by omega)
          have ck := (HRx.out.at (by omega)).2.2.2 k _ hz
          have hgl := (HRx.out.at (by omega)).1
          have hgG := (HRx.out.at (by omega)).2.1
          have HCK := Lib.hid (And.intro ck (And.intro hgl hgG))
          have hkk0 : (0 : Int) ≤ (k : Int) := Int.natCast_nonneg _
          have hkk1 : (k : Int) < 68 := by omega
          clear hz hgl hgG
          go_wp2_with fail
          refine (of_any Gx z _ (HT.out.adv HAx.out (by decide))).mono ?_
          rintro e w2 ⟨rfl, G2, ha2⟩
          unfold rV
          have HK2 := Lib.hid (ha2.alloc (.cells #[.int .i64 (rA z), .string (rS z), .int .i64 (rB z), .int .i64 (rC z), .int .i64 (rD z), .bool (rO z)] 25) 0)
          have ck2 := HK2.out.cell_some (p := ⟨g, k, none⟩) HCK.out.1 id
          clear ha2 ck
          go_wp2_with fail
          refine (refOf_any (own1 w2 G2 0) z _).mono ?_
          rintro e w3 ⟨rfl, G3, ha3⟩
          unfold rV
          have hk4 := (HK2.out.trans ha3).alloc (.cells #[.int .i64 (rA z), .string (rS z), .int .i64 (rB z), .int .i64 (rC z), .int .i64 (rD z), .bool (rO z)] 25) 0
          have hb2 := ((ha3.alloc (.cells #[.int .i64 (rA z), .string (rS z), .int .i64 (rB z), .int .i64 (rC z), .int .i64 (rD z), .bool (rO z)] 25) 0).keep w2.heap.size (by simp) id).trans (heap_alloc_new w2 _)
          have hb3 := heap_alloc_new w3 (.cells #[.int .i64 (rA z), .string (rS z), .int .i64 (rB z), .int .i64 (rC z), .int .i64 (rD z), .bool (rO z)] 25)
          have H4 := Lib.hid (And.intro hk4 (And.intro hb2 hb3))
          clear ha3 ck2 hk4 hb2 hb3
          go_wp2_with fail
          obtain ⟨w4, hw4⟩ : ∃ w4, w4 = w3.alloc (.cells #[.int .i64 (rA z), .string (rS z), .int .i64 (rB z), .int .i64 (rC z), .int .i64 (rD z), .bool (rO z)] 25) := ⟨_, rfl⟩
          obtain ⟨G4, hG4⟩ : ∃ G4, G4 = own1 w3 G3 0 := ⟨_, rfl⟩
          obtain ⟨B2, hB2⟩ : ∃ b, b = w2.heap.size := ⟨_, rfl⟩
          obtain ⟨B3, hB3⟩ : ∃ b, b = w3.heap.size := ⟨_, rfl⟩
          obtain ⟨hk4, hb2, hb3⟩ := H4.out
          rw [← hw4, ← hG4] at hk4
          rw [← hw4, ← hB2] at hb2
          rw [← hw4, ← hB3] at hb3
          rw [← hw4, ← hB2, ← hB3]
          have ck4 := hk4.cell_some (p := ⟨g, k, none⟩) HCK.out.1 id
          have hK4 : ∀ (w' : World) (G' : Nat → Nat), Adv (fun _ => False) w4 G4 w' G' → (w'.cell? ⟨B2, 0, none⟩ = some (.int .i64 (rA z)) ∧ w'.cell? ⟨B2, 1, none⟩ = some (.string (rS z)) ∧ w'.cell? ⟨B2, 2, none⟩ = some (.int .i64 (rB z)) ∧ w'.cell? ⟨B2, 3, none⟩ = some (.int .i64 (rC z)) ∧ w'.cell? ⟨B2, 4, none⟩ = some (.int .i64 (rD z)) ∧ w'.cell? ⟨B2, 5, none⟩ = some (.bool (rO z))) ∧ (w'.cell? ⟨B3, 0, none⟩ = some (.int .i64 (rA z)) ∧ w'.cell? ⟨B3, 1, none⟩ = some (.string (rS z)) ∧ w'.cell? ⟨B3, 2, none⟩ = some (.int .i64 (rB z)) ∧ w'.cell? ⟨B3, 3, none⟩ = some (.int .i64 (rC z)) ∧ w'.cell? ⟨B3, 4, none⟩ = some (.int .i64 (rD z)) ∧ w'.cell? ⟨B3, 5, none⟩ = some (.bool (rO z))) ∧ w'.cell? ⟨g, k, none⟩ = some (.int .i64 z) := fun w' G' h => by
            have a := (h.keep _ (Array.getElem?_eq_some_iff.1 hb2).1 id).trans hb2
            have b := (h.keep _ (Array.getElem?_eq_some_iff.1 hb3).1 id).trans hb3
            exact ⟨⟨block_cell a 0 _ rfl, block_cell a 1 _ rfl, block_cell a 2 _ rfl, block_cell a 3 _ rfl, block_cell a 4 _ rfl, block_cell a 5 _ rfl⟩, ⟨block_cell b 0 _ rfl, block_cell b 1 _ rfl, block_cell b 2 _ rfl, block_cell b 3 _ rfl, block_cell b 4 _ rfl, block_cell b 5 _ rfl⟩, h.cell_some (p := ⟨g, k, none⟩) ck4 id⟩
          have HK4 := Lib.hid hK4
          have HA4 := Lib.hid hk4
          clear hk4 hb2 hb3 ck4 hK4 hw4 hG4 hB2 hB3 H4 HK2
          go_upto_region 13 with fail
          have hne : (plainB z != plainB z) = false := by simp
          go_region_held3 (fun w' => (w'.cell? ⟨B2, 0, none⟩ = some (.int .i64 (rA z)) ∧ w'.cell? ⟨B2, 1, none⟩ = some (.string (rS z)) ∧ w'.cell? ⟨B2, 2, none⟩ = some (.int .i64 (rB z)) ∧ w'.cell? ⟨B2, 3, none⟩ = some (.int .i64 (rC z)) ∧ w'.cell? ⟨B2, 4, none⟩ = some (.int .i64 (rD z)) ∧ w'.cell? ⟨B2, 5, none⟩ = some (.bool (rO z))) ∧ (w'.cell? ⟨B3, 0, none⟩ = some (.int .i64 (rA z)) ∧ w'.cell? ⟨B3, 1, none⟩ = some (.string (rS z)) ∧ w'.cell? ⟨B3, 2, none⟩ = some (.int .i64 (rB z)) ∧ w'.cell? ⟨B3, 3, none⟩ = some (.int .i64 (rC z)) ∧ w'.cell? ⟨B3, 4, none⟩ = some (.int .i64 (rD z)) ∧ w'.cell? ⟨B3, 5, none⟩ = some (.bool (rO z))) ∧ w'.cell? ⟨g, k, none⟩ = some (.int .i64 z)) (first | exact HK4.out _ _ HS.out | exact HK4.out _ _ ((Adv.refl _ w4 G4).drew) | exact HK4.out _ _ (Adv.refl _ w4 G4))
            ((first
              | (go_at_call 13; refine (same_any G4 _ _ _ _ _ _ _).mono ?_; rintro e ws ⟨rfl, Gs, has⟩; have HS := Lib.hid (((Adv.refl (fun _ => False) w4 G4).drew).trans has); clear has)
              | (go_at_call 14; refine (plain_any z _).mono ?_; rintro e wd ⟨rfl, rfl⟩)
              | (go_at_call 15; refine (refPlain_any z _).mono ?_; rintro e wd ⟨rfl, rfl⟩)))
          obtain ⟨⟨a0, a1, a2, a3, a4, a5⟩, ⟨b0, b1, b2, b3, b4, b5⟩, -⟩ := HK4.out _ _ HS.out
          have HTs := Lib.hid (HT.out.adv (HAx.out.trans ((HA4.out.trans HS.out).mono fun _ h => h.elim)) (by decide))
          go_wp2_with fail
          refine (named_any Gs (rS z) _ HTs.out).mono ?_
          rintro e w5 ⟨rfl, G5, ha5⟩
          clear a0 a1 a2 a3 a4 a5 b0 b1 b2 b3 b4 b5
          have HS5 := Lib.hid (HS.out.trans ha5)
          clear ha5
          rcases nmd_rS z with ⟨he, hn⟩ | ⟨he, q, hn, hq⟩
          · have HS6 := Lib.hid (HS5.out.alloc (.cells #[.int .i64 0, .string ⟨#[]⟩, .int .i64 0, .int .i64 0, .int .i64 0, .bool false] 25) 0)
            obtain ⟨⟨a0, a1, a2, a3, a4, a5⟩, ⟨b0, b1, b2, b3, b4, b5⟩, -⟩ := HK4.out _ _ HS6.out
            have HRL := Lib.hid (And.intro (HRx.out.adv (HA4.out.trans HS6.out) id) (HAx.out.trans ((HA4.out.trans HS6.out).mono (T := fun o => o = 9) fun _ h => h.elim)))
            rw [hn]
            simp only [nmdV, Option.isSome_none]
            unfold primV0
            go_wp2_with fail
            go_roundw
            case rel => exact ⟨k + 1, by omega, by go_num, _, HRL.out.1, HRL.out.2⟩
            case measure => simp [intOf]; omega
          · have HS6 := Lib.hid (HS5.out.alloc (.cells #[.int .i64 (rA z), .string (rS z), .int .i64 (rB z), .int .i64 (rC z), .int .i64 (rD z), .bool (rO z)] 25) 0)
            obtain ⟨⟨a0, a1, a2, a3, a4, a5⟩, ⟨b0, b1, b2, b3, b4, b5⟩, -⟩ := HK4.out _ _ HS6.out
            rw [hn]
            simp only [nmdV, Option.isSome_some]
            rw [hq]
            unfold rV
            go_wp2_with fail
            refine (same_any (own1 w5 G5 0) _ _ _ _ _ _ _).mono ?_
            rintro e w6 ⟨rfl, G6, ha6⟩
            have HRL := Lib.hid (And.intro (HRx.out.adv (HA4.out.trans (HS6.out.trans ha6)) id) (HAx.out.trans ((HA4.out.trans (HS6.out.trans ha6)).mono (T := fun o => o = 9) fun _ h => h.elim)))
            clear ha6
            go_wp2_with fail
            go_roundw
            case rel => exact ⟨k + 1, by omega, by go_num, _, HRL.out.1, HRL.out.2⟩
            case measure => simp [intOf]; omega
        · have b2 : decide ((k : Int) < 68) = false := by simp; omega
          have HTx := Lib.hid (HT.out.adv HAx.out (by decide))
          go_wp2_with fail
          refine (named_any Gx s _ HTx.out).mono ?_
          rintro e w2 ⟨rfl, G2, ha2⟩
          cases hn : nmd s with
          | none =>
            have HA2 := Lib.hid (ha2.alloc (.cells #[.int .i64 0, .string ⟨#[]⟩, .int .i64 0, .int .i64 0, .int .i64 0, .bool false] 25) 0)
            have HB2 := Lib.hid (heap_alloc_new w2 (.cells #[.int .i64 0, .string ⟨#[]⟩, .int .i64 0, .int .i64 0, .int .i64 0, .bool false] 25))
            clear ha2
            simp only [nmdV, Option.isSome_none]
            unfold primV0
            go_wp2_with fail
            refine (refNamed_any (own1 w2 G2 0) s _).mono ?_
            rintro e w3 ⟨rfl, G3, ha3⟩
            rw [hn]
            simp only [nmdV, Option.isSome_none]
            unfold primV0
            have HA3 := Lib.hid ((HA2.out.trans ha3).alloc (.cells #[.int .i64 0, .string ⟨#[]⟩, .int .i64 0, .int .i64 0, .int .i64 0, .bool false] 25) 0)
            have hb2 := ((ha3.alloc (.cells #[.int .i64 0, .string ⟨#[]⟩, .int .i64 0, .int .i64 0, .int .i64 0, .bool false] 25) 0).keep w2.heap.size (by simp) id).trans HB2.out
            have a0 := block_cell hb2 0 _ rfl
            have a1 := block_cell hb2 1 _ rfl
            have a2 := block_cell hb2 2 _ rfl
            have a3 := block_cell hb2 3 _ rfl
            have a4 := block_cell hb2 4 _ rfl
            have a5 := block_cell hb2 5 _ rfl
            clear ha3 hb2
            go_wp2_with fail
            refine (same_any (own1 w3 G3 0) _ _ _ _ _ _ _).mono ?_
            rintro e w4 ⟨rfl, G4, ha4⟩
            have HF := Lib.hid (HAx.out.trans ((HA3.out.trans ha4).mono (T := fun o => o = 9) fun _ h => h.elim))
            clear ha4 a0 a1 a2 a3 a4 a5
            go_wp2_with fail
            go_ret
            exact ⟨rfl, _, joined_adv HF.out (by decide)⟩
          | some q =>
            have HA2 := Lib.hid (ha2.alloc (.cells #[.int .i64 q, .string (nameB q), .int .i64 (takesN q), .int .i64 (leavesN q), .int .i64 (costsN q), .bool (operandB q)] 25) 0)
            have HB2 := Lib.hid (heap_alloc_new w2 (.cells #[.int .i64 q, .string (nameB q), .int .i64 (takesN q), .int .i64 (leavesN q), .int .i64 (costsN q), .bool (operandB q)] 25))
            clear ha2
            simp only [nmdV, Option.isSome_some]
            unfold primV
            go_wp2_with fail
            refine (refNamed_any (own1 w2 G2 0) s _).mono ?_
            rintro e w3 ⟨rfl, G3, ha3⟩
            rw [hn]
            simp only [nmdV, Option.isSome_some]
            unfold primV
            have HA3 := Lib.hid ((HA2.out.trans ha3).alloc (.cells #[.int .i64 q, .string (nameB q), .int .i64 (takesN q), .int .i64 (leavesN q), .int .i64 (costsN q), .bool (operandB q)] 25) 0)
            have hb2 := ((ha3.alloc (.cells #[.int .i64 q, .string (nameB q), .int .i64 (takesN q), .int .i64 (leavesN q), .int .i64 (costsN q), .bool (operandB q)] 25) 0).keep w2.heap.size (by simp) id).trans HB2.out
            have a0 := block_cell hb2 0 _ rfl
            have a1 := block_cell hb2 1 _ rfl
            have a2 := block_cell hb2 2 _ rfl
            have a3 := block_cell hb2 3 _ rfl
            have a4 := block_cell hb2 4 _ rfl
            have a5 := block_cell hb2 5 _ rfl
            clear ha3 hb2
            go_wp2_with fail
            refine (same_any (own1 w3 G3 0) _ _ _ _ _ _ _).mono ?_
            rintro e w4 ⟨rfl, G4, ha4⟩
            have HF := Lib.hid (HAx.out.trans ((HA3.out.trans ha4).mono (T := fun o => o = 9) fun _ h => h.elim))
            clear ha4 a0 a1 a2 a3 a4 a5
            go_wp2_with fail
            go_ret
            exact ⟨rfl, _, joined_adv HF.out (by decide)⟩
end Go.Proofs.YtdnalhjdmlkbmaaDoor
