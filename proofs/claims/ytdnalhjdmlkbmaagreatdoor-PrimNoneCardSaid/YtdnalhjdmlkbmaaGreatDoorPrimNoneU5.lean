/- Behind Do all is within its bounds again; What is stored, plotted, played is found again; A machine's steps, as plain functions; wisplaw06.sameCells; slices.Clone of tones; Tones; Begin, At, Screen; append of whatever is read, as a step of a region that draws; slices.Clone of bytes; what Image answers; mem.Image of a memory with two banks; wispref04.Memory.Copy; wispref04: Image of the document's memory, SameBanks, SameImage, SameTones; wispref04: SameBanks, SameImage, SameTones of what is the same; What a plain primitive keeps (the plain side of PrimKeeps). -/
import Derived.Deep.MidRow
import Derived.Laws.Tables
import Derived.Deep.RegionHeld3
import Derived.Outline
import Derived.Deep.DeepCutAuto
import Derived.BigRegion
import Derived.StillTailTactics
import Derived.Laws.StructEq
import Derived.BigQuiet
import Derived.Test.YtdnalhjdmlkbmaaGreatDoorPrimNoneU1
import Derived.Test.YtdnalhjdmlkbmaaGreatDoorPrimNoneU2
import Derived.Test.YtdnalhjdmlkbmaaGreatDoorPrimNoneU3
import Derived.Test.YtdnalhjdmlkbmaaGreatDoorPrimNoneU4
set_option linter.unusedVariables false
set_option linter.unusedSimpArgs false
set_option linter.unnecessarySimpa false
namespace Go.Proofs.YtdnalhjdmlkbmaaGreatDoor
open Go.RowKit

theorem good_push {b : List Int} {r : List (Int × Int)} {m : MemS} {l : List Int} (hb : D16 b) (hl : D16 l) (hr : R16 r) (hrl : r.length ≤ 128) (hm : MemOk m) (hR : MemR m) (hn : b.length + l.length ≤ 256) : Good3 (b ++ l) r m :=
  ⟨hb.append hl, hr, by rw [List.length_append]; exact hn, hrl, hm, hR⟩
theorem R16.two {a b : Int} {x y : Int} (hx : 0 ≤ x ∧ x < 65536) (hy : 0 ≤ y ∧ y < 65536) : R16 [(a, x), (b, y)] := (R16.one (x := (a, x)) hx).append (R16.one (x := (b, y)) hy)
set_option maxRecDepth 100000 in
theorem act_good (k : Nat) (hk : k < 64) (b x : List Int) (r : List (Int × Int)) (m : MemS) (hb : D16 b) (hx : D16 x) (hr : R16 r) (hm : MemOk m) (hR : MemR m) (hxl : x.length = (takesN k).toNat) (hbl : (b.length : Int) + leavesN k ≤ 256) (hrl : r.length ≤ 128) (hadd : (r.length : Int) + addsF k ≤ 128) :
    Good3 (actF k b x r m).1 (actF k b x r m).2.1 (actF k b x r m).2.2 ∧ (actF k b x r m).2.2.tones.length ≤ m.tones.length + 3 := by
  have h0 := hx.getD 0
  have h1 := hx.getD 1
  have h2 := hx.getD 2
  match k, hk with
  | 0, _ => have hb' : (b.length : Int) + 0 ≤ 256 := hbl; exact ⟨⟨hb, hr, (show b.length ≤ 256 by omega), hrl, hm, hR⟩, Nat.le_add_right _ _⟩
  | 1, _ => have hb' : (b.length : Int) + 0 ≤ 256 := hbl; exact ⟨⟨hb, hr, (show b.length ≤ 256 by omega), hrl, hm, hR⟩, Nat.le_add_right _ _⟩
  | 2, _ => have hb' : (b.length : Int) + 1 ≤ 256 := hbl; exact ⟨⟨hb, hr, (show b.length ≤ 256 by omega), hrl, hm, hR⟩, Nat.le_add_right _ _⟩
  | 3, _ => have hb' : (b.length : Int) + 1 ≤ 256 := hbl; exact ⟨⟨hb, hr, (show b.length ≤ 256 by omega), hrl, hm, hR⟩, Nat.le_add_right _ _⟩
  | 4, _ => have hb' : (b.length : Int) + 0 ≤ 256 := hbl; exact ⟨⟨hb, hr, (show b.length ≤ 256 by omega), hrl, hm, hR⟩, Nat.le_add_right _ _⟩
  | 5, _ => have hb' : (b.length : Int) + 0 ≤ 256 := hbl; exact ⟨⟨hb, hr, (show b.length ≤ 256 by omega), hrl, hm, hR⟩, Nat.le_add_right _ _⟩
  | 6, _ => have ha' : (r.length : Int) + 2 ≤ 128 := hadd; have hb' : (b.length : Int) + 0 ≤ 256 := hbl; exact ⟨⟨hb, hr.append (R16.two h0 h1), (show b.length ≤ 256 by omega), (show (r ++ [((2 : Int), x.getD 0 0), (3, x.getD 1 0)]).length ≤ 128 by simp; omega), hm, hR⟩, Nat.le_add_right _ _⟩
  | 7, _ => have hb' : (b.length : Int) + 0 ≤ 256 := hbl; exact ⟨⟨hb, hr, (show b.length ≤ 256 by omega), hrl, hm, hR⟩, Nat.le_add_right _ _⟩
  | 8, _ => have hb' : (b.length : Int) + 0 ≤ 256 := hbl; exact ⟨⟨hb, hr, (show b.length ≤ 256 by omega), hrl, hm, hR⟩, Nat.le_add_right _ _⟩
  | 9, _ => have hb' : (b.length : Int) + 0 ≤ 256 := hbl; exact ⟨⟨hb, hr, (show b.length ≤ 256 by omega), hrl, hm, hR⟩, Nat.le_add_right _ _⟩
  | 10, _ => have hb' : (b.length : Int) + 0 ≤ 256 := hbl; exact ⟨⟨hb, hr, (show b.length ≤ 256 by omega), hrl, hm, hR⟩, Nat.le_add_right _ _⟩
  | 11, _ => have hb' : (b.length : Int) + 0 ≤ 256 := hbl; exact ⟨⟨hb, hr, (show b.length ≤ 256 by omega), hrl, hm, hR⟩, Nat.le_add_right _ _⟩
  | 12, _ => have hb' : (b.length : Int) + 2 ≤ 256 := hbl; exact ⟨good_push hb (picks_rng hx _) hr hrl hm hR (by simp [picks, shufP]; omega), Nat.le_add_right _ _⟩
  | 13, _ => have hb' : (b.length : Int) + 0 ≤ 256 := hbl; exact ⟨good_push hb (picks_rng hx _) hr hrl hm hR (by simp [picks, shufP]; omega), Nat.le_add_right _ _⟩
  | 14, _ => have hb' : (b.length : Int) + 2 ≤ 256 := hbl; exact ⟨good_push hb (picks_rng hx _) hr hrl hm hR (by simp [picks, shufP]; omega), Nat.le_add_right _ _⟩
  | 15, _ => have hb' : (b.length : Int) + 3 ≤ 256 := hbl; exact ⟨good_push hb (picks_rng hx _) hr hrl hm hR (by simp [picks, shufP]; omega), Nat.le_add_right _ _⟩
  | 16, _ => have hb' : (b.length : Int) + 3 ≤ 256 := hbl; exact ⟨good_push hb (picks_rng hx _) hr hrl hm hR (by simp [picks, shufP]; omega), Nat.le_add_right _ _⟩
  | 17, _ => have hb' : (b.length : Int) + 1 ≤ 256 := hbl; exact ⟨good_push hb (picks_rng hx _) hr hrl hm hR (by simp [picks, shufP]; omega), Nat.le_add_right _ _⟩
  | 18, _ => have hb' : (b.length : Int) + 3 ≤ 256 := hbl; exact ⟨good_push hb (picks_rng hx _) hr hrl hm hR (by simp [picks, shufP]; omega), Nat.le_add_right _ _⟩
  | 19, _ => have hb' : (b.length : Int) + 4 ≤ 256 := hbl; exact ⟨good_push hb (picks_rng hx _) hr hrl hm hR (by simp [picks, shufP]; omega), Nat.le_add_right _ _⟩
  | 20, _ => have hb' : (b.length : Int) + 0 ≤ 256 := hbl; exact ⟨good_push hb (picks_rng hx _) hr hrl hm hR (by simp [picks, shufP]; omega), Nat.le_add_right _ _⟩
  | 21, _ => have hb' : (b.length : Int) + 1 ≤ 256 := hbl; exact ⟨good_push hb (D16.one (binF_rng 21 _ _ h0.1 h0.2 h1.1 h1.2)) hr hrl hm hR (by simp; omega), Nat.le_add_right _ _⟩
  | 22, _ => have hb' : (b.length : Int) + 1 ≤ 256 := hbl; exact ⟨good_push hb (D16.one (binF_rng 22 _ _ h0.1 h0.2 h1.1 h1.2)) hr hrl hm hR (by simp; omega), Nat.le_add_right _ _⟩
  | 23, _ => have hb' : (b.length : Int) + 1 ≤ 256 := hbl; exact ⟨good_push hb (D16.one (binF_rng 23 _ _ h0.1 h0.2 h1.1 h1.2)) hr hrl hm hR (by simp; omega), Nat.le_add_right _ _⟩
  | 24, _ => have hb' : (b.length : Int) + 1 ≤ 256 := hbl; exact ⟨good_push hb (D16.one (binF_rng 24 _ _ h0.1 h0.2 h1.1 h1.2)) hr hrl hm hR (by simp; omega), Nat.le_add_right _ _⟩
  | 25, _ => have hb' : (b.length : Int) + 1 ≤ 256 := hbl; exact ⟨good_push hb (D16.one (binF_rng 25 _ _ h0.1 h0.2 h1.1 h1.2)) hr hrl hm hR (by simp; omega), Nat.le_add_right _ _⟩
  | 26, _ => have hb' : (b.length : Int) + 1 ≤ 256 := hbl; exact ⟨good_push hb (D16.one (binF_rng 26 _ _ h0.1 h0.2 h1.1 h1.2)) hr hrl hm hR (by simp; omega), Nat.le_add_right _ _⟩
  | 27, _ => have hb' : (b.length : Int) + 1 ≤ 256 := hbl; exact ⟨good_push hb (D16.one (binF_rng 27 _ _ h0.1 h0.2 h1.1 h1.2)) hr hrl hm hR (by simp; omega), Nat.le_add_right _ _⟩
  | 28, _ => have hb' : (b.length : Int) + 1 ≤ 256 := hbl; exact ⟨good_push hb (D16.one (unF_rng 28 _ h0.1 h0.2)) hr hrl hm hR (by simp; omega), Nat.le_add_right _ _⟩
  | 29, _ => have hb' : (b.length : Int) + 1 ≤ 256 := hbl; exact ⟨good_push hb (D16.one (unF_rng 29 _ h0.1 h0.2)) hr hrl hm hR (by simp; omega), Nat.le_add_right _ _⟩
  | 30, _ => have hb' : (b.length : Int) + 1 ≤ 256 := hbl; exact ⟨good_push hb (D16.one (binF_rng 30 _ _ h0.1 h0.2 h1.1 h1.2)) hr hrl hm hR (by simp; omega), Nat.le_add_right _ _⟩
  | 31, _ => have hb' : (b.length : Int) + 1 ≤ 256 := hbl; exact ⟨good_push hb (D16.one (binF_rng 31 _ _ h0.1 h0.2 h1.1 h1.2)) hr hrl hm hR (by simp; omega), Nat.le_add_right _ _⟩
  | 32, _ => have hb' : (b.length : Int) + 1 ≤ 256 := hbl; exact ⟨good_push hb (D16.one (unF_rng 32 _ h0.1 h0.2)) hr hrl hm hR (by simp; omega), Nat.le_add_right _ _⟩
  | 33, _ => have hb' : (b.length : Int) + 1 ≤ 256 := hbl; exact ⟨good_push hb (D16.one (unF_rng 33 _ h0.1 h0.2)) hr hrl hm hR (by simp; omega), Nat.le_add_right _ _⟩
  | 34, _ => have hb' : (b.length : Int) + 1 ≤ 256 := hbl; exact ⟨good_push hb (D16.one (unF_rng 34 _ h0.1 h0.2)) hr hrl hm hR (by simp; omega), Nat.le_add_right _ _⟩
  | 35, _ => have hb' : (b.length : Int) + 1 ≤ 256 := hbl; exact ⟨good_push hb (D16.one (unF_rng 35 _ h0.1 h0.2)) hr hrl hm hR (by simp; omega), Nat.le_add_right _ _⟩
  | 36, _ => have hb' : (b.length : Int) + 1 ≤ 256 := hbl; exact ⟨good_push hb (D16.one (binF_rng 36 _ _ h0.1 h0.2 h1.1 h1.2)) hr hrl hm hR (by simp; omega), Nat.le_add_right _ _⟩
  | 37, _ => have hb' : (b.length : Int) + 1 ≤ 256 := hbl; exact ⟨good_push hb (D16.one (binF_rng 37 _ _ h0.1 h0.2 h1.1 h1.2)) hr hrl hm hR (by simp; omega), Nat.le_add_right _ _⟩
  | 38, _ => have hb' : (b.length : Int) + 1 ≤ 256 := hbl; exact ⟨good_push hb (D16.one (binF_rng 38 _ _ h0.1 h0.2 h1.1 h1.2)) hr hrl hm hR (by simp; omega), Nat.le_add_right _ _⟩
  | 39, _ => have hb' : (b.length : Int) + 1 ≤ 256 := hbl; exact ⟨good_push hb (D16.one (unF_rng 39 _ h0.1 h0.2)) hr hrl hm hR (by simp; omega), Nat.le_add_right _ _⟩
  | 40, _ => have hb' : (b.length : Int) + 1 ≤ 256 := hbl; exact ⟨good_push hb (D16.one (binF_rng 40 _ _ h0.1 h0.2 h1.1 h1.2)) hr hrl hm hR (by simp; omega), Nat.le_add_right _ _⟩
  | 41, _ => have hb' : (b.length : Int) + 1 ≤ 256 := hbl; exact ⟨good_push hb (D16.one (binF_rng 41 _ _ h0.1 h0.2 h1.1 h1.2)) hr hrl hm hR (by simp; omega), Nat.le_add_right _ _⟩
  | 42, _ => have hb' : (b.length : Int) + 1 ≤ 256 := hbl; exact ⟨good_push hb (D16.one (binF_rng 42 _ _ h0.1 h0.2 h1.1 h1.2)) hr hrl hm hR (by simp; omega), Nat.le_add_right _ _⟩
  | 43, _ => have hb' : (b.length : Int) + 1 ≤ 256 := hbl; exact ⟨good_push hb (D16.one (binF_rng 43 _ _ h0.1 h0.2 h1.1 h1.2)) hr hrl hm hR (by simp; omega), Nat.le_add_right _ _⟩
  | 44, _ => have hb' : (b.length : Int) + 1 ≤ 256 := hbl; exact ⟨good_push hb (D16.one (binF_rng 44 _ _ h0.1 h0.2 h1.1 h1.2)) hr hrl hm hR (by simp; omega), Nat.le_add_right _ _⟩
  | 45, _ => have hb' : (b.length : Int) + 1 ≤ 256 := hbl; exact ⟨good_push hb (D16.one (binF_rng 45 _ _ h0.1 h0.2 h1.1 h1.2)) hr hrl hm hR (by simp; omega), Nat.le_add_right _ _⟩
  | 46, _ => have hb' : (b.length : Int) + 1 ≤ 256 := hbl; exact ⟨good_push hb (D16.one (binF_rng 46 _ _ h0.1 h0.2 h1.1 h1.2)) hr hrl hm hR (by simp; omega), Nat.le_add_right _ _⟩
  | 47, _ => have hb' : (b.length : Int) + 1 ≤ 256 := hbl; exact ⟨good_push hb (D16.one (binF_rng 47 _ _ h0.1 h0.2 h1.1 h1.2)) hr hrl hm hR (by simp; omega), Nat.le_add_right _ _⟩
  | 48, _ => have hb' : (b.length : Int) + 1 ≤ 256 := hbl; exact ⟨good_push hb (D16.one (unF_rng 48 _ h0.1 h0.2)) hr hrl hm hR (by simp; omega), Nat.le_add_right _ _⟩
  | 49, _ => have hb' : (b.length : Int) + 1 ≤ 256 := hbl; exact ⟨good_push hb (D16.one (unF_rng 49 _ h0.1 h0.2)) hr hrl hm hR (by simp; omega), Nat.le_add_right _ _⟩
  | 50, _ => have hb' : (b.length : Int) + 1 ≤ 256 := hbl; exact ⟨good_push hb (D16.one (cellF_rng m _)) hr hrl hm hR (by simp; omega), Nat.le_add_right _ _⟩
  | 51, _ => have hb' : (b.length : Int) + 0 ≤ 256 := hbl; exact ⟨⟨hb, hr, (show b.length ≤ 256 by omega), hrl, setCellF_ok hm _ _, setCellF_rng hR _ _⟩, (Nat.le_trans (setCellF_tones _ _ _) (by omega))⟩
  | 52, _ => have hb' : (b.length : Int) + 1 ≤ 256 := hbl; exact ⟨good_push hb (D16.one (⟨(loadF_rng hR _).1, by have := (loadF_rng hR (x.getD 0 0)).2; omega⟩)) hr hrl hm hR (by simp; omega), Nat.le_add_right _ _⟩
  | 53, _ => have hb' : (b.length : Int) + 0 ≤ 256 := hbl; exact ⟨⟨hb, hr, (show b.length ≤ 256 by omega), hrl, storeF_ok _ hm _ _, storeF_rng hR _ (byte_rng _)⟩, (Nat.le_trans (storeF_tones _ _ _) (by omega))⟩
  | 54, _ => have hb' : (b.length : Int) + 0 ≤ 256 := hbl; exact ⟨⟨hb, hr, (show b.length ≤ 256 by omega), hrl, setCellF_ok hm _ _, setCellF_rng hR _ _⟩, (Nat.le_trans (setCellF_tones _ _ _) (by omega))⟩
  | 55, _ => have ha' : (r.length : Int) + 1 ≤ 128 := hadd; have hb' : (b.length : Int) + 0 ≤ 256 := hbl; exact ⟨⟨hb, hr.append (R16.one h0), (show b.length ≤ 256 by omega), (show (r ++ [((4 : Int), x.getD 0 0)]).length ≤ 128 by simp; omega), hm, hR⟩, Nat.le_add_right _ _⟩
  | 56, _ => have hb' : (b.length : Int) + 1 ≤ 256 := hbl; exact ⟨good_push hb (D16.one (atV_rng hr 0 4)) hr.init (show r.dropLast.length ≤ 128 by rw [List.length_dropLast]; omega) hm hR (by simp; omega), Nat.le_add_right _ _⟩
  | 57, _ => have hb' : (b.length : Int) + 1 ≤ 256 := hbl; exact ⟨good_push hb (D16.one (atV_rng hr 0 4)) hr hrl hm hR (by simp; omega), Nat.le_add_right _ _⟩
  | 58, _ => have hb' : (b.length : Int) + 1 ≤ 256 := hbl; exact ⟨good_push hb (D16.one (atV_rng hr 0 3)) hr hrl hm hR (by simp; omega), Nat.le_add_right _ _⟩
  | 59, _ => have hb' : (b.length : Int) + 1 ≤ 256 := hbl; exact ⟨good_push hb (D16.one (atV_rng hr 2 3)) hr hrl hm hR (by simp; omega), Nat.le_add_right _ _⟩
  | 60, _ => have hb' : (b.length : Int) + 0 ≤ 256 := hbl; exact ⟨⟨hb, hr, (show b.length ≤ 256 by omega), hrl, plotF_ok hm _ _ _, plotF_rng hR _ _ _⟩, (Nat.le_trans (plotF_tones _ _ _ _) (by omega))⟩
  | 61, _ => have hb' : (b.length : Int) + 1 ≤ 256 := hbl; exact ⟨good_push hb (D16.one (⟨hR.pad.1, by have := hR.pad.2; omega⟩)) hr hrl hm hR (by simp; omega), Nat.le_add_right _ _⟩
  | 62, _ => have hb' : (b.length : Int) + 0 ≤ 256 := hbl; exact ⟨⟨hb, hr, (show b.length ≤ 256 by omega), hrl, playF_ok hm _ _, playF_rng hR _ (byte_rng _)⟩, (playF_tones _ _ _)⟩
  | 63, _ => have hb' : (b.length : Int) + 0 ≤ 256 := hbl; exact ⟨⟨hb, hr, (show b.length ≤ 256 by omega), hrl, storeF_ok _ hm 65280 (x.getD 0 0 % 256), storeF_rng hR 65280 (byte_rng (x.getD 0 0))⟩, (Nat.le_trans (storeF_tones m 65280 (x.getD 0 0 % 256)) (by omega))⟩
  | k + 64, hk => exact absurd hk (by omega)
theorem doF_good (k : Nat) (hk : k < 64) {d : List Int} {r : List (Int × Int)} {m : MemS} (h : Good3 d r m) : Good3 (doF k d r m).1 (doF k d r m).2.1 (doF k d r m).2.2 ∧ (doF k d r m).2.2.tones.length ≤ m.tones.length + 3 := by
  by_cases hf : faultF k d r = 0
  · have e : doF k d r m = actF k (d.take (d.length - (takesN k).toNat)) (d.drop (d.length - (takesN k).toNat)) r m := by unfold doF; rw [if_neg (by simpa using hf)]
    rw [e]
    by_cases h1 : needF d.length (takesN k) (leavesN k) = 0
    · have hl := takes_len hk h1
      have h3 : ¬ 128 < (r.length : Int) + addsF k := by
        intro h3
        unfold faultF at hf
        rw [if_neg (by simpa using h1)] at hf
        by_cases h2 : looksF k r = 0
        · rw [if_neg (by simpa using h2), if_pos h3] at hf; exact absurd hf (by decide)
        · rw [if_pos h2] at hf; exact h2 hf
      exact act_good k hk _ _ r m (h.d16.take _) (h.d16.drop _) h.r16 h.mo h.mr hl.1 hl.2 h.rl (by omega)
    · unfold faultF at hf
      rw [if_pos h1] at hf; exact absurd hf h1
  · have e : doF k d r m = (d, r, m) := by unfold doF; rw [if_pos hf]
    rw [e]; exact ⟨h, by simp⟩
/-- Do, told by what it comes to. -/
theorem do_at (k : Nat) (hk : k < 64) (hpl : plainB k = true) {G : Nat → Nat} {i j q D R M : Nat} {d d' : List Int} {r r' : List (Int × Int)} {m m' : MemS} (o : Own3 i j q) (hg : Good3 d r m) (hn : m.tones.length ≤ 99999) {w : World} (ht : Tabs w G) (h : Trio w G i j q D R M d r m)
    (hf : faultF k d r = 0) (he : doF k d r m = (d', r', m')) :
    Calls Tryz.prog 23 #[.int .i64 k, .pointer (some ⟨D, 0, none⟩), .pointer (some ⟨R, 0, none⟩), .pointer (some ⟨M, 0, none⟩)] w (Left3 i j q D R M w G d' r' m' (.int .i64 0)) := by
  have h1 := do_any k hk hpl G i j q D R M d r m o hg hn w ht h
  rw [hf, he] at h1
  exact h1
end Go.Proofs.YtdnalhjdmlkbmaaGreatDoor
namespace Go.Proofs.YtdnalhjdmlkbmaaGreatDoor
open Go.RowKit

theorem bits_hi (p : Nat) (h : p < 65536) : bits BinOp.and .u16 (p : Int) 65280 = ((p / 256 * 256 : Nat) : Int) := by
  show IntKind.wrap .u16 ((BitVec.ofInt 16 (p : Int) &&& BitVec.ofInt 16 ((65280 : Nat) : Int)).toNat : Nat) = _
  rw [BitVec.toNat_and, ofInt16 _ h, ofInt16 65280 (by omega)]
  have e : p &&& 65280 = p / 256 * 256 := by
    apply Nat.eq_of_testBit_eq
    intro j
    rw [Nat.testBit_and, show (65280 : Nat) = (2 ^ 8 - 1) * 2 ^ 8 from rfl, show (256 : Nat) = 2 ^ 8 from rfl, Nat.testBit_mul_two_pow, Nat.testBit_mul_two_pow, Nat.testBit_two_pow_sub_one, Nat.testBit_div_two_pow]
    by_cases h8 : 8 ≤ j
    · by_cases h16 : j < 16
      · simp [h8, show j - 8 < 8 from by omega]
      · have hz : p.testBit j = false := Nat.testBit_lt_two_pow (Nat.lt_of_lt_of_le h (Nat.pow_le_pow_right (n := 2) (by decide) (show 16 ≤ j by omega)))
        simp [show j - 8 + 8 = j from by omega, h8, hz]
    · simp [h8]
  rw [e]
  exact wrap_u16_id _ (by omega) (by omega)
theorem bits_lo (p : Nat) (h : p < 65536) : bits BinOp.and .u16 (p : Int) 255 = ((p % 256 : Nat) : Int) := by
  show IntKind.wrap .u16 ((BitVec.ofInt 16 (p : Int) &&& BitVec.ofInt 16 ((255 : Nat) : Int)).toNat : Nat) = _
  rw [BitVec.toNat_and, ofInt16 _ h, ofInt16 255 (by omega), show (255 : Nat) = 2 ^ 8 - 1 from rfl, Nat.and_two_pow_sub_one_eq_mod]
  exact wrap_u16_id _ (by omega) (by omega)
theorem bits_or_comm (x y : Int) : bits BinOp.or .u16 x y = bits BinOp.or .u16 y x := by
  show IntKind.wrap .u16 ((BitVec.ofInt 16 x ||| BitVec.ofInt 16 y).toNat : Nat) = IntKind.wrap .u16 ((BitVec.ofInt 16 y ||| BitVec.ofInt 16 x).toNat : Nat)
  rw [BitVec.or_comm]
/-- The low byte of the pitch, the high one. -/
theorem pitch_lo (p x : Int) (p0 : 0 ≤ p) (p1 : p < 65536) (x0 : 0 ≤ x) (x1 : x < 256) : bits BinOp.or .u16 (bits BinOp.and .u16 p 65280) (IntKind.wrap .u16 x) = p / 256 * 256 + x := by
  obtain ⟨n, rfl⟩ : ∃ n : Nat, p = n := ⟨p.toNat, by omega⟩
  obtain ⟨k, rfl⟩ : ∃ k : Nat, x = k := ⟨x.toNat, by omega⟩
  rw [bits_hi n (by omega), wrap_u16_id _ (by omega) (by omega), bits_or_comm, show ((n / 256 * 256 : Nat) : Int) = ((n / 256 : Nat) : Int) * 256 from by omega, bits_or_nat k (n / 256) (by omega) (by omega)]
  omega
theorem pitch_hi (p x : Int) (p0 : 0 ≤ p) (p1 : p < 65536) (x0 : 0 ≤ x) (x1 : x < 256) : bits BinOp.or .u16 (bits BinOp.and .u16 p 255) (IntKind.wrap .u16 (IntKind.wrap .u16 x * 256)) = x * 256 + p % 256 := by
  obtain ⟨n, rfl⟩ : ∃ n : Nat, p = n := ⟨p.toNat, by omega⟩
  obtain ⟨k, rfl⟩ : ∃ k : Nat, x = k := ⟨x.toNat, by omega⟩
  rw [bits_lo n (by omega), wrap_u16_id (k : Int) (by omega) (by omega), wrap_u16_id _ (by omega) (by omega), bits_or_nat (n % 256) k (by omega) (by omega)]
  omega
theorem nextA_eq (a : Int) (h0 : 0 ≤ a) (h : a < 65535) : nextA a = a + 1 := by unfold nextA; exact wrap_u16_id _ (by omega) (by omega)
theorem store_ram_eq (m : MemS) (k : Nat) (h : k < 16384) (x : Int) : storeF m (32768 + (k : Int)) x = { m with ram := m.ram.set k x } := by
  unfold storeF
  rw [if_neg (by omega), if_neg (by omega), if_pos (by omega), show (32768 + (k : Int) - 32768).toNat = k from by omega]
theorem load_ram_eq (m : MemS) (k : Nat) (h : k < 16384) : loadF m (32768 + (k : Int)) = m.ram.getD k 0 := by
  unfold loadF
  rw [if_neg (by omega), if_neg (by omega), if_pos (by omega), show (32768 + (k : Int) - 32768).toNat = k from by omega]
/-- What is stored as a cell is read again. -/
theorem cell_set (m : MemS) (hm : MemOk m) (a v : Int) (a0 : 32768 ≤ a) (a1 : a < 49151) (v0 : 0 ≤ v) (v1 : v < 65536) : cellF (setCellF m a v) a = v ∧ (setCellF m a v).tones = m.tones ∧ (setCellF m a v).cycle = m.cycle ∧ (setCellF m a v).pitch = m.pitch := by
  obtain ⟨k, rfl⟩ : ∃ k : Nat, a = 32768 + (k : Int) := ⟨(a - 32768).toNat, by omega⟩
  have hk : k + 1 < 16384 := by omega
  have hl := hm.ram
  have e : setCellF m (32768 + (k : Int)) v = { m with ram := (m.ram.set k (v % 256)).set (k + 1) (v / 256 % 256) } := by
    unfold setCellF
    rw [nextA_eq _ (by omega) (by omega), store_ram_eq m k (by omega), show (32768 + (k : Int) + 1) = 32768 + ((k + 1 : Nat) : Int) from by omega, store_ram_eq _ (k + 1) (by omega)]
  rw [e]
  refine ⟨?_, rfl, rfl, rfl⟩
  rw [cellF_pair, nextA_eq _ (by omega) (by omega), load_ram_eq _ k (by omega), show (32768 + (k : Int) + 1) = 32768 + ((k + 1 : Nat) : Int) from by omega, load_ram_eq _ (k + 1) (by omega)]
  have g1 : ((m.ram.set k (v % 256)).set (k + 1) (v / 256 % 256)).getD k 0 = v % 256 := by
    rw [List.getD_eq_getElem?_getD, List.getElem?_set_ne (by omega), List.getElem?_set_self (by omega)]; rfl
  have g2 : ((m.ram.set k (v % 256)).set (k + 1) (v / 256 % 256)).getD (k + 1) 0 = v / 256 % 256 := by
    rw [List.getD_eq_getElem?_getD, List.getElem?_set_self (by simp; omega)]; rfl
  show pairF (((m.ram.set k (v % 256)).set (k + 1) (v / 256 % 256)).getD k 0) (((m.ram.set k (v % 256)).set (k + 1) (v / 256 % 256)).getD (k + 1) 0) = v
  rw [g1, g2, pairF_eq _ _ (by omega) (by omega) (by omega) (by omega)]
  omega
/-- A pixel is plotted where it is read. -/
theorem plot_read (m : MemS) (hm : MemOk m) (x y c : Int) (x0 : 0 ≤ x) (x1 : x < 64) (y0 : 0 ≤ y) (y1 : y < 48) : loadF (plotF m x y c) (49152 + 64 * y + x) = c % 256 ∧ (plotF m x y c).tones = m.tones ∧ (plotF m x y c).cycle = m.cycle ∧ (plotF m x y c).pitch = m.pitch := by
  obtain ⟨k, hk⟩ : ∃ k : Nat, 64 * y + x = k := ⟨(64 * y + x).toNat, by omega⟩
  have hk2 : k < 3072 := by omega
  have ea : 49152 + 64 * y + x = 49152 + (k : Int) := by omega
  have hl := hm.screen
  have e : plotF m x y c = { m with screen := m.screen.set k (c % 256) } := by
    unfold plotF
    rw [if_pos ⟨x1, y1⟩, ea]
    unfold storeF
    rw [if_neg (by omega), if_neg (by omega), if_neg (by omega), if_pos (by omega), show (49152 + (k : Int) - 49152).toNat = k from by omega]
  rw [e]
  refine ⟨?_, rfl, rfl, rfl⟩
  rw [ea]
  unfold loadF
  rw [if_neg (by omega), if_neg (by omega), if_neg (by omega), if_pos (by omega), show (49152 + (k : Int) - 49152).toNat = k from by omega]
  show (m.screen.set k (c % 256)).getD k 0 = c % 256
  rw [List.getD_eq_getElem?_getD, List.getElem?_set_self (by omega)]; rfl
/-- A tone is heard as it was played. -/
theorem play_tones (m : MemS) (hm : MemR m) (p v : Int) (p0 : 0 ≤ p) (p1 : p < 65536) : (playF m p v).tones = m.tones ++ [(m.cycle, p, v)] := by
  unfold playF
  rw [nextA_eq _ (by decide) (by decide)]
  have e1 : storeF m 65284 (p % 256) = { m with pitch := m.pitch / 256 * 256 + p % 256 } := by
    rw [← pitch_lo m.pitch (p % 256) hm.pitch.1 hm.pitch.2 (by omega) (by omega)]; rfl
  have hq := hm.pitch
  have e2 : storeF { m with pitch := m.pitch / 256 * 256 + p % 256 } (65284 + 1) (p / 256 % 256) = { m with pitch := p } := by
    have h := pitch_hi (m.pitch / 256 * 256 + p % 256) (p / 256 % 256) (by omega) (by omega) (by omega) (by omega)
    have h2 : p / 256 % 256 * 256 + (m.pitch / 256 * 256 + p % 256) % 256 = p := by omega
    rw [h2] at h
    show ({ m with pitch := bits BinOp.or .u16 (bits BinOp.and .u16 (m.pitch / 256 * 256 + p % 256) 255) (IntKind.wrap .u16 (IntKind.wrap .u16 (p / 256 % 256) * 256)) } : MemS) = _
    rw [h]
  rw [e1, e2]; rfl
end Go.Proofs.YtdnalhjdmlkbmaaGreatDoor
namespace Go.Proofs.YtdnalhjdmlkbmaaGreatDoor
open Go.RowKit

/-- Where a machine stands. -/
structure VmS where
  pc : Int
  st : Int
  ft : Int
  d : List Int
  r : List (Int × Int)
  m : MemS
/-- The cell at an address of the code. -/
def codeB (code : List Int) (a : Int) : Bool := !(a % 2 == 1) && decide (a + 1 < code.length)
def codeV (code : List Int) (a : Int) : Int := if codeB code a = true then pairF (code.getD a.toNat 0) (code.getD (a.toNat + 1) 0) else 0
theorem codeV_rng (code : List Int) (a : Int) : 0 ≤ codeV code a ∧ codeV code a < 65536 := by
  unfold codeV; split
  · exact pairF_rng _ _
  · exact ⟨Int.le_refl _, by decide⟩
/-- Look: the primitive (0: none), its operand, the fault. -/
def lookOp (code : List Int) (s : VmS) : Nat := (codeV code (codeV code s.pc)).toNat
def lookX (code : List Int) (s : VmS) : Int :=
  if operandB (lookOp code s) = true then codeV code ((s.pc + 2) % 65536)
  else if lookOp code s = 2 then codeV code ((codeV code s.pc + 2) % 65536) else if lookOp code s = 1 then (codeV code s.pc + 2) % 65536 else 0
def lookOk (code : List Int) (s : VmS) : Bool :=
  if operandB (lookOp code s) = true then codeB code ((s.pc + 2) % 65536)
  else if lookOp code s = 2 then codeB code ((codeV code s.pc + 2) % 65536) else true
/-- The fault that Look tells of a machine that runs. -/
def lookE (code : List Int) (s : VmS) : Int :=
  if codeB code s.pc = false then 7 else if codeB code (codeV code s.pc) = false then 7 else if lookOp code s < 1 ∨ 64 ≤ lookOp code s then 6 else if lookOk code s = false then 7 else 0
/-- loops: does the loop go on; the fault; the return stack behind it. -/
def loopE (r : List (Int × Int)) : Int := if atE r 0 3 ≠ 0 then atE r 0 3 else atE r 1 2
def loopOn (r : List (Int × Int)) : Bool := (atV r 0 3 + 1) % 65536 != atV r 1 2
def loopR (r : List (Int × Int)) : List (Int × Int) := if loopOn r = true then r.dropLast ++ [(3, (atV r 0 3 + 1) % 65536)] else r.dropLast.dropLast
/-- Where the next instruction stands. -/
def nextF (k : Nat) (s : VmS) : Int := if operandB k = true then (s.pc + 2 + 2) % 65536 else (s.pc + 2) % 65536
/-- The fault of an instruction that was looked at. -/
def doesE (k : Nat) (s : VmS) : Int :=
  if needF s.d.length (takesN k) (leavesN k) ≠ 0 then needF s.d.length (takesN k) (leavesN k)
  else match k with
  | 1 => if s.r.length + 1 ≤ 128 then 0 else 4
  | 7 => loopE s.r
  | 8 => if s.r.length = 0 then 0 else atE s.r 0 1
  | 2 | 3 | 4 | 5 | 10 | 11 => 0
  | k => if plainB k = true then faultF k s.d s.r else 6
/-- What it does, where there is none. -/
def doesS (k : Nat) (x : Int) (s : VmS) : VmS :=
  match k with
  | 1 => { s with r := s.r ++ [(1, nextF 1 s)], pc := x }
  | 2 => { s with d := s.d ++ [x], pc := nextF 2 s }
  | 3 => { s with d := s.d ++ [x], pc := nextF 3 s }
  | 4 => { s with pc := x }
  | 5 => { s with d := s.d.dropLast, pc := if s.d.getD (s.d.length - 1) 0 ≠ 0 then nextF 5 s else x }
  | 7 => { s with r := loopR s.r, pc := if loopOn s.r = true then x else nextF 7 s }
  | 8 => if s.r.length = 0 then { s with st := 2, pc := nextF 8 s } else { s with r := s.r.dropLast, pc := atV s.r 0 1 }
  | 10 => { s with pc := nextF 10 s }
  | 11 => { s with st := 2, pc := nextF 11 s }
  | k => { s with d := (doF k s.d s.r s.m).1, r := (doF k s.d s.r s.m).2.1, m := (doF k s.d s.r s.m).2.2, pc := nextF k s }
/-- The fault of the next step of a machine that runs; the machine behind the step; was it yield? -/
def stepE (code : List Int) (s : VmS) : Int := if lookE code s ≠ 0 then lookE code s else doesE (lookOp code s) s
def stepS (code : List Int) (s : VmS) : VmS := if stepE code s ≠ 0 then { s with st := 3, ft := stepE code s } else doesS (lookOp code s) (lookX code s) s
def stepY (code : List Int) (s : VmS) : Bool := stepE code s == 0 && lookOp code s == 10
def costOf (code : List Int) (s : VmS) : Int := if lookE code s = 0 then costsN (lookOp code s) else 0
/-- Begin, At. -/
def beginF (m : MemS) (pad : Int) : MemS := { m with pad := pad, time := (m.time + 1) % 65536, cycle := 0, tones := [] }
def atF (m : MemS) (n : Int) : MemS := { m with cycle := n }
/-- A machine that may be: what New and Restore make, and what steps leave. -/
structure VmOk (code : List Int) (s : VmS) : Prop where
  gd : Good3 s.d s.r s.m
  pc0 : 0 ≤ s.pc
  pc1 : s.pc < 65536
  cb : B8 code
  cl : code.length ≤ 16384
theorem mod16 (n : Int) : 0 ≤ n % 65536 ∧ n % 65536 < 65536 := by omega
theorem nextF_rng (k : Nat) (s : VmS) : 0 ≤ nextF k s ∧ nextF k s < 65536 := by unfold nextF; split <;> omega
theorem lookX_rng (code : List Int) (s : VmS) : 0 ≤ lookX code s ∧ lookX code s < 65536 := by
  unfold lookX
  repeat' split
  all_goals first | exact codeV_rng _ _ | omega
theorem look_op (code : List Int) (s : VmS) (h : lookE code s = 0) : codeB code s.pc = true ∧ codeB code (codeV code s.pc) = true ∧ 1 ≤ lookOp code s ∧ lookOp code s < 64 ∧ lookOk code s = true := by
  unfold lookE at h
  split at h
  · exact absurd h (by decide)
  · split at h
    · exact absurd h (by decide)
    · split at h
      · exact absurd h (by decide)
      · split at h
        · exact absurd h (by decide)
        · rename_i h1 h2 h3 h4
          exact ⟨by simpa using h1, by simpa using h2, by omega, by omega, by simpa using h4⟩
theorem beginF_ok {m : MemS} (h : MemOk m) (p : Int) : MemOk (beginF m p) := ⟨h.ram, h.screen, h.banks⟩
theorem beginF_rng {m : MemS} (h : MemR m) {p : Int} (hp : 0 ≤ p ∧ p < 256) : MemR (beginF m p) := ⟨h.banks, h.ram, h.screen, h.chosen, hp, h.volume, h.pitch, mod16 _⟩
theorem atF_ok {m : MemS} (h : MemOk m) (p : Int) : MemOk (atF m p) := ⟨h.ram, h.screen, h.banks⟩
theorem atF_rng {m : MemS} (h : MemR m) (p : Int) : MemR (atF m p) := ⟨h.banks, h.ram, h.screen, h.chosen, h.pad, h.volume, h.pitch, h.time⟩
theorem atE_len {r : List (Int × Int)} {n : Nat} {kind : Int} (h : atE r n kind = 0) : n < r.length := by
  apply Nat.lt_of_not_le
  intro hn
  rw [(at_out (.inr (by omega))).2] at h
  exact absurd h (by decide)
theorem loopE_len {r : List (Int × Int)} (h : loopE r = 0) : atE r 0 3 = 0 ∧ atE r 1 2 = 0 ∧ 2 ≤ r.length := by
  unfold loopE at h
  split at h
  · contradiction
  · rename_i h1
    have h1' : atE r 0 3 = 0 := by simpa using h1
    exact ⟨h1', h, atE_len (n := 1) h⟩
theorem R16.loop {r : List (Int × Int)} (h : R16 r) : R16 (loopR r) := by
  unfold loopR; split
  · exact h.init.append (R16.one (mod16 _))
  · exact h.init.init
theorem loopR_len {r : List (Int × Int)} (h : 1 ≤ r.length) : (loopR r).length ≤ r.length := by
  unfold loopR; split
  · simp; omega
  · simp; omega
theorem D16.init {d : List Int} (h : D16 d) : D16 d.dropLast := fun x hx => h x (List.dropLast_subset _ hx)
theorem need1 {d : List Int} {p : Int} (h : needF d.length p 1 = 0) (hp : p = 0) : d.length + 1 ≤ 256 := by
  subst hp
  have := needF_ok (d := d) (p := 0) (q := 1) h (by decide) (by decide)
  omega
/-- Behind a step all may be again. -/
theorem does_ok (code : List Int) (k : Nat) (hk : k < 64) (x : Int) (hx : 0 ≤ x ∧ x < 65536) (s : VmS) (h : VmOk code s) (he : doesE k s = 0) : VmOk code (doesS k x s) ∧ (doesS k x s).m.tones.length ≤ s.m.tones.length + 3 := by
  have hn := nextF_rng k s
  obtain ⟨⟨h1, h2, h3, h4, h5, h6⟩, hp0, hp1, hcb, hcl⟩ := h
  have hneed : needF s.d.length (takesN k) (leavesN k) = 0 := by
    unfold doesE at he
    split at he
    · contradiction
    · rename_i h; simpa using h
  have gen : k ≠ 1 → k ≠ 2 → k ≠ 3 → k ≠ 4 → k ≠ 5 → k ≠ 7 → k ≠ 8 → k ≠ 10 → k ≠ 11 → doesS k x s = { s with d := (doF k s.d s.r s.m).1, r := (doF k s.d s.r s.m).2.1, m := (doF k s.d s.r s.m).2.2, pc := nextF k s } := by
    intro n1 n2 n3 n4 n5 n7 n8 n10 n11
    unfold doesS
    split <;> first | contradiction | rfl
  by_cases k1 : k = 1
  · subst k1
    have hl : s.r.length + 1 ≤ 128 := by
      unfold doesE at he
      rw [if_neg (by simpa using hneed)] at he
      show s.r.length + 1 ≤ 128
      by_cases hh : s.r.length + 1 ≤ 128
      · exact hh
      · exact absurd (show (4 : Int) = 0 from by simpa [hh] using he) (by decide)
    exact ⟨⟨⟨h1, h2.append (R16.one hn), h3, (show (s.r ++ [((1 : Int), nextF 1 s)]).length ≤ 128 by simp; omega), h5, h6⟩, hx.1, hx.2, hcb, hcl⟩, Nat.le_add_right _ _⟩
  by_cases k2 : k = 2
  · subst k2
    have hl := need1 (p := takesN 2) hneed rfl
    exact ⟨⟨⟨h1.append (D16.one hx), h2, (show (s.d ++ [x]).length ≤ 256 by simp; omega), h4, h5, h6⟩, hn.1, hn.2, hcb, hcl⟩, Nat.le_add_right _ _⟩
  by_cases k3 : k = 3
  · subst k3
    have hl := need1 (p := takesN 3) hneed rfl
    exact ⟨⟨⟨h1.append (D16.one hx), h2, (show (s.d ++ [x]).length ≤ 256 by simp; omega), h4, h5, h6⟩, hn.1, hn.2, hcb, hcl⟩, Nat.le_add_right _ _⟩
  by_cases k4 : k = 4
  · subst k4
    exact ⟨⟨⟨h1, h2, h3, h4, h5, h6⟩, hx.1, hx.2, hcb, hcl⟩, Nat.le_add_right _ _⟩
  by_cases k5 : k = 5
  · subst k5
    have hpc : 0 ≤ (doesS 5 x s).pc ∧ (doesS 5 x s).pc < 65536 := by
      show 0 ≤ (if s.d.getD (s.d.length - 1) 0 ≠ 0 then nextF 5 s else x) ∧ (if s.d.getD (s.d.length - 1) 0 ≠ 0 then nextF 5 s else x) < 65536
      split
      · exact hn
      · exact hx
    exact ⟨⟨⟨h1.init, h2, (show s.d.dropLast.length ≤ 256 by simp; omega), h4, h5, h6⟩, hpc.1, hpc.2, hcb, hcl⟩, Nat.le_add_right _ _⟩
  by_cases k7 : k = 7
  · subst k7
    have hl : loopE s.r = 0 := by
      unfold doesE at he
      rw [if_neg (by simpa using hneed)] at he
      exact he
    have hl2 := loopE_len hl
    have hpc : 0 ≤ (doesS 7 x s).pc ∧ (doesS 7 x s).pc < 65536 := by
      show 0 ≤ (if loopOn s.r = true then x else nextF 7 s) ∧ (if loopOn s.r = true then x else nextF 7 s) < 65536
      split
      · exact hx
      · exact hn
    exact ⟨⟨⟨h1, h2.loop, h3, (show (loopR s.r).length ≤ 128 from Nat.le_trans (loopR_len (by omega)) h4), h5, h6⟩, hpc.1, hpc.2, hcb, hcl⟩, Nat.le_add_right _ _⟩
  by_cases k8 : k = 8
  · subst k8
    by_cases hz : s.r.length = 0
    · have e : doesS 8 x s = { s with st := 2, pc := nextF 8 s } := if_pos hz
      rw [e]
      exact ⟨⟨⟨h1, h2, h3, h4, h5, h6⟩, hn.1, hn.2, hcb, hcl⟩, Nat.le_add_right _ _⟩
    · have e : doesS 8 x s = { s with r := s.r.dropLast, pc := atV s.r 0 1 } := if_neg hz
      rw [e]
      exact ⟨⟨⟨h1, h2.init, h3, (show s.r.dropLast.length ≤ 128 by simp; omega), h5, h6⟩, (atV_rng h2 0 1).1, (atV_rng h2 0 1).2, hcb, hcl⟩, Nat.le_add_right _ _⟩
  by_cases k10 : k = 10
  · subst k10
    exact ⟨⟨⟨h1, h2, h3, h4, h5, h6⟩, hn.1, hn.2, hcb, hcl⟩, Nat.le_add_right _ _⟩
  by_cases k11 : k = 11
  · subst k11
    exact ⟨⟨⟨h1, h2, h3, h4, h5, h6⟩, hn.1, hn.2, hcb, hcl⟩, Nat.le_add_right _ _⟩
  rw [gen k1 k2 k3 k4 k5 k7 k8 k10 k11]
  have hg := doF_good k hk ⟨h1, h2, h3, h4, h5, h6⟩
  exact ⟨⟨hg.1, hn.1, hn.2, hcb, hcl⟩, hg.2⟩
theorem step_ok (code : List Int) (s : VmS) (h : VmOk code s) : VmOk code (stepS code s) ∧ (stepS code s).m.tones.length ≤ s.m.tones.length + 3 := by
  unfold stepS
  split
  · exact ⟨⟨h.gd, h.pc0, h.pc1, h.cb, h.cl⟩, Nat.le_add_right _ _⟩
  · rename_i he
    have he' : stepE code s = 0 := by simpa using he
    have hl : lookE code s = 0 := by
      unfold stepE at he'
      split at he'
      · contradiction
      · rename_i h; simpa using h
    have hd : doesE (lookOp code s) s = 0 := by
      unfold stepE at he'
      rw [if_neg (by simpa using hl)] at he'
      exact he'
    exact does_ok code _ (look_op code s hl).2.2.2.1 _ (lookX_rng code s) s h hd
end Go.Proofs.YtdnalhjdmlkbmaaGreatDoor
namespace Go.Proofs.YtdnalhjdmlkbmaaGreatDoor
open Go.RowKit

/-- A row that was made from nothing may be given to whomever. -/
theorem fresh_row {e size : Nat} {w w' : World} {Gx : Nat → Nat} {v : Value} {n : Nat} {xs : List Value} (ha : Adv (fun o => o = 9) w (fun _ => 0) w' Gx) (hr : Row e size w' Gx 9 v n xs) (G : Nat → Nat) (p : Nat) :
    Adv (fun _ => False) w G w' (newTo w G p) ∧ Row e size w' (newTo w G p) p v n xs := by
  refine ⟨ha.relabel (fun _ _ => by decide) (fun _ hb => newTo_old hb), hr.row, fun b hb => ?_⟩
  have h9 := hr.own b hb
  refine newTo_new ?_
  apply Nat.le_of_not_lt
  intro hlt
  rw [ha.own b hlt] at h9
  exact absurd h9 (by decide)
theorem tonesC_length (l : List (Int × Int × Int)) : (tonesC l).length = l.length * 3 := by
  induction l with
  | nil => rfl
  | cons a l ih => simp only [tonesC, List.flatMap_cons, List.length_append, List.length_cons, List.length_nil] at ih ⊢; omega
theorem tonesC_one (l : List (Int × Int × Int)) : ∀ u ∈ tonesC l, u.oneCell' = true := by
  intro u hu
  simp only [tonesC, List.mem_flatMap] at hu
  obtain ⟨t, _, ht⟩ := hu
  simp at ht
  rcases ht with rfl | rfl | rfl <;> rfl
/-- Tones in new memory. -/
def NewTones (w : World) (G : Nat → Nat) (p n : Nat) (l : List (Int × Int × Int)) (e : Ending) (w' : World) : Prop := ∃ ta' c' G', e = .returned (.slice ta' n c') ∧ Adv (fun _ => False) w G w' G' ∧ Row 152 3 w' G' p (.slice ta' n c') n (tonesC l)
set_option maxRecDepth 100000 in
set_option maxHeartbeats 400000 in
theorem clone_tones (G : Nat → Nat) (q p : Nat) (ta : Option Addr) (n c : Nat) (l : List (Int × Int × Int)) (hn : n ≤ 1000000) (w : World) (hl : l.length = n) (hr : Row 152 3 w G q (.slice ta n c) n (tonesC l)) :
    Calls Tryz.prog 107 #[.slice ta n c] w (NewTones w G p n l) := by
  obtain ⟨i0, hi, hz0, hz1, hz2⟩ := info_parts Tryz.info152
  have hE := fun (w : World) (a : Option Addr) (l c : Nat) => Lib.run_eql_slice_nil (P := Tryz.prog) w 72 152 a l c 0 0 Tryz.underlying72
  rcases hr.row.2 with ⟨e, e2⟩ | ⟨g, cap, cur, e, _⟩
  · cases e
    obtain rfl := List.eq_nil_of_length_eq_zero hl
    clear e2
    go_enter Tryz.func107, Tryz.ntmps107
    go_wp2
    go_ret
    exact ⟨none, 0, G, rfl, Adv.refl _ _ _, Row.nil _ _ _ _ _⟩
  · cases e
    have HX := Lib.hid (hr.reads.alloc (.cells #[] 152))
    have HA0 := Lib.hid ((Adv.refl (fun b => b = 9) w (fun _ => 0)).alloc (.cells #[] 152) 9)
    have HR0 := Lib.hid (Row.new w (fun _ => 0) 152 3 9 0 [] (Nat.zero_le _) rfl)
    have HL := Lib.hid hl
    clear hr hl
    go_enter Tryz.func107, Tryz.ntmps107
    go_wp2_with (at_builtin; refine wpList_append_reads rfl (.tmp 5) (.tmp 6) 72 rfl 152 i0 (.agg #[.int .i64 0, .int .u16 0, .int .u8 0]) 3 16 Tryz.underlying72 hi hz0 hz1 hz2 rfl (by decide) _ 9 (some ⟨w.heap.size, 0, none⟩) 0 0 [] rfl HR0.out (some ⟨g, 0, none⟩) n c (tonesC l) rfl (by rw [tonesC_length, HL.out]) HX.out (tonesC_one l) (by unfold maxLen; omega) (by omega) ?_; intro va1 vc1 w1 G1 h1 h2; rw [Nat.zero_add, List.nil_append] at h1; rw [Nat.zero_add]; have HR1 := Lib.hid h1; have HA1 := Lib.hid (HA0.out.trans h2); clear h1 h2)
    go_ret
    exact ⟨va1, vc1, _, rfl, fresh_row HA1.out HR1.out G p⟩
/-- Tones. -/
theorem tones_any (G : Nat → Nat) (q p M : Nat) (m : MemS) (hm : MemOk m) (hn : m.tones.length ≤ 1000000) (w : World) (hp : PM w G q M m) :
    Calls Tryz.prog 84 #[.pointer (some ⟨M, 0, none⟩)] w (NewTones w G p m.tones.length m.tones) := by
  obtain ⟨B, bs, tv, hp⟩ := hp
  obtain ⟨_, _, _, _, _, _, c6⟩ := hp.ports hm
  obtain ⟨ta, c, rfl, _⟩ := hp.tones.slice
  have HR := Lib.hid hp.tones
  clear hp
  go_enter Tryz.func84, Tryz.ntmps84
  go_wp2_with fail
  refine (clone_tones G q p ta _ c m.tones hn _ rfl HR.out).mono ?_
  rintro e w' ⟨ta', c', G', rfl, ha, hr⟩
  have H := Lib.hid (And.intro ha hr)
  clear ha hr
  go_wp2_with fail
  go_ret
  exact ⟨ta', c', G', rfl, H.out.1, H.out.2⟩
set_option maxHeartbeats 400000 in
theorem sameL_any (a b : Option Addr) (n c m d : Nat) (l k : List Int) (w : World) (hl : l.length = n) (hk : k.length = m) (hn : n ≤ 9223372036854775807) (hm : m ≤ 9223372036854775807) (ha : Reads w a (cellsU l)) (hb : Reads w b (cellsU k)) :
    Calls Tryz.prog 35 #[.slice a n c, .slice b m d] w fun e w' => e = .returned (.bool (decide (l = k))) ∧ ∃ q, w' = w.drewN q := by
  have HL := Lib.hid hl
  have HK := Lib.hid hk
  have HA := Lib.hid ha
  have HB := Lib.hid hb
  clear hl hk ha hb
  by_cases hnm : n = m
  · subst hnm
    go_enter Tryz.func35, Tryz.ntmps35
    go_wp2
    go_loopw [5] (fun s5 wr => ∃ j : Nat, j ≤ n ∧ s5 = .int .i64 j ∧ l.take j = k.take j ∧ ∃ q, wr = w.drewN q) (fun s5 _ => n - (intOf s5).toNat)
    case atStart => exact ⟨0, by omega, rfl, rfl, 0, rfl⟩
    case round =>
      obtain ⟨j, hj, rfl, htk, q, rfl⟩ := hrel
      have HT := Lib.hid htk
      clear htk
      by_cases hlt : j < n
      · obtain ⟨x, hx⟩ : ∃ x, l[j]? = some x := ⟨l[j]'(by rw [HL.out]; omega), by simp⟩
        obtain ⟨y, hy⟩ : ∃ y, k[j]? = some y := ⟨k[j]'(by rw [HK.out]; omega), by simp⟩
        obtain ⟨ab, ao, rfl, hx1, _⟩ := HA.out.atU j x hx
        obtain ⟨bb, bo, rfl, hy1, _⟩ := HB.out.atU j y hy
        have HX := Lib.hid hx
        have HY := Lib.hid hy
        have hj0 : (0 : Int) ≤ (j : Int) := Int.natCast_nonneg _
        have hj1 : (j : Int) < (n : Int) := by omega
        clear hx hy
        by_cases hxy : x = y
        · subst hxy
          go_wp2_with fail
          go_quiet (fail)
          go_wp2
          go_roundw
          case rel => exact ⟨j + 1, by omega, by go_num, take_ext HT.out HX.out HY.out rfl, _, rfl⟩
          case measure => simp [intOf]; omega
        · have hb : (x != y) = true := by simpa using hxy
          have hb2 : (x == y) = false := by simpa using hxy
          have hne : l ≠ k := by
            intro e
            have h1 := HX.out
            have h2 := HY.out
            rw [e, h2] at h1
            exact hxy (by simpa using h1.symm)
          have HNE := Lib.hid hne
          clear hne
          go_wp2_with fail
          go_quiet (fail)
          go_wp2
          go_ret
          exact ⟨by rw [decide_eq_false HNE.out]; rfl, q + nq, by simp⟩
      · have heq : l = k := by
          have h := HT.out
          rwa [List.take_of_length_le (by rw [HL.out]; omega), List.take_of_length_le (by rw [HK.out]; omega)] at h
        have HEQ := Lib.hid heq
        clear heq
        go_wp2
        go_ret
        exact ⟨by rw [decide_eq_true HEQ.out]; rfl, _, rfl⟩
  · have hne : l ≠ k := by
      intro e
      have h1 := HL.out
      rw [e, HK.out] at h1
      exact hnm h1.symm
    have HNE := Lib.hid hne
    have hb : ((n : Int) == (m : Int)) = false := by simp; omega
    have hb2 : ((n : Int) != (m : Int)) = true := by simp; omega
    clear hne
    go_enter Tryz.func35, Tryz.ntmps35
    go_wp2
    go_ret
    exact ⟨by rw [decide_eq_false HNE.out]; rfl, 0, rfl⟩

end Go.Proofs.YtdnalhjdmlkbmaaGreatDoor
namespace Go.Proofs.YtdnalhjdmlkbmaaGreatDoor
open Go.RowKit
set_option linter.unusedVariables false

/-- The tones are forgotten. -/
theorem PMx.setTones {w : World} {G : Nat → Nat} {i D B : Nat} {bs : List Nat} {tv : Value} {M : MemS} (h : PMx w G i D B bs tv M) (hm : MemOk M) : PMx (w.setCell ⟨D, 19463, none⟩ (.slice none 0 0)) G i D B bs (.slice none 0 0) { M with tones := [] } := by
  have hBD : B ≠ D := by
    intro e
    obtain ⟨es, clk, h1, _⟩ := h.map
    obtain ⟨C, h2, _⟩ := h.head
    rw [e, h2] at h1
    cases h1
  refine ⟨?_, h.hown, h.map.of_block (Below.heap_setCell _ _ _ _ hBD), h.mown, h.blen, ?_, Row.nil _ _ _ _ _, h.nodup, h.ne, (fun e => by cases e), (fun b _ e => by cases e)⟩
  · obtain ⟨C, h1, h2⟩ := h.head
    refine ⟨C.setIfInBounds 19463 (.slice none 0 0), ?_, ?_⟩
    · simp only [World.setCell, Array.getElem?_modify, h1]; simp
    · rw [Array.toList_setIfInBounds, h2]
      exact head_setTail B M tv hm 6 _
  · intro k p b hp hbk
    obtain ⟨⟨C, h1, h2⟩, h3⟩ := h.bank k p b hp hbk
    refine ⟨⟨C, (Below.heap_setCell _ _ _ _ ?_).trans h1, h2⟩, h3⟩
    intro e
    exact h.ne (by have := List.mem_of_getElem? hbk; rw [show b = D from e] at this; exact this)
theorem PM.setHead {w : World} {G : Nat → Nat} {q D : Nat} {M M' : MemS} (h : PM w G q D M) (j : Nat) (v : Value) (hh : ∀ B tv, (headC B M tv).set j v = headC B M' tv) (hb : M'.banks = M.banks) (ht : M'.tones = M.tones) :
    Adv (fun o => o = q) w G (w.setCell ⟨D, j, none⟩ v) G ∧ PM (w.setCell ⟨D, j, none⟩ v) G q D M' := by
  obtain ⟨B, bs, tv, h⟩ := h
  exact ⟨(Adv.refl (fun o => o = q) w G).setCell (p := ⟨D, j, none⟩) h.hown v, B, bs, tv, h.setHead j v (hh B tv) hb ht⟩
theorem PM.setTones {w : World} {G : Nat → Nat} {q D : Nat} {M : MemS} (h : PM w G q D M) (hm : MemOk M) : Adv (fun o => o = q) w G (w.setCell ⟨D, 19463, none⟩ (.slice none 0 0)) G ∧ PM (w.setCell ⟨D, 19463, none⟩ (.slice none 0 0)) G q D { M with tones := [] } := by
  obtain ⟨B, bs, tv, h⟩ := h
  exact ⟨(Adv.refl (fun o => o = q) w G).setCell (p := ⟨D, 19463, none⟩) h.hown _, B, bs, _, h.setTones hm⟩
theorem PM.tail {w : World} {G : Nat → Nat} {q D : Nat} {M : MemS} (h : PM w G q D M) (hm : MemOk M) : (∀ k, w.frozen? ⟨D, k, none⟩ = false) ∧ w.cell? ⟨D, 19457, none⟩ = some (.int .u8 M.chosen) ∧ w.cell? ⟨D, 19458, none⟩ = some (.int .u8 M.pad) ∧ w.cell? ⟨D, 19461, none⟩ = some (.int .u16 M.time) ∧ w.cell? ⟨D, 19462, none⟩ = some (.int .i64 M.cycle) ∧ ∃ ta n c, w.cell? ⟨D, 19463, none⟩ = some (.slice ta n c) := by
  obtain ⟨B, bs, tv, h⟩ := h
  obtain ⟨c0, c1, c2, c3, c4, c5, c6⟩ := h.ports hm
  obtain ⟨ta, c, rfl, _⟩ := h.tones.slice
  exact ⟨h.free, c0, c1, c4, c5, ta, _, c, c6⟩
set_option maxRecDepth 100000 in
theorem begin_any (G : Nat → Nat) (q D : Nat) (M : MemS) (hm : MemOk M) (hr : MemR M) (x : Int) (w : World) (hp : PM w G q D M) :
    Calls Tryz.prog 28 #[.pointer (some ⟨D, 0, none⟩), .int .u8 x] w fun e w' => e = .returned (.tuple #[]) ∧ ∃ G', Adv (fun o => o = q) w G w' G' ∧ PM w' G' q D (beginF M x) := by
  obtain ⟨f, c0, c1, c4, c5, ta, n, c, c6⟩ := hp.tail hm
  have hw := wrap_u16_mod (M.time + 1)
  have t0 := hr.time.1
  have t1 := hr.time.2
  have HP := Lib.hid hp
  clear hp
  go_enter Tryz.func28, Tryz.ntmps28
  go_wp2
  go_end0
  obtain ⟨a1, p1⟩ := HP.out.setHead (M' := { M with pad := x }) 19458 (.int .u8 x) (fun B tv => head_setTail B M tv hm 1 _) rfl rfl
  obtain ⟨a2, p2⟩ := p1.setHead (M' := { M with pad := x, time := (M.time + 1) % 65536 }) 19461 (.int .u16 ((M.time + 1) % 65536)) (fun B tv => head_setTail B { M with pad := x } tv ⟨hm.ram, hm.screen, hm.banks⟩ 4 _) rfl rfl
  obtain ⟨a3, p3⟩ := p2.setHead (M' := { M with pad := x, time := (M.time + 1) % 65536, cycle := 0 }) 19462 (.int .i64 0) (fun B tv => head_setTail B { M with pad := x, time := (M.time + 1) % 65536 } tv ⟨hm.ram, hm.screen, hm.banks⟩ 5 _) rfl rfl
  obtain ⟨a4, p4⟩ := p3.setTones ⟨hm.ram, hm.screen, hm.banks⟩
  exact ⟨rfl, G, a1.trans (a2.trans (a3.trans a4)), p4⟩
theorem memAt_any (G : Nat → Nat) (q D : Nat) (M : MemS) (hm : MemOk M) (n : Int) (w : World) (hp : PM w G q D M) :
    Calls Tryz.prog 45 #[.pointer (some ⟨D, 0, none⟩), .int .i64 n] w fun e w' => e = .returned (.tuple #[]) ∧ ∃ G', Adv (fun o => o = q) w G w' G' ∧ PM w' G' q D (atF M n) := by
  obtain ⟨f, c0, c1, c4, c5, -⟩ := hp.tail hm
  have HP := Lib.hid hp
  clear hp
  go_enter Tryz.func45, Tryz.ntmps45
  go_wp2
  go_end0
  obtain ⟨a1, p1⟩ := HP.out.setHead (M' := atF M n) 19462 (.int .i64 n) (fun B tv => head_setTail B M tv hm 5 _) rfl rfl
  exact ⟨rfl, G, a1, p1⟩
/-- A screen's bytes in new memory. -/
def NewBytes (w : World) (G : Nat → Nat) (l : List Int) (e : Ending) (w' : World) : Prop := ∃ b G', e = .returned (.slice (some ⟨b, 0, none⟩) l.length l.length) ∧ Adv (fun _ => False) w G w' G' ∧ G' b = 0 ∧ w.heap.size ≤ b ∧ Reads w' (some ⟨b, 0, none⟩) (u8s l) ∧ b < w'.heap.size
theorem pixZ_size : Tryz.zeroCells169.size = 3072 := by kernel_rfl
theorem infoPix : (Tryz.prog.info? 169).map (·.size) = some 3072 := by kernel_rfl
set_option maxRecDepth 100000 in
theorem screen_any (G : Nat → Nat) (q D : Nat) (M : MemS) (hm : MemOk M) (w : World) (hp : PM w G q D M) :
    Calls Tryz.prog 22 #[.pointer (some ⟨D, 0, none⟩)] w (NewBytes w G M.screen) := by
  obtain ⟨B, bs, tv, hp⟩ := hp
  have hl : M.screen.length = 3072 := hm.screen
  have hrange : w.rangeAt D 16385 (u8s M.screen) := by
    intro j v hv
    have hj : j < 3072 := by
      have := (List.getElem?_eq_some_iff.1 hv).1
      rwa [u8s_length, hl] at this
    have h1 := hp.screenc hm j hj
    have h2 : (u8s M.screen)[j]? = some (.int .u8 (M.screen.getD j 0)) := u8s_at _ j _ (by rw [List.getD_eq_getElem?_getD]; simp [hl, hj])
    rw [h2] at hv
    cases hv
    exact h1
  have HR := Lib.hid hrange
  clear hp hrange
  have hz := heap_alloc_new w (.cells Tryz.zeroCells169 169)
  have hi : (Tryz.prog.info? 169).map (·.size) = some (u8s M.screen).toArray.size := by rw [infoPix]; simp [u8s_length, hl]
  have hs : Tryz.zeroCells169.size = (u8s M.screen).toArray.size := by rw [pixZ_size]; simp [u8s_length, hl]
  have hi2 : (Tryz.prog.info? 169).map (·.size) = some (u8s M.screen).length := by rw [infoPix, u8s_length, hl]
  have ho : (u8s M.screen).toArray.all (·.oneCell') = true := all_oneCell_toArray (u8s_one M.screen)
  have HZ := Lib.hid (And.intro hz (And.intro hi (And.intro hs (And.intro hi2 ho))))
  have HL := Lib.hid hl
  clear hz hi hs hi2 ho hl
  go_enter Tryz.func22, Tryz.ntmps22
  go_wp2_with (first
    | (refine wpList_load_mid rfl 169 (.tmp 8) rfl D 16385 rfl (u8s M.screen) _ HR.out Tryz.underlying169 rfl HZ.out.2.2.2.1 ?_)
    | (refine wpList_store_row rfl 169 (.tmp 3) (.tmp 9) rfl w.heap.size (u8s M.screen).toArray rfl rfl 169 Tryz.zeroCells169 HZ.out.1 HZ.out.2.1 HZ.out.2.2.1 HZ.out.2.2.2.2 ?_))
  go_ret
  have hb := setRow_heap (w.alloc (.cells Tryz.zeroCells169 169)) w.heap.size _ (u8s M.screen).toArray _ _ HZ.out.1
  refine ⟨w.heap.size, own1 w G 0, by rw [HL.out]; rfl, ?_, own1_new _ _ _, Nat.le_refl _, ?_, (Array.getElem?_eq_some_iff.1 hb).1⟩
  · exact ((Adv.refl (fun _ => False) w G).alloc (.cells Tryz.zeroCells169 169) 0).newBlock w.heap.size (Nat.le_refl _) (fun k hk => setRow_other _ _ _ _ hk) (by simp [World.setRow]) rfl rfl rfl
  · exact .inr ⟨w.heap.size, 0, rfl, fun j u hu => block_cell hb (0 + j) u (by simpa using hu)⟩
end Go.Proofs.YtdnalhjdmlkbmaaGreatDoor
namespace Go.Proofs.YtdnalhjdmlkbmaaGreatDoor
open Go.RowKit
set_option linter.unusedVariables false
/-- append of whatever is read to a row, as one step of a region that draws its order. -/
theorem step_append_any {P : Program} {ops : Array Oper} {o : Oper} {a : Act} {w : World} {K : Act → World → Prop} {Q : Exit → Act → World → Prop} {E : Prop}
    (hg : o.guard = none) (s x : Operand) (t : TypeId) (hop : o.op = Op.call { callee := Callee.builtin Builtin.append, args := #[s, x], argTypes := #[t, t] })
    (e : TypeId) (i : TypeInfo) (z : Value) (size bytes : Nat) (h1 : P.underlying t = some (.slice e)) (h2 : P.info? e = some i) (h3 : i.zero = some z) (h4 : i.size = size) (h5 : i.bytes = bytes) (h6 : z.cells.size = size) (h7 : 0 < size)
    (G : Nat → Nat) (q : Nat) (va : Option Addr) (n vc : Nat) (xs : List Value) (hs : a.eval s = .slice va n vc) (hrow : Row e size w G q (.slice va n vc) n xs)
    (xa : Option Addr) (m c : Nat) (news : List Value) (hx : a.eval x = .slice xa m c) (hn : news.length = m * size) (hc : Reads w xa news) (h1c : ∀ u ∈ news, u.oneCell' = true)
    (b1 : n + m ≤ maxLen) (b2 : (n + m) * bytes ≤ 140737488355328)
    (hK : ∀ va' vc' w' G', Row e size w' G' q (.slice va' (n + m) vc') (n + m) (xs ++ news) → Adv (· = q) w G w' G' → K (a.put o.dst (.slice va' (n + m) vc')) w') :
    if Region.wanted o (yielded ops a.tmps) = true then Oper.wp P o a w K Q else E := by
  by_cases hm : m = 0 ∧ xa = none
  · obtain ⟨rfl, rfl⟩ := hm
    obtain rfl : news = [] := List.eq_nil_of_length_eq_zero (by simpa using hn)
    have hw : Region.wanted o (yielded ops a.tmps) = true := by simp [Region.wanted, hg]
    rw [if_pos hw]
    have hnc : n ≤ vc := by
      obtain ⟨a', c', e1, _, h2, _⟩ := hrow.slice
      cases e1; exact h2
    have hr := run_append_nothing (P := P) w t o.type e i h1 h2 va n vc c hnc
    unfold Oper.wp
    simp [execOp, hop, resolve, invoke, builtin, hs, hx, hr, Result.andThen]
    exact hK va vc w G (by simpa using hrow) (Adv.refl _ _ _)
  · obtain ⟨ad, rfl, hn2⟩ : ∃ ad, xa = some ad ∧ ∀ j u, news[j]? = some u → w.cell? (ad.add j) = some u := by
      rcases hc with rfl | ⟨b, o, rfl, hr⟩
      · cases xa with
        | none =>
          exfalso
          apply hm
          refine ⟨?_, rfl⟩
          rcases Nat.eq_zero_or_pos m with h | h
          · exact h
          · exfalso
            have : 0 < m * size := Nat.mul_pos h h7
            simp at hn; omega
        | some ad => exact ⟨ad, rfl, fun j u hu => by simp at hu⟩
      · exact ⟨_, rfl, Reads.add hr⟩
    exact step_append_row hg s x t hop e i z size bytes h1 h2 h3 h4 h5 h6 h7 G q va n vc xs hs hrow ad m c news hx hn hn2 h1c b1 b2 hK
end Go.Proofs.YtdnalhjdmlkbmaaGreatDoor
namespace Go.Proofs.YtdnalhjdmlkbmaaGreatDoor
open Go.RowKit
set_option linter.unusedVariables false
/-- Bytes in new memory. -/
def NewB (w : World) (G : Nat → Nat) (p n : Nat) (l : List Int) (e : Ending) (w' : World) : Prop := ∃ va c G', e = .returned (.slice va n c) ∧ Adv (fun _ => False) w G w' G' ∧ Row 5 1 w' G' p (.slice va n c) n (u8s l)
set_option maxRecDepth 100000 in
set_option maxHeartbeats 400000 in
theorem clone_bytes (G : Nat → Nat) (p : Nat) (a : Addr) (n c : Nat) (l : List Int) (hn : n ≤ 1000000) (w : World) (hl : l.length = n) (hr : Reads w (some a) (u8s l)) :
    Calls Tryz.prog 127 #[.slice (some a) n c] w (NewB w G p n l) := by
  obtain ⟨i0, hi, hz0, hz1, hz2⟩ := info_parts info8
  have hE := fun (w : World) (a : Option Addr) (l c : Nat) => Lib.run_eql_slice_nil (P := Tryz.prog) w 30 5 a l c 0 0 Tryz.underlying30
  have HX := Lib.hid (hr.alloc (.cells #[] 5))
  have HA0 := Lib.hid ((Adv.refl (fun b => b = 9) w (fun _ => 0)).alloc (.cells #[] 5) 9)
  have HR0 := Lib.hid (Row.new w (fun _ => 0) 5 1 9 0 [] (Nat.zero_le _) rfl)
  have HL := Lib.hid hl
  clear hr hl
  go_enter Tryz.func127, Tryz.ntmps127
  go_wp2_with (at_builtin; refine wpList_append_reads rfl (.tmp 5) (.tmp 6) 30 rfl 5 i0 (.int .u8 0) 1 1 Tryz.underlying30 hi hz0 hz1 hz2 rfl (by decide) _ 9 (some ⟨w.heap.size, 0, none⟩) 0 0 [] rfl HR0.out (some a) n c (u8s l) rfl (by rw [u8s_length, HL.out, Nat.mul_one]) HX.out (u8s_one l) (by unfold maxLen; omega) (by omega) ?_; intro va1 vc1 w1 G1 h1 h2; rw [Nat.zero_add, List.nil_append] at h1; rw [Nat.zero_add]; have HR1 := Lib.hid h1; have HA1 := Lib.hid (HA0.out.trans h2); clear h1 h2)
  go_ret
  exact ⟨va1, vc1, _, rfl, fresh_row HA1.out HR1.out G p⟩
end Go.Proofs.YtdnalhjdmlkbmaaGreatDoor
namespace Go.Proofs.YtdnalhjdmlkbmaaGreatDoor
open Go.RowKit
set_option linter.unusedVariables false
def imageV (ba : Option Addr) (bn bc : Nat) (ra : Option Addr) (rc : Nat) (sb : Nat) (m : MemS) : Value :=
  .agg #[.slice ba bn bc, .slice ra 16384 rc, .slice (some ⟨sb, 0, none⟩) 3072 3072, .int .u8 m.chosen, .int .u8 m.pad, .int .u16 m.pitch, .int .u8 m.volume, .int .u16 m.time]
/-- One bank of an image. -/
def BankAt (w : World) (G : Nat → Nat) (va : Option Addr) (n : Nat) (p : Int × List Int) (cs : List Value) : Prop :=
  ∃ da dc, cs = [.int .i64 p.1, .slice da n dc] ∧ Row 5 1 w G 0 (.slice da n dc) n (u8s p.2)
theorem PMx.ports5 {w : World} {G : Nat → Nat} {q D B : Nat} {bs : List Nat} {tv : Value} {m : MemS} (h : PMx w G q D B bs tv m) (hm : MemOk m) :
    w.cell? ⟨D, 19457, none⟩ = some (.int .u8 m.chosen) ∧ w.cell? ⟨D, 19458, none⟩ = some (.int .u8 m.pad) ∧ w.cell? ⟨D, 19459, none⟩ = some (.int .u8 m.volume) ∧ w.cell? ⟨D, 19460, none⟩ = some (.int .u16 m.pitch) ∧ w.cell? ⟨D, 19461, none⟩ = some (.int .u16 m.time) := by
  obtain ⟨p0, p1, p2, p3, p4, -, -⟩ := h.ports hm
  exact ⟨p0, p1, p2, p3, p4⟩
theorem PMx.ramR {w : World} {G : Nat → Nat} {q D B : Nat} {bs : List Nat} {tv : Value} {m : MemS} (h : PMx w G q D B bs tv m) (hm : MemOk m) : Reads w (some ⟨D, 1, none⟩) (u8s m.ram) := by
  refine .inr ⟨D, 1, rfl, fun j u hu => ?_⟩
  have hj : j < 16384 := by have := (List.getElem?_eq_some_iff.1 hu).1; rwa [u8s_length, hm.ram] at this
  have h1 := h.ramc hm j hj
  have h2 : (u8s m.ram)[j]? = some (.int .u8 (m.ram.getD j 0)) := u8s_at _ j _ (by rw [List.getD_eq_getElem?_getD]; simp [hm.ram, hj])
  rw [h2] at hu
  cases hu
  exact h1
/-- A block of eight cells of a call's own is written whole. -/
theorem own8 {w : World} {G : Nat → Nat} (b : Nat) (hb : G b = 1000) (v0 v1 v2 v3 v4 v5 v6 v7 : Value) : Adv (fun o => o = 1000) w G ((((((((w.setCell ⟨b, 0, none⟩ v0).setCell ⟨b, 1, none⟩ v1).setCell ⟨b, 2, none⟩ v2).setCell ⟨b, 3, none⟩ v3).setCell ⟨b, 4, none⟩ v4).setCell ⟨b, 5, none⟩ v5).setCell ⟨b, 6, none⟩ v6).setCell ⟨b, 7, none⟩ v7) G :=
  ((((((((Adv.refl (fun o => o = 1000) w G).setCell (p := ⟨b, 0, none⟩) hb v0).setCell (p := ⟨b, 1, none⟩) hb v1).setCell (p := ⟨b, 2, none⟩) hb v2).setCell (p := ⟨b, 3, none⟩) hb v3).setCell (p := ⟨b, 4, none⟩) hb v4).setCell (p := ⟨b, 5, none⟩) hb v5).setCell (p := ⟨b, 6, none⟩) hb v6).setCell (p := ⟨b, 7, none⟩) hb v7
theorem setB {w : World} {b : Nat} {C : Array Value} {T : TypeId} (h : w.heap[b]? = some (.cells C T (0, 0))) (k : Nat) (v : Value) : (w.setCell ⟨b, k, none⟩ v).heap[b]? = some (.cells (C.setIfInBounds k v) T (0, 0)) := by
  simp only [World.setCell, Array.getElem?_modify, h]; simp
theorem put8 {w : World} {b : Nat} {u0 u1 u2 u3 u4 u5 u6 u7 : Value} {T : TypeId} (h : w.heap[b]? = some (.cells #[u0, u1, u2, u3, u4, u5, u6, u7] T (0, 0))) (v0 v1 v2 v3 v4 v5 v6 v7 : Value) : ((((((((w.setCell ⟨b, 0, none⟩ v0).setCell ⟨b, 1, none⟩ v1).setCell ⟨b, 2, none⟩ v2).setCell ⟨b, 3, none⟩ v3).setCell ⟨b, 4, none⟩ v4).setCell ⟨b, 5, none⟩ v5).setCell ⟨b, 6, none⟩ v6).setCell ⟨b, 7, none⟩ v7).heap[b]? = some (.cells #[v0, v1, v2, v3, v4, v5, v6, v7] T (0, 0)) := by
  have h0 : (w.setCell ⟨b, 0, none⟩ v0).heap[b]? = some (.cells #[v0, u1, u2, u3, u4, u5, u6, u7] T (0, 0)) := setB h 0 v0
  have h1 : ((w.setCell ⟨b, 0, none⟩ v0).setCell ⟨b, 1, none⟩ v1).heap[b]? = some (.cells #[v0, v1, u2, u3, u4, u5, u6, u7] T (0, 0)) := setB h0 1 v1
  have h2 : (((w.setCell ⟨b, 0, none⟩ v0).setCell ⟨b, 1, none⟩ v1).setCell ⟨b, 2, none⟩ v2).heap[b]? = some (.cells #[v0, v1, v2, u3, u4, u5, u6, u7] T (0, 0)) := setB h1 2 v2
  have h3 : ((((w.setCell ⟨b, 0, none⟩ v0).setCell ⟨b, 1, none⟩ v1).setCell ⟨b, 2, none⟩ v2).setCell ⟨b, 3, none⟩ v3).heap[b]? = some (.cells #[v0, v1, v2, v3, u4, u5, u6, u7] T (0, 0)) := setB h2 3 v3
  have h4 : (((((w.setCell ⟨b, 0, none⟩ v0).setCell ⟨b, 1, none⟩ v1).setCell ⟨b, 2, none⟩ v2).setCell ⟨b, 3, none⟩ v3).setCell ⟨b, 4, none⟩ v4).heap[b]? = some (.cells #[v0, v1, v2, v3, v4, u5, u6, u7] T (0, 0)) := setB h3 4 v4
  have h5 : ((((((w.setCell ⟨b, 0, none⟩ v0).setCell ⟨b, 1, none⟩ v1).setCell ⟨b, 2, none⟩ v2).setCell ⟨b, 3, none⟩ v3).setCell ⟨b, 4, none⟩ v4).setCell ⟨b, 5, none⟩ v5).heap[b]? = some (.cells #[v0, v1, v2, v3, v4, v5, u6, u7] T (0, 0)) := setB h4 5 v5
  have h6 : (((((((w.setCell ⟨b, 0, none⟩ v0).setCell ⟨b, 1, none⟩ v1).setCell ⟨b, 2, none⟩ v2).setCell ⟨b, 3, none⟩ v3).setCell ⟨b, 4, none⟩ v4).setCell ⟨b, 5, none⟩ v5).setCell ⟨b, 6, none⟩ v6).heap[b]? = some (.cells #[v0, v1, v2, v3, v4, v5, v6, u7] T (0, 0)) := setB h5 6 v6
  have h7 : ((((((((w.setCell ⟨b, 0, none⟩ v0).setCell ⟨b, 1, none⟩ v1).setCell ⟨b, 2, none⟩ v2).setCell ⟨b, 3, none⟩ v3).setCell ⟨b, 4, none⟩ v4).setCell ⟨b, 5, none⟩ v5).setCell ⟨b, 6, none⟩ v6).setCell ⟨b, 7, none⟩ v7).heap[b]? = some (.cells #[v0, v1, v2, v3, v4, v5, v6, v7] T (0, 0)) := setB h6 7 v7
  exact h7
/-- A block that was made since is written. -/
theorem hid8 {S : Nat → Prop} {w w2 : World} {G G2 : Nat → Nat} (h : Adv S w G w2 G2) (b : Nat) (hb : w.heap.size ≤ b) (v0 v1 v2 v3 v4 v5 v6 v7 : Value) : Adv S w G ((((((((w2.setCell ⟨b, 0, none⟩ v0).setCell ⟨b, 1, none⟩ v1).setCell ⟨b, 2, none⟩ v2).setCell ⟨b, 3, none⟩ v3).setCell ⟨b, 4, none⟩ v4).setCell ⟨b, 5, none⟩ v5).setCell ⟨b, 6, none⟩ v6).setCell ⟨b, 7, none⟩ v7) G2 :=
  (((((((h.setNew (p := ⟨b, 0, none⟩) hb v0).setNew (p := ⟨b, 1, none⟩) hb v1).setNew (p := ⟨b, 2, none⟩) hb v2).setNew (p := ⟨b, 3, none⟩) hb v3).setNew (p := ⟨b, 4, none⟩) hb v4).setNew (p := ⟨b, 5, none⟩) hb v5).setNew (p := ⟨b, 6, none⟩) hb v6).setNew (p := ⟨b, 7, none⟩) hb v7
theorem past8 {w2 : World} (b k : Nat) (hk : k ≠ b) (v0 v1 v2 v3 v4 v5 v6 v7 : Value) : ((((((((w2.setCell ⟨b, 0, none⟩ v0).setCell ⟨b, 1, none⟩ v1).setCell ⟨b, 2, none⟩ v2).setCell ⟨b, 3, none⟩ v3).setCell ⟨b, 4, none⟩ v4).setCell ⟨b, 5, none⟩ v5).setCell ⟨b, 6, none⟩ v6).setCell ⟨b, 7, none⟩ v7).heap[k]? = w2.heap[k]? := by
  rw [Below.heap_setCell _ _ _ _ hk, Below.heap_setCell _ _ _ _ hk, Below.heap_setCell _ _ _ _ hk, Below.heap_setCell _ _ _ _ hk, Below.heap_setCell _ _ _ _ hk, Below.heap_setCell _ _ _ _ hk, Below.heap_setCell _ _ _ _ hk, Below.heap_setCell _ _ _ _ hk]
/-- Behind Image's first statement. -/
structure Shot (w0 w : World) (G0 G : Nat → Nat) (q D B : Nat) (bs : List Nat) (tv : Value) (m : MemS) (x : Nat) (ra : Option Addr) (rc sb : Nat) : Prop where
  ad : Adv (fun _ => False) w0 G0 w G
  mem : PMx w G q D B bs tv m
  blk : w.heap[x]? = some (.cells #[.slice none 0 0, .slice ra 16384 rc, .slice (some ⟨sb, 0, none⟩) 3072 3072, .int .u8 m.chosen, .int .u8 m.pad, .int .u16 m.pitch, .int .u8 m.volume, .int .u16 m.time] 161 (0, 0))
  own : G x = 1000
  new : w0.heap.size < x
  res : w.heap[w0.heap.size]? = some (.cells #[.slice none 0 0, .slice none 0 0, .slice none 0 0, .int .u8 0, .int .u8 0, .int .u16 0, .int .u8 0, .int .u16 0] 161 (0, 0))
  ram : Row 5 1 w G 0 (.slice ra 16384 rc) 16384 (u8s m.ram)
  scr : Reads w (some ⟨sb, 0, none⟩) (u8s m.screen)
  sg : G sb = 0 ∧ sb < w.heap.size
  rown : G w0.heap.size = 1000
def S7 : Nat → Prop := fun o => o = 7 ∨ o = 9 ∨ o = 1000
/-- What an image holds: new rows. -/
structure Shot2 (w : World) (G : Nat → Nat) (ra : Option Addr) (rc sb : Nat) (ba : Option Addr) (bc : Nat) (k0 k1 : Int) (b0 b1 : List Int) (m : MemS) : Prop where
  ram : Row 5 1 w G 0 (.slice ra 16384 rc) 16384 (u8s m.ram)
  scr : Reads w (some ⟨sb, 0, none⟩) (u8s m.screen)
  sg : G sb = 0 ∧ sb < w.heap.size
  bks : ∃ c0 c1, Row 47 2 w G 7 (.slice ba 2 bc) 2 (c0 ++ c1) ∧ BankAt w G ba 16384 (k0, b0) c0 ∧ BankAt w G ba 16384 (k1, b1) c1
/-- m[k] without ok. -/
theorem lookup_I_plain {P : Program} {t kt e : TypeId} {q : IntKind} (ht : P.underlying t = some (.map kt e)) (hk : P.underlying kt = some (.int q)) {w : World} {B : Nat} {l : List (Int × Value)} (h : MapI q w B l) (k : Int) (v : Value) (hv : valI l k = some v) :
    (Instr.lookup t (.map (some B)) (.int q k) false).run P w = .ok v w := by
  obtain ⟨es, clk, hb, hl, hst⟩ := h
  obtain ⟨j, hj⟩ := (findNow_I q k es.toList l 0 hl).2 v hv
  simp [Instr.lookup, run_underlying ht, MapKept.run_getObj_map hb, checkKey_I hk, MapKept.run_findKey hk hj, Result.andThen]
def BanksAre (w : World) (G : Nat → Nat) : List (Int × List Int) → List Value → Prop
  | [], cs => cs = []
  | p :: l, cs => ∃ c rest, cs = c ++ rest ∧ BankAt w G none 16384 p c ∧ BanksAre w G l rest
theorem BankAt.adv {S : Nat → Prop} {w w' : World} {G G' : Nat → Nat} {va : Option Addr} {n : Nat} {p : Int × List Int} {cs : List Value} (h : BankAt w G va n p cs) (ha : Adv S w G w' G') (h0 : ¬ S 0) : BankAt w' G' va n p cs := by
  obtain ⟨da, dc, h1, h2⟩ := h
  exact ⟨da, dc, h1, h2.adv ha h0⟩
theorem BanksAre.adv {S : Nat → Prop} {w w' : World} {G G' : Nat → Nat} (ha : Adv S w G w' G') (h0 : ¬ S 0) : ∀ {l : List (Int × List Int)} {cs : List Value}, BanksAre w G l cs → BanksAre w' G' l cs
  | [], _, h => h
  | _ :: _, _, ⟨c, rest, h1, h2, h3⟩ => ⟨c, rest, h1, h2.adv ha h0, BanksAre.adv ha h0 h3⟩
theorem BanksAre.snoc {w : World} {G : Nat → Nat} {p : Int × List Int} {c : List Value} (hc : BankAt w G none 16384 p c) : ∀ {l : List (Int × List Int)} {cs : List Value}, BanksAre w G l cs → BanksAre w G (l ++ [p]) (cs ++ c)
  | [], cs, h => by
    have h' : cs = [] := h
    subst h'
    exact ⟨c, [], by simp, hc, rfl⟩
  | _ :: _, _, ⟨d, rest, h1, h2, h3⟩ => ⟨d, rest ++ c, by rw [h1, List.append_assoc], h2, BanksAre.snoc hc h3⟩
/-- Between two rounds of Image's loop. -/
structure ImgAt (w0 w : World) (G : Nat → Nat) (D B β0 β1 : Nat) (tv : Value) (m : MemS) (k0 k1 : Int) (x g gc : Nat) (ra : Option Addr) (rc sb : Nat) (k : Nat) (ba : Option Addr) (bc : Nat) (cs : List Value) : Prop where
  ad : Adv S7 w0 (fun _ => 0) w G
  mem : PMx w G 0 D B [β0, β1] tv m
  blk : w.heap[x]? = some (.cells #[.slice ba k bc, .slice ra 16384 rc, .slice (some ⟨sb, 0, none⟩) 3072 3072, .int .u8 m.chosen, .int .u8 m.pad, .int .u16 m.pitch, .int .u8 m.volume, .int .u16 m.time] 161 (0, 0))
  own : G x = 1000
  new : w0.heap.size < x
  res : w.heap[w0.heap.size]? = some (.cells #[.slice none 0 0, .slice none 0 0, .slice none 0 0, .int .u8 0, .int .u8 0, .int .u16 0, .int .u8 0, .int .u16 0] 161 (0, 0))
  rown : G w0.heap.size = 1000
  ram : Row 5 1 w G 0 (.slice ra 16384 rc) 16384 (u8s m.ram)
  scr : Reads w (some ⟨sb, 0, none⟩) (u8s m.screen)
  sg : G sb = 0 ∧ sb < w.heap.size
  keys : Row 5 1 w G 0 (.slice (some ⟨g, 0, none⟩) 2 gc) 2 ([k0, k1].map u8v)
  has : BanksAre w G (m.banks.take k) cs
theorem ImgAt.adv {S : Nat → Prop} {w0 w w' : World} {G G' : Nat → Nat} {D B β0 β1 : Nat} {tv : Value} {m : MemS} {k0 k1 : Int} {x g gc : Nat} {ra : Option Addr} {rc sb k : Nat} {ba : Option Addr} {bc : Nat} {cs : List Value}
    (h : ImgAt w0 w G D B β0 β1 tv m k0 k1 x g gc ra rc sb k ba bc cs) (ha : Adv S w G w' G') (hS : ∀ o, S o → S7 o) (h0 : ¬ S 0) (h1 : ¬ S 1000) : ImgAt w0 w' G' D B β0 β1 tv m k0 k1 x g gc ra rc sb k ba bc cs := by
  have hx : x < w.heap.size := (Array.getElem?_eq_some_iff.1 h.blk).1
  have hr : w0.heap.size < w.heap.size := (Array.getElem?_eq_some_iff.1 h.res).1
  exact ⟨h.ad.trans (ha.mono hS), h.mem.adv ha h0, (ha.keep x hx (by rw [h.own]; exact h1)).trans h.blk, (ha.own x hx).trans h.own, h.new, (ha.keep _ hr (by rw [h.rown]; exact h1)).trans h.res, (ha.own _ hr).trans h.rown, h.ram.adv ha h0,
    h.scr.adv ha (fun ad e => by cases e; rw [h.sg.1]; exact h0), ⟨(ha.own _ h.sg.2).trans h.sg.1, Nat.lt_of_lt_of_le h.sg.2 ha.size⟩, h.keys.adv ha h0, h.has.adv ha h0⟩
theorem ImgAt.put {w0 w : World} {G : Nat → Nat} {D B β0 β1 : Nat} {tv : Value} {m : MemS} {k0 k1 : Int} {x g gc : Nat} {ra : Option Addr} {rc sb k : Nat} {ba : Option Addr} {bc : Nat} {cs : List Value}
    (h : ImgAt w0 w G D B β0 β1 tv m k0 k1 x g gc ra rc sb k ba bc cs) (ba' : Option Addr) (bc' : Nat) (cs' : List Value) (hh : BanksAre w G (m.banks.take (k + 1)) cs') : ImgAt w0 (w.setCell ⟨x, 0, none⟩ (.slice ba' (k + 1) bc')) G D B β0 β1 tv m k0 k1 x g gc ra rc sb (k + 1) ba' bc' cs' := by
  have ha : Adv (fun o => o = 1000) w G (w.setCell ⟨x, 0, none⟩ (.slice ba' (k + 1) bc')) G := (Adv.refl (fun o => o = 1000) w G).setCell (p := ⟨x, 0, none⟩) h.own _
  have h0 : ¬ (fun o => o = 1000) 0 := by decide
  exact ⟨h.ad.trans (ha.mono fun _ e => .inr (.inr e)), h.mem.adv ha h0, setB h.blk 0 _, h.own, h.new, (Below.heap_setCell _ _ _ _ (fun e => by have := h.new; simp at e; omega)).trans h.res, h.rown, h.ram.adv ha h0,
    h.scr.adv ha (fun ad e => by cases e; rw [h.sg.1]; exact h0), ⟨h.sg.1, Nat.lt_of_lt_of_le h.sg.2 ha.size⟩, h.keys.adv ha h0, hh.adv ha h0⟩
theorem infoBk : (Tryz.prog.info? 47).map (fun i => (i.zero, i.size, i.bytes)) = some (some (.agg #[.int .i64 0, .slice none 0 0]), 2, 32) := by kernel_rfl
set_option maxRecDepth 100000 in
set_option maxHeartbeats 4000000 in
theorem image0 (D : Nat) (m : MemS) (hm : MemOk m) (k0 k1 : Int) (b0 b1 : List Int) (hb : m.banks = [(k0, b0), (k1, b1)]) (hk : k0 < k1) (hk0 : 0 ≤ k0) (hk1 : k1 < 256) (w : World) (hp : PM w (fun _ => 0) 0 D m) :
    Calls Tryz.prog 82 #[.pointer (some ⟨D, 0, none⟩)] w fun e w' => ∃ ba bc ra rc sb G', e = .returned (imageV ba 2 bc ra rc sb m) ∧ Adv S7 w (fun _ => 0) w' G' ∧ Shot2 w' G' ra rc sb ba bc k0 k1 b0 b1 m := by
  obtain ⟨G, hG⟩ : ∃ G : Nat → Nat, G = fun _ => 0 := ⟨_, rfl⟩
  obtain ⟨q, hq0⟩ : ∃ q : Nat, q = 0 := ⟨_, rfl⟩
  have hq : q ≠ 1000 := by omega
  rw [← hG] at hp ⊢
  have hp : PM w G q D m := by rw [hq0]; exact hp
  obtain ⟨B, bs, tv, hp⟩ := hp
  have HP := Lib.hid hp
  have hD := hp.lt
  have a0 := ((Adv.refl (fun _ => False) w G).alloc (.cells #[.slice none 0 0, .slice none 0 0, .slice none 0 0, .int .u8 0, .int .u8 0, .int .u16 0, .int .u8 0, .int .u16 0] 161) 1000).drew
  have m0 := heap_alloc_new w (.cells #[.slice none 0 0, .slice none 0 0, .slice none 0 0, .int .u8 0, .int .u8 0, .int .u16 0, .int .u8 0, .int .u16 0] 161)
  obtain ⟨W0, hW0⟩ : ∃ v, v = w.alloc (.cells #[.slice none 0 0, .slice none 0 0, .slice none 0 0, .int .u8 0, .int .u8 0, .int .u16 0, .int .u8 0, .int .u16 0] 161) := ⟨_, rfl⟩
  obtain ⟨G0, hG0⟩ : ∃ v, v = own1 w G 1000 := ⟨_, rfl⟩
  have z0 : W0.heap.size = w.heap.size + 1 := by rw [hW0]; simp
  rw [← hW0, ← hG0] at a0
  rw [← hW0] at m0
  have A0 := Lib.hid a0
  have M0 := Lib.hid m0
  have HD := Lib.hid (hp.adv a0 id)
  have HW := Lib.hid hW0
  have Z0 := Lib.hid z0
  have HG0 := Lib.hid (show G0 w.heap.size = 1000 by rw [hG0]; exact own1_new _ _ _)
  -- the second block may be laid first
  have HDa := Lib.hid (show PMx ((W0.alloc (.cells #[.slice none 0 0, .slice none 0 0, .slice none 0 0, .int .u8 0, .int .u8 0, .int .u16 0, .int .u8 0, .int .u16 0] 161)).drew) (own1 W0.drew G0 1000) q D B bs tv m from (hp.adv a0 id).adv ((Adv.refl (fun _ => False) W0.drew G0).alloc (.cells #[.slice none 0 0, .slice none 0 0, .slice none 0 0, .int .u8 0, .int .u8 0, .int .u16 0, .int .u8 0, .int .u16 0] 161) 1000) id)
  have Qa0 := Lib.hid (HDa.out.ports5 hm)
  have hRA := Lib.hid (HD.out.ramR hm)
  have hRAa := Lib.hid (HDa.out.ramR hm)
  clear hp a0 m0 hW0 hG0 z0
  go_enter Tryz.func82, Tryz.ntmps82
  go_upto_region 3 with fail
  rw [← HW.out]
  obtain ⟨q0, q1, q2, q3, q4⟩ := HD.out.ports5 hm
  go_cut [3] (fun v3 wx => ∃ x ra rc sb Gx, v3 = .pointer (some ⟨x, 0, none⟩) ∧ Shot w wx G Gx q D B bs tv m x ra rc sb)
  case first =>
    go_region_held3 (fun w' => w'.cell? ⟨D, 19457, none⟩ = some (.int .u8 m.chosen) ∧ w'.cell? ⟨D, 19458, none⟩ = some (.int .u8 m.pad) ∧ w'.cell? ⟨D, 19459, none⟩ = some (.int .u8 m.volume) ∧ w'.cell? ⟨D, 19460, none⟩ = some (.int .u16 m.pitch) ∧ w'.cell? ⟨D, 19461, none⟩ = some (.int .u16 m.time)) (first | with_reducible exact ⟨q0, q1, q2, q3, q4⟩ | with_reducible exact Qa0.out | with_reducible exact Q1.out | with_reducible exact Q1a.out | with_reducible exact Q2.out | with_reducible exact Q2z.out | with_reducible exact Q2a.out | with_reducible exact Q3.out)
      (first | (go_at_call 127; refine (clone_bytes G0 0 ⟨D, 1, none⟩ 16384 16384 m.ram (by omega) _ hm.ram hRA.out).mono ?_; rintro e w1 ⟨ra, rc, G1, rfl, a1, r1⟩; have HD1 := Lib.hid (HD.out.adv a1 id); have A1 := Lib.hid (A0.out.trans a1); have R1 := Lib.hid r1; have O1 := Lib.hid ((a1.own w.heap.size (by show w.heap.size < W0.heap.size; rw [Z0.out]; omega)).trans HG0.out); have N1 := Lib.hid ((((Adv.refl (fun _ => False) W0 G0).drew.trans a1).keep w.heap.size (by rw [Z0.out]; omega) id).trans M0.out); have Q1 := Lib.hid (HD1.out.ports5 hm); have hz1 : w.heap.size < w1.heap.size := (Array.getElem?_eq_some_iff.1 N1.out).1; have al1 := Lib.hid ((Adv.refl (fun _ => False) w1 G1).alloc (.cells #[.slice none 0 0, .slice none 0 0, .slice none 0 0, .int .u8 0, .int .u8 0, .int .u16 0, .int .u8 0, .int .u16 0] 161) 1000); have HD1a := Lib.hid (HD1.out.adv al1.out id); have Q1a := Lib.hid (HD1a.out.ports5 hm); clear a1 r1) | (go_at_call 127; refine (clone_bytes (own1 W0.drew G0 1000) 0 ⟨D, 1, none⟩ 16384 16384 m.ram (by omega) _ hm.ram hRAa.out).mono ?_; rintro e w1 ⟨ra, rc, G1, rfl, a1, r1⟩; have HD1 := Lib.hid (HDa.out.adv a1 id); have A1 := Lib.hid ((A0.out.alloc (.cells #[.slice none 0 0, .slice none 0 0, .slice none 0 0, .int .u8 0, .int .u8 0, .int .u16 0, .int .u8 0, .int .u16 0] 161) 1000).trans a1); have R1 := Lib.hid r1; have O1 := Lib.hid ((a1.own w.heap.size (by show w.heap.size < (W0.alloc _).heap.size; rw [World.size_alloc, Z0.out]; omega)).trans ((own1_old (w := W0.drew) (by show w.heap.size < W0.heap.size; rw [Z0.out]; omega)).trans HG0.out)); have N1 := Lib.hid (((((Adv.refl (fun _ => False) W0 G0).drew.alloc (.cells #[.slice none 0 0, .slice none 0 0, .slice none 0 0, .int .u8 0, .int .u8 0, .int .u16 0, .int .u8 0, .int .u16 0] 161) 1000).trans a1).keep w.heap.size (by rw [Z0.out]; omega) id).trans M0.out); have Q1 := Lib.hid (HD1.out.ports5 hm); have X1 := Lib.hid (And.intro ((a1.keep W0.heap.size (by simp) id).trans (heap_alloc_new W0.drew (.cells #[.slice none 0 0, .slice none 0 0, .slice none 0 0, .int .u8 0, .int .u8 0, .int .u16 0, .int .u8 0, .int .u16 0] 161))) (And.intro ((a1.own W0.heap.size (by simp)).trans (own1_new W0.drew G0 1000)) (show w.heap.size < W0.heap.size by rw [Z0.out]; omega))); clear a1 r1) | (go_at_call 22; refine (screen_any G1 q D m hm _ ⟨B, bs, _, HD1.out⟩).mono ?_; have hX := X1.out; rintro e w2 ⟨sb, G2, rfl, a2, sg, sn, sr, sl⟩; rw [hm.screen]; have R2 := Lib.hid (R1.out.adv a2 id); have A2 := Lib.hid (A1.out.trans a2); have HD2 := Lib.hid (HD1.out.adv a2 id); have O2 := Lib.hid ((a2.own w.heap.size (Array.getElem?_eq_some_iff.1 N1.out).1).trans O1.out); have N2 := Lib.hid ((a2.keep w.heap.size (Array.getElem?_eq_some_iff.1 N1.out).1 id).trans N1.out); have S2 := Lib.hid (And.intro sr (And.intro sg sl)); have Q2 := Lib.hid (HD2.out.ports5 hm); have X2 := Lib.hid (And.intro ((a2.keep W0.heap.size (Array.getElem?_eq_some_iff.1 hX.1).1 id).trans hX.1) (And.intro ((a2.own W0.heap.size (Array.getElem?_eq_some_iff.1 hX.1).1).trans hX.2.1) hX.2.2)); have o8 := Lib.hid (own8 (w := w2) (G := G2) W0.heap.size X2.out.2.1 (.slice none 0 0) (.slice ra 16384 rc) (.slice (some ⟨sb, 0, none⟩) 3072 3072) (.int .u8 m.chosen) (.int .u8 m.pad) (.int .u16 m.pitch) (.int .u8 m.volume) (.int .u16 m.time)); have HD3 := Lib.hid (HD2.out.adv o8.out hq); have Q3 := Lib.hid (HD3.out.ports5 hm); have xb := X2.out.1; have x0 := block_cell xb 0 _ rfl; have x1 := block_cell xb 1 _ rfl; have x2 := block_cell xb 2 _ rfl; have x3 := block_cell xb 3 _ rfl; have x4 := block_cell xb 4 _ rfl; have x5 := block_cell xb 5 _ rfl; have x6 := block_cell xb 6 _ rfl; have x7 := block_cell xb 7 _ rfl; have xf := block_free xb; have F3 := Lib.hid (Shot.mk (hid8 A2.out W0.heap.size (Nat.le_of_lt X2.out.2.2) (.slice none 0 0) (.slice ra 16384 rc) (.slice (some ⟨sb, 0, none⟩) 3072 3072) (.int .u8 m.chosen) (.int .u8 m.pad) (.int .u16 m.pitch) (.int .u8 m.volume) (.int .u16 m.time)) HD3.out (put8 xb (.slice none 0 0) (.slice ra 16384 rc) (.slice (some ⟨sb, 0, none⟩) 3072 3072) (.int .u8 m.chosen) (.int .u8 m.pad) (.int .u16 m.pitch) (.int .u8 m.volume) (.int .u16 m.time)) X2.out.2.1 X2.out.2.2 ((past8 _ w.heap.size (by have := X2.out.2.2; omega) (.slice none 0 0) (.slice ra 16384 rc) (.slice (some ⟨sb, 0, none⟩) 3072 3072) (.int .u8 m.chosen) (.int .u8 m.pad) (.int .u16 m.pitch) (.int .u8 m.volume) (.int .u16 m.time)).trans N2.out) (R2.out.adv o8.out (by decide)) (S2.out.1.adv o8.out (fun ad e => by cases e; rw [S2.out.2.1]; decide)) ⟨S2.out.2.1, Nat.lt_of_lt_of_le S2.out.2.2 o8.out.size⟩ O2.out); clear xb a2 sg sn sr sl; clear hX) | (go_at_call 22; refine (screen_any G1 q D m hm _ ⟨B, bs, _, HD1.out⟩).mono ?_; rintro e w2 ⟨sb, G2, rfl, a2, sg, sn, sr, sl⟩; rw [hm.screen]; have R2 := Lib.hid (R1.out.adv a2 id); have A2 := Lib.hid (A1.out.trans a2); have HD2 := Lib.hid (HD1.out.adv a2 id); have O2 := Lib.hid ((a2.own w.heap.size (Array.getElem?_eq_some_iff.1 N1.out).1).trans O1.out); have N2 := Lib.hid ((a2.keep w.heap.size (Array.getElem?_eq_some_iff.1 N1.out).1 id).trans N1.out); have S2 := Lib.hid (And.intro sr (And.intro sg sl)); have Q2 := Lib.hid (HD2.out.ports5 hm); have hz2 : w.heap.size < w2.heap.size := (Array.getElem?_eq_some_iff.1 N2.out).1; have alz := (Adv.refl (fun _ => False) w2 G2).alloc (.cells #[.slice none 0 0, .slice none 0 0, .slice none 0 0, .int .u8 0, .int .u8 0, .int .u16 0, .int .u8 0, .int .u16 0] 161) 1000; have Q2z := Lib.hid ((HD2.out.adv alz id).ports5 hm); have alf := (Adv.refl (fun _ => False) w2 G2).alloc (.cells #[.slice none 0 0, .slice ra 16384 rc, .slice (some ⟨sb, 0, none⟩) 3072 3072, .int .u8 m.chosen, .int .u8 m.pad, .int .u16 m.pitch, .int .u8 m.volume, .int .u16 m.time] 161) 1000; have Q2a := Lib.hid ((HD2.out.adv alf id).ports5 hm); have F3 := Lib.hid (Shot.mk (A2.out.trans alf) (HD2.out.adv alf id) (heap_alloc_new w2 (.cells #[.slice none 0 0, .slice ra 16384 rc, .slice (some ⟨sb, 0, none⟩) 3072 3072, .int .u8 m.chosen, .int .u8 m.pad, .int .u16 m.pitch, .int .u8 m.volume, .int .u16 m.time] 161)) (own1_new _ _ _) hz2 ((heap_past _ _ _ hz2).trans N2.out) (R2.out.adv alf id) (S2.out.1.adv alf (fun _ _ => id)) ⟨(alf.own _ S2.out.2.2).trans S2.out.2.1, Nat.lt_of_lt_of_le S2.out.2.2 alf.size⟩ ((alf.own _ (Array.getElem?_eq_some_iff.1 N2.out).1).trans O2.out)); clear a2 sg sn sr sl alz alf) | (go_at_call 22; refine (screen_any (own1 w1 G1 1000) q D m hm _ ⟨B, bs, _, HD1a.out⟩).mono ?_; rintro e w2 ⟨sb, G2, rfl, a2, sg, sn, sr, sl⟩; rw [hm.screen]; have R2 := Lib.hid ((R1.out.adv al1.out id).adv a2 id); have A2 := Lib.hid ((A1.out.trans al1.out).trans a2); have HD2 := Lib.hid (HD1a.out.adv a2 id); have O2 := Lib.hid (((al1.out.trans a2).own w.heap.size (Array.getElem?_eq_some_iff.1 N1.out).1).trans O1.out); have N2 := Lib.hid (((al1.out.trans a2).keep w.heap.size (Array.getElem?_eq_some_iff.1 N1.out).1 id).trans N1.out); have S2 := Lib.hid (And.intro sr (And.intro sg sl)); have Q2 := Lib.hid (HD2.out.ports5 hm); have X2 := Lib.hid (And.intro ((a2.keep w1.heap.size (by simp) id).trans (heap_alloc_new w1 (.cells #[.slice none 0 0, .slice none 0 0, .slice none 0 0, .int .u8 0, .int .u8 0, .int .u16 0, .int .u8 0, .int .u16 0] 161))) (And.intro ((a2.own w1.heap.size (by simp)).trans (own1_new w1 G1 1000)) hz1)); have o8 := Lib.hid (own8 (w := w2) (G := G2) w1.heap.size X2.out.2.1 (.slice none 0 0) (.slice ra 16384 rc) (.slice (some ⟨sb, 0, none⟩) 3072 3072) (.int .u8 m.chosen) (.int .u8 m.pad) (.int .u16 m.pitch) (.int .u8 m.volume) (.int .u16 m.time)); have HD3 := Lib.hid (HD2.out.adv o8.out hq); have Q3 := Lib.hid (HD3.out.ports5 hm); have xb := X2.out.1; have x0 := block_cell xb 0 _ rfl; have x1 := block_cell xb 1 _ rfl; have x2 := block_cell xb 2 _ rfl; have x3 := block_cell xb 3 _ rfl; have x4 := block_cell xb 4 _ rfl; have x5 := block_cell xb 5 _ rfl; have x6 := block_cell xb 6 _ rfl; have x7 := block_cell xb 7 _ rfl; have xf := block_free xb; have F3 := Lib.hid (Shot.mk (hid8 A2.out w1.heap.size (Nat.le_of_lt X2.out.2.2) (.slice none 0 0) (.slice ra 16384 rc) (.slice (some ⟨sb, 0, none⟩) 3072 3072) (.int .u8 m.chosen) (.int .u8 m.pad) (.int .u16 m.pitch) (.int .u8 m.volume) (.int .u16 m.time)) HD3.out (put8 xb (.slice none 0 0) (.slice ra 16384 rc) (.slice (some ⟨sb, 0, none⟩) 3072 3072) (.int .u8 m.chosen) (.int .u8 m.pad) (.int .u16 m.pitch) (.int .u8 m.volume) (.int .u16 m.time)) X2.out.2.1 X2.out.2.2 ((past8 _ w.heap.size (by have := X2.out.2.2; omega) (.slice none 0 0) (.slice ra 16384 rc) (.slice (some ⟨sb, 0, none⟩) 3072 3072) (.int .u8 m.chosen) (.int .u8 m.pad) (.int .u16 m.pitch) (.int .u8 m.volume) (.int .u16 m.time)).trans N2.out) (R2.out.adv o8.out (by decide)) (S2.out.1.adv o8.out (fun ad e => by cases e; rw [S2.out.2.1]; decide)) ⟨S2.out.2.1, Nat.lt_of_lt_of_le S2.out.2.2 o8.out.size⟩ O2.out); clear xb a2 sg sn sr sl))
    all_goals
      go_wp2_with fail
      go_meet
      exact ⟨_, _, _, _, _, rfl, F3.out⟩
  case rest =>
    clear HD HDa Qa0 hRA hRAa HW M0 A0 q0 q1 q2 q3 q4 Z0 HG0
    obtain ⟨x, ra, rc, sb, Gx, rfl, hsh⟩ := hcut
    have HS := Lib.hid hsh
    obtain ⟨β0, β1, rfl⟩ : ∃ β0 β1, bs = [β0, β1] := by
      have := hsh.mem.blen
      rw [hb] at this
      match bs, this with
      | [a, b], _ => exact ⟨a, b, rfl⟩
    have hbl : bankL m [β0, β1] = [(k0, .pointer (some ⟨β0, 0, none⟩)), (k1, .pointer (some ⟨β1, 0, none⟩))] := by unfold bankL; rw [hb]; rfl
    obtain ⟨CM, hCM, hCl⟩ := hsh.mem.head
    have c0 : wc.cell? ⟨D, 0, none⟩ = some (.map (some B)) := block_cell hCM 0 _ (by rw [← Array.getElem?_toList, hCl]; rfl)
    have HBL := Lib.hid hbl
    have hDl := hsh.mem.lt
    clear hsh hCM hCl hbl
    go_wp2_with fail
    refine (keys_any B wc).mono ?_
    rintro e w1 ⟨rfl, rfl⟩
    have al := (Adv.refl (fun _ => False) wc Gx).alloc (.cells #[.map (some B)] 166) 9
    have HM1 := Lib.hid (HS.out.mem.adv al id)
    have AL := Lib.hid al
    have hBm := World.block_lt_of_cell? (wc.alloc (.cells #[.map (some B)] 166)) _ (block_cell (heap_alloc_new wc (.cells #[.map (some B)] 166)) 0 (.map (some B)) rfl)
    have hBc := block_cell (heap_alloc_new wc (.cells #[.map (some B)] 166)) 0 (.map (some B)) rfl
    have hmap1 := HM1.out.map
    rw [HBL.out] at hmap1
    have hS2 := sorted_2 (own1 wc Gx 9) wc.heap.size B _ k0 k1 rfl _ hBm hBc hmap1
    clear al hBm hBc hmap1
    go_wp2_with fail
    refine hS2.mono ?_
    rintro e w2 ⟨g, gc, G2, rfl, a2, r2⟩
    rw [show sort2 k0 k1 = [k0, k1] from if_neg (by omega)] at r2
    have aL := AL.out.trans a2
    have A2 := Lib.hid ((HS.out.ad.trans aL).mono (T := S7) fun _ h => h.elim)
    have HM2 := Lib.hid (HS.out.mem.adv aL id)
    have X2 := Lib.hid ((aL.keep x (Array.getElem?_eq_some_iff.1 HS.out.blk).1 id).trans HS.out.blk)
    have XO := Lib.hid ((aL.own x (Array.getElem?_eq_some_iff.1 HS.out.blk).1).trans HS.out.own)
    have RO := Lib.hid ((aL.own w.heap.size (Array.getElem?_eq_some_iff.1 HS.out.res).1).trans HS.out.rown)
    have N2 := Lib.hid ((aL.keep w.heap.size (Array.getElem?_eq_some_iff.1 HS.out.res).1 id).trans HS.out.res)
    have R2 := Lib.hid (HS.out.ram.adv aL id)
    have C2 := Lib.hid (And.intro (HS.out.scr.adv aL (fun _ _ => id)) (And.intro ((aL.own _ HS.out.sg.2).trans HS.out.sg.1) (Nat.lt_of_lt_of_le HS.out.sg.2 aL.size)))
    have K2 := Lib.hid r2
    have NW := Lib.hid HS.out.new
    clear a2 r2 aL hS2 HS HM1 AL c0 hDl
    subst hG
    subst hq0
    have I0 := Lib.hid (ImgAt.mk (k := 0) (ba := none) (bc := 0) (cs := []) A2.out HM2.out X2.out XO.out NW.out N2.out RO.out R2.out C2.out.1 C2.out.2 K2.out (show BanksAre w2 G2 (m.banks.take 0) [] from rfl))
    clear A2 HM2 X2 XO N2 R2 C2 K2 RO
    go_wp2_with fail
    go_loopw [44] (fun v44 wr => ∃ k : Nat, v44 = .int .i64 k ∧ k ≤ 2 ∧ ∃ Gr ba bc cs, ImgAt w wr Gr D B β0 β1 tv m k0 k1 x g gc ra rc sb k ba bc cs ∧ Row 47 2 wr Gr 7 (.slice ba k bc) k cs) (fun v44 _ => 2 - (intOf v44).toNat)
    case atStart => exact ⟨0, rfl, by omega, G2, none, 0, [], I0.out, Row.nil _ _ _ _ _⟩
    case round =>
      obtain ⟨k, rfl, hk2, Gr, ba, bc, cs, hI, hbk⟩ := hrel
      have HI := Lib.hid hI
      have HBK := Lib.hid hbk
      clear hI hbk I0
      by_cases hlt : k < 2
      · obtain ⟨kv, bv, βv, e1, e2, e3, kv0, kv1⟩ : ∃ kv bv βv, [k0, k1][k]? = some kv ∧ m.banks[k]? = some (kv, bv) ∧ [β0, β1][k]? = some βv ∧ 0 ≤ kv ∧ kv < 256 := by
          rw [hb]
          rcases (show k = 0 ∨ k = 1 by omega) with rfl | rfl
          · exact ⟨k0, b0, β0, rfl, rfl, rfl, by omega, by omega⟩
          · exact ⟨k1, b1, β1, rfl, rfl, rfl, by omega, by omega⟩
        have hlv : valI (bankL m [β0, β1]) kv = some (.pointer (some ⟨βv, 0, none⟩)) := by
          rw [HBL.out]
          rcases (show k = 0 ∨ k = 1 by omega) with rfl | rfl
          · simp at e1 e3
            subst e1; subst e3
            simp [valI]
          · simp at e1 e3
            subst e1; subst e3
            simp [valI, show ¬ k0 = k1 from by omega]
        have hkc := (HI.out.keys.at (by omega)).2.2.2 k (.int .u8 kv) (by rw [List.getElem?_map, e1]; rfl)
        obtain ⟨⟨CB, hCB, hCBl⟩, -⟩ := HI.out.mem.bank k (kv, bv) βv e2 e3
        have hl16 : bv.length = 16384 := hm.banks (kv, bv) (List.mem_of_getElem? e2)
        have hbr : Reads wr.drew (some ⟨βv, 0, none⟩) (u8s bv) := .inr ⟨βv, 0, rfl, fun j u hu => block_cell hCB (0 + j) u (by rw [Nat.zero_add, ← Array.getElem?_toList, hCBl]; exact hu)⟩
        obtain ⟨CM, hCM, hCl⟩ := HI.out.mem.head
        have d0 : wr.drew.cell? ⟨D, 0, none⟩ = some (.map (some B)) := block_cell hCM 0 _ (by rw [← Array.getElem?_toList, hCl]; rfl)
        have xc : wr.drew.cell? ⟨x, 0, none⟩ = some (.slice ba k bc) := block_cell HI.out.blk 0 _ rfl
        have hlk := lookup_I_plain (P := Tryz.prog) Tryz.underlying166 Tryz.underlying5 (w := wr.drew) (HI.out.mem.map) kv _ hlv
        have hdl := HI.out.mem.lt
        have hxl : x < wr.heap.size := (Array.getElem?_eq_some_iff.1 HI.out.blk).1
        have HBR := Lib.hid (And.intro hbr (And.intro hl16 (And.intro e2 hlv)))
        have k00 : (0 : Int) ≤ (k : Int) := Int.natCast_nonneg _
        have k01 : (k : Int) < 2 := by omega
        have q1 : decide ((k : Int) < 2) = true := by simp; omega
        have hwv : IntKind.i64.wrap kv = kv := IntWalk.i64_in _ (by omega)
        have hwk : IntKind.i64.wrap ((k : Int) + 1) = (k : Int) + 1 := IntWalk.i64_in _ (by omega)
        obtain ⟨i0, hi, hz0, hz1, hz2⟩ := info_parts infoBk
        have HID := Lib.hid (HI.out.adv (Adv.refl (fun _ => False) wr Gr).drew (fun _ h => h.elim) id id)
        have HBD := Lib.hid (HBK.out.adv (Adv.refl (fun _ => False) wr Gr).drew id)
        clear e1 e2 e3 hlv hCB hCBl hl16 hbr hCM hCl
        go_upto_region 7 with fail
        go_region_law (first | (go_simp; go_at_call 127; refine (clone_bytes Gr 0 ⟨βv, 0, none⟩ 16384 16384 bv (by omega) _ HBR.out.2.1 HBR.out.1).mono ?_; rintro e w5 ⟨da, dc, G5, rfl, a5, r5⟩; have I5 := Lib.hid (HID.out.adv a5 (fun _ h => h.elim) id id); have x5 := block_cell I5.out.blk 0 _ rfl; have hx5 : x < w5.heap.size := (Array.getElem?_eq_some_iff.1 I5.out.blk).1; have al := (Adv.refl (fun _ => False) w5 G5).alloc (.cells #[.int .i64 kv, .slice da 16384 dc] 47) 9; have I6 := Lib.hid (I5.out.adv al (fun _ h => h.elim) id id); have HB6 := Lib.hid ((HBD.out.adv a5 id).adv al id); have HR6 := Lib.hid (Reads.new w5 [.int .i64 kv, .slice da 16384 dc] 47); have R6 := Lib.hid (r5.adv al id); clear a5 r5 al) | (refine step_append_any rfl (.tmp 49) (.tmp 62) 33 rfl 47 i0 (.agg #[.int .i64 0, .slice none 0 0]) 2 32 Tryz.underlying33 hi hz0 hz1 hz2 rfl (by decide) (own1 w5 G5 9) 7 ba k bc cs rfl HB6.out (some ⟨w5.heap.size, 0, none⟩) 1 1 [.int .i64 kv, .slice da 16384 dc] rfl rfl HR6.out (by intro u hu; simp at hu; rcases hu with rfl | rfl <;> rfl) (by unfold maxLen; omega) (by omega) ?_; intro va2 vc2 w7 G7 h1 h2; have I7 := Lib.hid (I6.out.adv h2 (fun _ e => .inl e) (by decide) (by decide)); have B7 := Lib.hid h1; have R7 := Lib.hid (R6.out.adv h2 (by decide)); have x7 := block_cell I7.out.blk 0 _ rfl; have f7 := block_free I7.out.blk 0; clear h1 h2))
        all_goals
          go_wp2_with fail
          go_roundw
          case rel =>
            have hh : BanksAre w7 G7 (m.banks.take (k + 1)) (cs ++ [.int .i64 kv, .slice da 16384 dc]) := by
              rw [List.take_add_one, HBR.out.2.2.1]
              exact BanksAre.snoc ⟨da, dc, rfl, R7.out⟩ I7.out.has
            exact ⟨k + 1, by simp, by omega, G7, va2, vc2, _, I7.out.put va2 vc2 _ hh, B7.out.adv ((Adv.refl (fun o => o = 1000) w7 G7).setCell (p := ⟨x, 0, none⟩) I7.out.own _) (by decide)⟩
          case measure => simp only [intOf]; omega
      · obtain rfl : k = 2 := by omega
        have y0 := block_cell HI.out.blk 0 _ rfl
        have y1 := block_cell HI.out.blk 1 _ rfl
        have y2 := block_cell HI.out.blk 2 _ rfl
        have y3 := block_cell HI.out.blk 3 _ rfl
        have y4 := block_cell HI.out.blk 4 _ rfl
        have y5 := block_cell HI.out.blk 5 _ rfl
        have y6 := block_cell HI.out.blk 6 _ rfl
        have y7 := block_cell HI.out.blk 7 _ rfl
        have z0 := block_cell HI.out.res 0 _ rfl
        have z1 := block_cell HI.out.res 1 _ rfl
        have z2 := block_cell HI.out.res 2 _ rfl
        have z3 := block_cell HI.out.res 3 _ rfl
        have z4 := block_cell HI.out.res 4 _ rfl
        have z5 := block_cell HI.out.res 5 _ rfl
        have z6 := block_cell HI.out.res 6 _ rfl
        have z7 := block_cell HI.out.res 7 _ rfl
        have zf := block_free HI.out.res
        have hne : x ≠ w.heap.size := by have := HI.out.new; omega
        go_wp2_with fail
        have hF := put8 HI.out.res (.slice ba 2 bc) (.slice ra 16384 rc) (.slice (some ⟨sb, 0, none⟩) 3072 3072) (.int .u8 m.chosen) (.int .u8 m.pad) (.int .u16 m.pitch) (.int .u8 m.volume) (.int .u16 m.time)
        have o8 := own8 (w := wr) (G := Gr) w.heap.size HI.out.rown (.slice ba 2 bc) (.slice ra 16384 rc) (.slice (some ⟨sb, 0, none⟩) 3072 3072) (.int .u8 m.chosen) (.int .u8 m.pad) (.int .u16 m.pitch) (.int .u8 m.volume) (.int .u16 m.time)
        refine bodyPost_ret (v := imageV ba 2 bc ra rc sb m) (by simp [results, Tryz.results82, go_sem, imageV, z0, z1, z2, z3, z4, z5, z6, z7]) rfl ⟨ba, bc, ra, rc, sb, Gr, rfl, HI.out.ad.trans (o8.mono fun _ e => .inr (.inr e)), HI.out.ram.adv o8 (by decide), HI.out.scr.adv o8 (fun ad e => by cases e; rw [HI.out.sg.1]; decide), ⟨HI.out.sg.1, Nat.lt_of_lt_of_le HI.out.sg.2 o8.size⟩, ?_⟩
        have hh := HI.out.has
        rw [show m.banks.take 2 = [(k0, b0), (k1, b1)] by rw [hb]; rfl] at hh
        obtain ⟨c0, r0, rfl, hc0, c1, r1, rfl, hc1, h2⟩ := hh
        obtain rfl : r1 = [] := h2
        exact ⟨c0, c1, by have := HBK.out.adv o8 (show ¬ (7 = 1000) by decide); simpa using this, hc0.adv o8 (by decide), hc1.adv o8 (by decide)⟩
end Go.Proofs.YtdnalhjdmlkbmaaGreatDoor
namespace Go.Proofs.YtdnalhjdmlkbmaaGreatDoor
open Go.RowKit
set_option linter.unusedVariables false
/-- The document's memory as it is read. -/
structure RRead (w : World) (D : Nat) (m : MemS) (bs : List Nat) (ba : Option Addr) (bc ra sa : Nat) (ta : Option Addr) (tc : Nat) : Prop where
  head : w.heap[D]? = some (.cells #[.slice ba m.banks.length bc, .slice (some ⟨ra, 0, none⟩) 16384 16384, .slice (some ⟨sa, 0, none⟩) 3072 3072, .int .u8 m.chosen, .int .u8 m.pad, .int .u16 m.pitch, .int .u8 m.volume, .int .u16 m.time, .int .i64 m.cycle, .slice ta m.tones.length tc] 74 (0, 0))
  row : Reads w ba (bankC m.banks bs)
  blen : bs.length = m.banks.length
  bank : ∀ (k : Nat) (p : Int × List Int) (b : Nat), m.banks[k]? = some p → bs[k]? = some b → Reads w (some ⟨b, 0, none⟩) (u8s p.2)
  ram : Reads w (some ⟨ra, 0, none⟩) (u8s m.ram)
  scr : Reads w (some ⟨sa, 0, none⟩) (u8s m.screen)
  tones : Reads w ta (tonesC m.tones)
theorem RRead.adv {S : Nat → Prop} {w w' : World} {G' : Nat → Nat} {D : Nat} {m : MemS} {bs : List Nat} {ba : Option Addr} {bc ra sa : Nat} {ta : Option Addr} {tc : Nat} (h : RRead w D m bs ba bc ra sa ta tc) (ha : Adv S w (fun _ => 0) w' G') (h0 : ¬ S 0) : RRead w' D m bs ba bc ra sa ta tc :=
  ⟨(ha.keep D (Array.getElem?_eq_some_iff.1 h.head).1 h0).trans h.head, h.row.adv ha fun _ _ => h0, h.blen, fun k p b hp hb => (h.bank k p b hp hb).adv ha fun _ _ => h0, h.ram.adv ha fun _ _ => h0, h.scr.adv ha fun _ _ => h0, h.tones.adv ha fun _ _ => h0⟩
theorem RMx.read {w : World} {G : Nat → Nat} {d D ra sa : Nat} {bs : List Nat} {bv tv : Value} {m : MemS} (h : RMx w G d D ra sa bs bv tv m) : ∃ ba bc ta tc, RRead w D m bs ba bc ra sa ta tc := by
  obtain ⟨ba, bc, rfl, _⟩ := h.row.slice
  obtain ⟨ta, tc, rfl, _⟩ := h.tones.slice
  exact ⟨ba, bc, ta, tc, h.head, h.row.reads, h.blen, fun k p b hp hb => (h.bank k p b hp hb).reads, h.ram.reads, h.scr.reads, h.tones.reads⟩
theorem RM.read {w : World} {G : Nat → Nat} {d D : Nat} {m : MemS} (h : RM w G d D m) : ∃ bs ba bc ra sa ta tc, RRead w D m bs ba bc ra sa ta tc := by
  obtain ⟨ra, sa, bs, bv, tv, h⟩ := h
  obtain ⟨ba, bc, ta, tc, h⟩ := h.read
  exact ⟨bs, ba, bc, ra, sa, ta, tc, h⟩
theorem bankC_get : ∀ (l : List (Int × List Int)) (bs : List Nat) (k : Nat) (p : Int × List Int) (b : Nat), l[k]? = some p → bs[k]? = some b → (bankC l bs)[k * 2]? = some (.int .i64 p.1) ∧ (bankC l bs)[k * 2 + 1]? = some (.slice (some ⟨b, 0, none⟩) 16384 16384)
  | [], _, _, _, _, h, _ => by simp at h
  | _ :: _, [], _, _, _, _, h => by simp at h
  | x :: l, y :: bs, 0, p, b, hp, hb => by
    simp at hp hb
    subst hp
    subst hb
    exact ⟨rfl, rfl⟩
  | x :: l, y :: bs, k + 1, p, b, hp, hb => by
    have h := bankC_get l bs k p b (by simpa using hp) (by simpa using hb)
    have e : bankC (x :: l) (y :: bs) = .int .i64 x.1 :: .slice (some ⟨y, 0, none⟩) 16384 16384 :: bankC l bs := rfl
    rw [e, show (k + 1) * 2 = k * 2 + 1 + 1 from by omega]
    simpa using h
theorem RRead.bankIn {w : World} {D : Nat} {m : MemS} {bs : List Nat} {ba : Option Addr} {bc ra sa : Nat} {ta : Option Addr} {tc : Nat} (hm : MemOk m) (h : RRead w D m bs ba bc ra sa ta tc) : BankIn w ba m.banks := by
  intro k p hp
  have hk : k < bs.length := by rw [h.blen]; exact (List.getElem?_eq_some_iff.1 hp).1
  obtain ⟨b, hb⟩ : ∃ b, bs[k]? = some b := ⟨_, List.getElem?_eq_getElem hk⟩
  obtain ⟨g1, g2⟩ := bankC_get _ _ k p b hp hb
  obtain ⟨g, o, hg, hc, _⟩ := h.row.some (by intro e; rw [e] at g1; simp at g1)
  refine ⟨g, o, some ⟨b, 0, none⟩, 16384, hg, hc _ _ g1, ?_, h.bank k p b hp hb⟩
  rw [hm.banks p (List.mem_of_getElem? hp)]
  exact hc _ _ g2
/-- A copy of m on its way: k of its banks. -/
structure CMx (w : World) (G : Nat → Nat) (C : Nat) (bs : List Nat) (bv rv sv tv : Value) (m : MemS) (k : Nat) : Prop where
  head : w.heap[C]? = some (.cells #[bv, rv, sv, .int .u8 m.chosen, .int .u8 m.pad, .int .u16 m.pitch, .int .u8 m.volume, .int .u16 m.time, .int .i64 m.cycle, tv] 74 (0, 0))
  hown : G C = 6
  row : Row 47 2 w G 7 bv k (bankC (m.banks.take k) bs)
  blen : bs.length = k
  bank : ∀ (j : Nat) (p : Int × List Int) (b : Nat), (m.banks.take k)[j]? = some p → bs[j]? = some b → Row 5 1 w G 8 (.slice (some ⟨b, 0, none⟩) 16384 16384) 16384 (u8s p.2)
  nodup : bs.Nodup
theorem CMx.adv {S : Nat → Prop} {w w' : World} {G G' : Nat → Nat} {C : Nat} {bs : List Nat} {bv rv sv tv : Value} {m : MemS} {k : Nat} (h : CMx w G C bs bv rv sv tv m k) (ha : Adv S w G w' G') (h6 : ¬ S 6) (h7 : ¬ S 7) (h8 : ¬ S 8) : CMx w' G' C bs bv rv sv tv m k := by
  have hl : C < w.heap.size := (Array.getElem?_eq_some_iff.1 h.head).1
  exact ⟨(ha.keep C hl (by rw [h.hown]; exact h6)).trans h.head, (ha.own C hl).trans h.hown, h.row.adv ha h7, h.blen, fun j p b hp hb => (h.bank j p b hp hb).adv ha h8, h.nodup⟩
theorem CMx.more {w w' : World} {G G' : Nat → Nat} {C fb : Nat} {bs : List Nat} {bv bv' rv sv tv : Value} {m : MemS} {k : Nat} {p : Int × List Int} (h : CMx w G C bs bv rv sv tv m k) (hp : m.banks[k]? = some p)
    (ha : Adv (fun b => b = 6 ∨ b = 7) w G w' G')
    (hh : w'.heap[C]? = some (.cells #[bv', rv, sv, .int .u8 m.chosen, .int .u8 m.pad, .int .u16 m.pitch, .int .u8 m.volume, .int .u16 m.time, .int .i64 m.cycle, tv] 74 (0, 0))) (hG : G' C = 6)
    (hr : Row 47 2 w' G' 7 bv' (k + 1) (bankC (m.banks.take k) bs ++ [.int .i64 p.1, .slice (some ⟨fb, 0, none⟩) 16384 16384]))
    (hb : Row 5 1 w' G' 8 (.slice (some ⟨fb, 0, none⟩) 16384 16384) 16384 (u8s p.2)) (hf : w.heap.size ≤ fb) : CMx w' G' C (bs ++ [fb]) bv' rv sv tv m (k + 1) := by
  have hkl : k < m.banks.length := (List.getElem?_eq_some_iff.1 hp).1
  have hlen : (m.banks.take k).length = k := by simp; omega
  have hold : ∀ b ∈ bs, b < w.heap.size := by
    intro b hb
    obtain ⟨j, hj⟩ := List.getElem?_of_mem hb
    have hjl : j < bs.length := (List.getElem?_eq_some_iff.1 hj).1
    exact ((h.bank j _ b (List.getElem?_eq_getElem (by rw [hlen, ← h.blen]; exact hjl)) hj).at (by omega)).1
  have ht : m.banks.take (k + 1) = m.banks.take k ++ [p] := by rw [List.take_add_one, hp]; rfl
  refine ⟨hh, hG, ?_, by simp [h.blen], ?_, ?_⟩
  · rw [ht, bankC_snoc (by rw [hlen, h.blen])]
    exact hr
  · intro j q b hq hb'
    rw [ht] at hq
    by_cases hj : j < bs.length
    · rw [List.getElem?_append_left (by rw [hlen, ← h.blen]; exact hj)] at hq
      rw [List.getElem?_append_left hj] at hb'
      exact (h.bank j q b hq hb').adv ha (by omega)
    · rw [List.getElem?_append_right (by omega)] at hb'
      have hj0 : j - bs.length = 0 := by
        have := (List.getElem?_eq_some_iff.1 hb').1
        simp at this; omega
      obtain rfl : j = k := by have := h.blen; omega
      rw [hj0] at hb'
      rw [List.getElem?_append_right (by omega), hlen, Nat.sub_self] at hq
      simp at hb' hq
      subst hb'
      rw [← hq]
      exact hb
  · rw [List.nodup_append]
    refine ⟨h.nodup, by simp, fun x hx y hy => ?_⟩
    rw [List.mem_singleton] at hy
    have := hold x hx
    omega
theorem CMx.put1 {w : World} {G : Nat → Nat} {C : Nat} {bs : List Nat} {bv rv sv tv : Value} {m : MemS} {k : Nat} (h : CMx w G C bs bv rv sv tv m k) (v : Value) : Adv (fun b => b = 6) w G (w.setCell ⟨C, 1, none⟩ v) G ∧ CMx (w.setCell ⟨C, 1, none⟩ v) G C bs bv v sv tv m k := by
  have ha := (Adv.refl (fun b => b = 6) w G).setCell (p := ⟨C, 1, none⟩) h.hown v
  refine ⟨ha, ?_, h.hown, h.row.adv ha (by omega), h.blen, fun j p b hp hb => (h.bank j p b hp hb).adv ha (by omega), h.nodup⟩
  simp only [World.setCell, Array.getElem?_modify, h.head]; simp
theorem CMx.put2 {w : World} {G : Nat → Nat} {C : Nat} {bs : List Nat} {bv rv sv tv : Value} {m : MemS} {k : Nat} (h : CMx w G C bs bv rv sv tv m k) (v : Value) : Adv (fun b => b = 6) w G (w.setCell ⟨C, 2, none⟩ v) G ∧ CMx (w.setCell ⟨C, 2, none⟩ v) G C bs bv rv v tv m k := by
  have ha := (Adv.refl (fun b => b = 6) w G).setCell (p := ⟨C, 2, none⟩) h.hown v
  refine ⟨ha, ?_, h.hown, h.row.adv ha (by omega), h.blen, fun j p b hp hb => (h.bank j p b hp hb).adv ha (by omega), h.nodup⟩
  simp only [World.setCell, Array.getElem?_modify, h.head]; simp
theorem CMx.put9 {w : World} {G : Nat → Nat} {C : Nat} {bs : List Nat} {bv rv sv tv : Value} {m : MemS} {k : Nat} (h : CMx w G C bs bv rv sv tv m k) (v : Value) : Adv (fun b => b = 6) w G (w.setCell ⟨C, 9, none⟩ v) G ∧ CMx (w.setCell ⟨C, 9, none⟩ v) G C bs bv rv sv v m k := by
  have ha := (Adv.refl (fun b => b = 6) w G).setCell (p := ⟨C, 9, none⟩) h.hown v
  refine ⟨ha, ?_, h.hown, h.row.adv ha (by omega), h.blen, fun j p b hp hb => (h.bank j p b hp hb).adv ha (by omega), h.nodup⟩
  simp only [World.setCell, Array.getElem?_modify, h.head]; simp
theorem CMx.olds {w : World} {G : Nat → Nat} {C : Nat} {bs : List Nat} {bv rv sv tv : Value} {m : MemS} {k : Nat} (h : CMx w G C bs bv rv sv tv m k) (hk : k ≤ m.banks.length) : ∀ b ∈ bs, b < w.heap.size := by
  intro b hb
  obtain ⟨j, hj⟩ := List.getElem?_of_mem hb
  have hjl : j < bs.length := (List.getElem?_eq_some_iff.1 hj).1
  have hl := h.blen
  exact ((h.bank j _ b (List.getElem?_eq_getElem (by rw [List.length_take]; omega)) hj).at (by omega)).1
theorem CMx.done {w : World} {G : Nat → Nat} {C rb sb : Nat} {bs : List Nat} {bv tv : Value} {m : MemS} (h : CMx w G C bs bv (.slice (some ⟨rb, 0, none⟩) 16384 16384) (.slice (some ⟨sb, 0, none⟩) 3072 3072) tv m m.banks.length)
    (hr : Row 5 1 w G 8 (.slice (some ⟨rb, 0, none⟩) 16384 16384) 16384 (u8s m.ram)) (hs : Row 5 1 w G 8 (.slice (some ⟨sb, 0, none⟩) 3072 3072) 3072 (u8s m.screen)) (ht : Row 152 3 w G 9 tv m.tones.length (tonesC m.tones))
    (hn : (rb :: sb :: bs).Nodup) : RMx w G 6 C rb sb bs bv tv m := by
  have e : m.banks.take m.banks.length = m.banks := List.take_length
  have h1 := h.row
  have h2 := h.bank
  rw [e] at h1 h2
  exact ⟨h.head, h.hown, h1, h.blen, hr, hs, h2, ht, hn⟩
theorem pad30 (l : List Int) : u8s (l ++ List.replicate (3072 - 3072) 0) = u8s l := by rw [Nat.sub_self, List.replicate_zero, List.append_nil]
theorem pad0 {l : List Int} (h : l.length = 16384) : l ++ List.replicate (16384 - l.length) 0 = l := by rw [h]; simp
theorem pad16 (l : List Int) : u8s (l ++ List.replicate (16384 - 16384) 0) = u8s l := by rw [Nat.sub_self, List.replicate_zero, List.append_nil]
def SC (b : Nat) : Prop := b = 7 ∨ b = 9
set_option maxRecDepth 100000 in
set_option maxHeartbeats 2000000 in
theorem refCopy (D : Nat) (m : MemS) (bs0 : List Nat) (ba : Option Addr) (bc ra0 sa0 : Nat) (ta : Option Addr) (tc : Nat) (hm : MemOk m) (hn2 : m.banks.length ≤ 1000000) (ht2 : m.tones.length ≤ 1000000) (w : World) (hin : RRead w D m bs0 ba bc ra0 sa0 ta tc) :
    Calls Tryz.prog 59 #[.pointer (some ⟨D, 0, none⟩)] w fun e w' => ∃ C G', e = .returned (.pointer (some ⟨C, 0, none⟩)) ∧ Adv SC w (fun _ => 0) w' G' ∧ RM w' G' 6 C m ∧ w.heap.size ≤ C := by
  have HIN := Lib.hid hin
  obtain ⟨n, hn⟩ : ∃ n, n = m.banks.length := ⟨_, rfl⟩
  obtain ⟨tn, htn⟩ : ∃ n, n = m.tones.length := ⟨_, rfl⟩
  have h0 := hin.head
  rw [← hn, ← htn] at h0
  rw [← hn] at hn2
  rw [← htn] at ht2
  have hD : D < w.heap.size := (Array.getElem?_eq_some_iff.1 h0).1
  have c0 := block_cell h0 0 _ rfl
  have c1 := block_cell h0 1 _ rfl
  have c2 := block_cell h0 2 _ rfl
  have c3 := block_cell h0 3 _ rfl
  have c4 := block_cell h0 4 _ rfl
  have c5 := block_cell h0 5 _ rfl
  have c6 := block_cell h0 6 _ rfl
  have c7 := block_cell h0 7 _ rfl
  have c8 := block_cell h0 8 _ rfl
  have c9 := block_cell h0 9 _ rfl
  have HN := Lib.hid hn
  have HTN := Lib.hid htn
  have HM := Lib.hid hm
  have HBK := Lib.hid hm.banks
  obtain ⟨i0, hi, hz0, hz1, hz2⟩ := info_parts infoBank
  obtain ⟨j0, hj, hy0, hy1, hy2⟩ := info_parts Tryz.info152
  clear hin h0 hn htn hm
  go_enter Tryz.func59, Tryz.ntmps59
  go_wp2_with fail
  have HA0 := Lib.hid ((Adv.refl SC w (fun _ => 0)).alloc (.cells #[.slice none 0 0, .slice (some ⟨ra0, 0, none⟩) 16384 16384, .slice (some ⟨sa0, 0, none⟩) 3072 3072, .int .u8 m.chosen, .int .u8 m.pad, .int .u16 m.pitch, .int .u8 m.volume, .int .u16 m.time, .int .i64 m.cycle, .slice ta tn tc] 74) 6)
  have HC0 := Lib.hid (show CMx (w.alloc (.cells #[.slice none 0 0, .slice (some ⟨ra0, 0, none⟩) 16384 16384, .slice (some ⟨sa0, 0, none⟩) 3072 3072, .int .u8 m.chosen, .int .u8 m.pad, .int .u16 m.pitch, .int .u8 m.volume, .int .u16 m.time, .int .i64 m.cycle, .slice ta tn tc] 74)) (own1 w (fun _ => 0) 6) w.heap.size [] (.slice none 0 0) (.slice (some ⟨ra0, 0, none⟩) 16384 16384) (.slice (some ⟨sa0, 0, none⟩) 3072 3072) (.slice ta tn tc) m 0 from
    ⟨heap_alloc_new _ _, own1_new _ _ _, Row.nil _ _ _ _ _, rfl, fun j p b hp _ => by rw [List.take_zero] at hp; simp at hp, List.nodup_nil⟩)
  have hs0 : ¬ SC 0 := by unfold SC; omega
  go_loopw [15] (fun v wr => ∃ k : Nat, k ≤ n ∧ v = .int .i64 k ∧ ∃ Gr bs bv, Adv SC w (fun _ => 0) wr Gr ∧ CMx wr Gr w.heap.size bs bv (.slice (some ⟨ra0, 0, none⟩) 16384 16384) (.slice (some ⟨sa0, 0, none⟩) 3072 3072) (.slice ta tn tc) m k) (fun v _ => n - (intOf v).toNat)
  case atStart => exact ⟨0, Nat.zero_le _, rfl, _, _, _, HA0.out, HC0.out⟩
  case round =>
    obtain ⟨k, hk, rfl, Gr, bs, bv, h1, h2⟩ := hrel
    by_cases hlt : k < n
    · obtain ⟨p, hp⟩ : ∃ p, m.banks[k]? = some p := ⟨m.banks[k]'(by rw [← HN.out]; exact hlt), by simp⟩
      have hp16 := HBK.out p (List.mem_of_getElem? hp)
      obtain ⟨b, o, da, dc, hla, c1b, c2b, hr⟩ := (HIN.out.adv h1 hs0).bankIn HM.out k p hp
      rw [hp16] at c2b
      have hb := World.block_lt_of_cell? wr _ c1b
      have HX := Lib.hid h2
      have hh := h2.head
      obtain ⟨xs, hxs⟩ : ∃ xs, xs = bankC (m.banks.take k) bs := ⟨_, rfl⟩
      have hrow := h2.row
      rw [← hxs] at hrow
      have HXS := Lib.hid hxs
      have HKP := Lib.hid hp
      obtain ⟨va, vc, rfl, hvc, hkc, hva⟩ := hrow.slice
      have hDl : w.heap.size < wr.heap.size := (Array.getElem?_eq_some_iff.1 hh).1
      have cD := block_cell hh 0 _ rfl
      have HA3 := Lib.hid h1
      have HH := Lib.hid hh
      have HGD := Lib.hid h2.hown
      have HROW := Lib.hid hrow
      have HR := Lib.hid hr
      have HP16 := Lib.hid hp16
      rw [hla]
      clear h1 h2 hp hr hh hrow hxs hp16
      go_wp2_with fail
      have HRd := Lib.hid (show Reads (wr.alloc (.cells #[.int .i64 p.1, .slice da 16384 dc] 47)).drew da (u8s p.2) from HR.out.alloc _)
      have hA5 := ((Adv.refl (fun _ => False) wr Gr).alloc (.cells #[.int .i64 p.1, .slice da 16384 dc] 47) 1000).drew
      have HROWa := Lib.hid (HROW.out.adv hA5 id)
      have hDa := (hA5.keep w.heap.size hDl id).trans HH.out
      have hGa := (hA5.own w.heap.size hDl).trans HGD.out
      have HDa := Lib.hid (And.intro hDa hGa)
      have hDz := hA5.size
      have HCD := Lib.hid (block_cell hDa 0 _ rfl)
      have hNa : (wr.alloc (.cells #[.int .i64 p.1, .slice da 16384 dc] 47)).drew.heap[wr.heap.size]? = some (.cells #[.int .i64 p.1, .slice da 16384 dc] 47 (0, 0)) := heap_alloc_new wr _
      have HCN := Lib.hid (block_cell hNa 0 _ rfl)
      clear hA5 hDa hGa hNa
      have hone : ∀ (x : Int) (y : Option Addr), ∀ u ∈ [Value.int .i64 x, .slice y 16384 16384], u.oneCell' = true := by
        intro x y u hu; simp at hu; rcases hu with rfl | rfl <;> rfl
      go_region_law (first
        | (refine step_append_row rfl (.tmp 20) (.tmp 27) 33 rfl 47 i0 (.agg #[.int .i64 0, .slice none 0 0]) 2 32 Tryz.underlying33 hi hz0 hz1 hz2 rfl (by decide) _ 7 va k vc xs rfl HROW2.out ⟨w2.heap.size, 0, none⟩ 1 1 [.int .i64 p.1, .slice (some ⟨fb, 0, none⟩) 16384 16384] rfl rfl (new_cells w2 _ _) (hone _ _) (by unfold maxLen; omega) (by omega) ?_; (intro va' vc' w3 G3 hr3 ha3; have HR3 := Lib.hid hr3; have HBZ := Lib.hid (HBY.out.adv ha3 (by omega)); have HA3x := Lib.hid ha3; have HD3 := Lib.hid (And.intro ((ha3.keep w.heap.size (by simp; omega) (by rw [HDb.out.2]; omega)).trans HDb.out.1) ((ha3.own w.heap.size (by simp; omega)).trans HDb.out.2)); have cD3 := block_cell HD3.out.1 0 _ rfl; have fD3 := block_free HD3.out.1 0; clear hr3 ha3))
        | (go_simp; go_at_call 96; refine (full16 (own1 wr Gr 1000) 8 da 16384 dc p.2 _ HP16.out (Nat.le_refl _) HRd.out).mono ?_; rintro e w2 ⟨fb, G2, rfl, hfb, ha2, hr2⟩; rw [pad16] at hr2; have hA6 := ha2.alloc (.cells #[.int .i64 p.1, .slice (some ⟨fb, 0, none⟩) 16384 16384] 47) 1000; have HBY := Lib.hid (hr2.adv ((Adv.refl (fun _ => False) w2 G2).alloc (.cells #[.int .i64 p.1, .slice (some ⟨fb, 0, none⟩) 16384 16384] 47) 1000) id); have HFB := Lib.hid hfb; have HROW2 := Lib.hid (HROWa.out.adv hA6 id); have HDb := Lib.hid (And.intro ((hA6.keep w.heap.size (by omega) id).trans HDa.out.1) ((hA6.own w.heap.size (by omega)).trans HDa.out.2)); have HA6 := Lib.hid hA6; have hs2 := ha2.size; have hDl2 : w.heap.size < w2.heap.size := (by omega); have cD2 := ha2.cell_some HCD.out id; have cN2 := ha2.cell_some HCN.out id; clear hA6 hr2 ha2))
      all_goals
        have hmid := ((((Adv.refl (fun _ => False) wr Gr).alloc (.cells #[.int .i64 p.1, .slice da 16384 dc] 47) 1000).drew.trans HA6.out).mono (T := fun b => b = 6 ∨ b = 7) (fun _ h => h.elim)).trans (HA3x.out.mono (T := fun b => b = 6 ∨ b = 7) fun _ h => .inr h)
        have hset := (Adv.refl (fun b => b = 6) w3 G3).setCell (p := ⟨w.heap.size, 0, none⟩) HD3.out.2 (.slice va' (k + 1) vc')
        have hfin := HA3.out.trans (((((Adv.refl (fun _ => False) wr Gr).alloc (.cells #[.int .i64 p.1, .slice da 16384 dc] 47) 1000).drew.trans HA6.out).mono (T := SC) (fun _ h => h.elim)).trans (HA3x.out.mono (T := SC) fun _ h => .inl h))
        have hrm : CMx (w3.setCell ⟨w.heap.size, 0, none⟩ (.slice va' (k + 1) vc')) G3 w.heap.size (bs ++ [fb]) (.slice va' (k + 1) vc') (.slice (some ⟨ra0, 0, none⟩) 16384 16384) (.slice (some ⟨sa0, 0, none⟩) 3072 3072) (.slice ta tn tc) m (k + 1) := by
          refine HX.out.more HKP.out (hmid.setCell (p := ⟨w.heap.size, 0, none⟩) (.inl HD3.out.2) _) ?_ HD3.out.2 ?_ (HBZ.out.adv hset (by omega)) (by have := HFB.out; simp at this; omega)
          · simp only [World.setCell, Array.getElem?_modify, HD3.out.1]; simp
          · rw [← HXS.out]; exact HR3.out.adv hset (by omega)
        have HF := Lib.hid (And.intro (hfin.setNew (p := ⟨w.heap.size, 0, none⟩) (Nat.le_refl _) (.slice va' (k + 1) vc')) hrm)
        clear hfin hrm hmid hset
        go_wp2
        go_roundw
        case rel => exact ⟨k + 1, by omega, by go_num, G3, _, _, HF.out.1, HF.out.2⟩
        case measure => simp [intOf]; omega
    · obtain rfl : n = k := by omega
      have HA4 := Lib.hid h1
      have HX4 := Lib.hid h2
      have hD4 : D < wr.heap.size := Nat.lt_of_lt_of_le hD h1.size
      have hC4 : w.heap.size < wr.heap.size := (Array.getElem?_eq_some_iff.1 h2.head).1
      have hh := (HIN.out.adv h1 hs0).head
      have d1 := block_cell hh 1 _ rfl
      clear h1 h2 hh
      go_wp2_with fail
      refine (full16 Gr 8 (some ⟨ra0, 0, none⟩) 16384 16384 m.ram wr HM.out.ram (Nat.le_refl _) (HIN.out.adv HA4.out hs0).ram).mono ?_
      rintro e w2 ⟨rb, G2, rfl, hrb, ha2, hr2⟩
      rw [pad16] at hr2
      have HR2 := Lib.hid (And.intro hr2 hrb)
      have HRL := Lib.hid (hr2.at (by omega)).1
      have hx := HX4.out.adv ha2 id id id
      have HA5 := Lib.hid ((HA4.out.trans (ha2.mono (T := SC) fun _ h => h.elim)).setNew (p := ⟨w.heap.size, 1, none⟩) (Nat.le_refl _) (.slice (some ⟨rb, 0, none⟩) 16384 16384))
      have e1 := block_cell hx.head 1 _ rfl
      have f1 := block_free hx.head 1
      have HX5 := Lib.hid (hx.put1 (.slice (some ⟨rb, 0, none⟩) 16384 16384))
      have d2 := block_cell (HIN.out.adv HA5.out hs0).head 2 _ rfl
      clear hr2 hrb ha2 hx d1
      go_wp2_with fail
      refine (full_any G2 8 (some ⟨sa0, 0, none⟩) 3072 3072 3072 m.screen _ HM.out.screen (Nat.le_refl _) (by omega) (by omega) (HIN.out.adv HA5.out hs0).scr).mono ?_
      rintro e w3 ⟨sb, G3, rfl, hsb, ha3, hr3⟩
      rw [pad30] at hr3
      have HR3 := Lib.hid (And.intro hr3 hsb)
      have HR2 := Lib.hid (And.intro ((HR2.out.1.adv HX5.out.1 (by omega)).adv ha3 id) HR2.out.2)
      have hx := HX5.out.2.adv ha3 id id id
      have HA6 := Lib.hid ((HA5.out.trans (ha3.mono (T := SC) fun _ h => h.elim)).setNew (p := ⟨w.heap.size, 2, none⟩) (Nat.le_refl _) (.slice (some ⟨sb, 0, none⟩) 3072 3072))
      have e2 := block_cell hx.head 2 _ rfl
      have f2 := block_free hx.head 2
      have HX6 := Lib.hid (hx.put2 (.slice (some ⟨sb, 0, none⟩) 3072 3072))
      have hh := (HIN.out.adv HA6.out hs0).head
      have d9 := block_cell (((Adv.refl (fun _ => False) (w3.setCell ⟨w.heap.size, 2, none⟩ (.slice (some ⟨sb, 0, none⟩) 3072 3072)) G3).alloc (.cells #[] 152) 9).keep D (Array.getElem?_eq_some_iff.1 hh).1 id |>.trans hh) 9 _ rfl
      rw [← HTN.out] at d9
      have HT6 := Lib.hid (((HIN.out.adv HA6.out hs0).tones).alloc (.cells #[] 152))
      clear hr3 hsb ha3 hx e1 f1 d2 hh
      have hw3 := Row.new (w3.setCell ⟨w.heap.size, 2, none⟩ (.slice (some ⟨sb, 0, none⟩) 3072 3072)) G3 152 3 9 0 [] (Nat.zero_le _) rfl
      rw [show (w3.setCell ⟨w.heap.size, 2, none⟩ (.slice (some ⟨sb, 0, none⟩) 3072 3072)).heap.size = w3.heap.size from by simp [World.setCell]] at hw3
      have HW3 := Lib.hid hw3
      clear hw3
      go_wp2_with (at_builtin; refine wpList_append_reads rfl (.tmp 43) (.tmp 47) 72 rfl 152 j0 (.agg #[.int .i64 0, .int .u16 0, .int .u8 0]) 3 16 Tryz.underlying72 hj hy0 hy1 hy2 rfl (by decide) _ 9 _ 0 0 [] rfl HW3.out ta tn tc (tonesC m.tones) rfl (by rw [tonesC_length, ← HTN.out]) HT6.out (tonesC_one m.tones) (by unfold maxLen; omega) (by omega) ?_; intro va1 vc1 w4 G4 h1 h2; rw [Nat.zero_add, List.nil_append] at h1; rw [Nat.zero_add]; have HR4 := Lib.hid h1; have HA7 := Lib.hid ((HA6.out.alloc (.cells #[] 152) 9).trans (h2.mono (T := SC) (fun _ h => .inr h))); have HX7 := Lib.hid (((HX6.out.2.adv ((Adv.refl (fun _ => False) _ G3).alloc (.cells #[] 152) 9) id id id).adv h2 (by omega) (by omega) (by omega))); have HR5 := Lib.hid (((HR2.out.1.adv HX6.out.1 (by omega)).adv ((Adv.refl (fun _ => False) _ G3).alloc (.cells #[] 152) 9) id).adv h2 (by omega)); have HR6 := Lib.hid (((HR3.out.1.adv HX6.out.1 (by omega)).adv ((Adv.refl (fun _ => False) _ G3).alloc (.cells #[] 152) 9) id).adv h2 (by omega)); have e9 := block_cell HX7.out.head 9 _ rfl; have f9 := block_free HX7.out.head 9; clear h1 h2 d9 e2 f2)
      go_ret
      have h8 := HX7.out.put9 (.slice va1 tn vc1)
      have ho := HX4.out.olds (by rw [← HN.out]; exact Nat.le_refl _)
      have h1 := HR2.out.2
      have h2 := HR3.out.2
      have h3 := HRL.out
      simp only [World.setCell, Array.size_modify] at h2
      refine ⟨w.heap.size, G4, rfl, HA7.out.setNew (p := ⟨w.heap.size, 9, none⟩) (Nat.le_refl _) _, ⟨rb, sb, bs, bv, .slice va1 tn vc1, ?_⟩, Nat.le_refl _⟩
      refine CMx.done (by rw [← HN.out]; exact h8.2) (HR5.out.adv h8.1 (by omega)) (HR6.out.adv h8.1 (by omega)) (by rw [← HTN.out]; exact HR4.out.adv h8.1 (by omega)) ?_
      rw [List.nodup_cons, List.nodup_cons]
      refine ⟨?_, ?_, HX4.out.nodup⟩
      · intro hm
        rcases List.mem_cons.1 hm with e | e
        · omega
        · have := ho _ e; omega
      · intro hm
        have := ho _ hm
        omega
end Go.Proofs.YtdnalhjdmlkbmaaGreatDoor
namespace Go.Proofs.YtdnalhjdmlkbmaaGreatDoor
open Go.RowKit
set_option linter.unusedVariables false
/-- An image's value, and what it reads as. -/
def ImgIs (w : World) (v : Value) (m : MemS) : Prop := ∃ ba bc ra rc sa sc, v = .agg #[.slice ba m.banks.length bc, .slice ra 16384 rc, .slice sa 3072 sc, .int .u8 m.chosen, .int .u8 m.pad, .int .u16 m.pitch, .int .u8 m.volume, .int .u16 m.time] ∧
  BankIn w ba m.banks ∧ Reads w ra (u8s m.ram) ∧ Reads w sa (u8s m.screen)
theorem BankIn.adv0 {S : Nat → Prop} {w w' : World} {G' : Nat → Nat} {la : Option Addr} {l : List (Int × List Int)} (h : BankIn w la l) (ha : Adv S w (fun _ => 0) w' G') (h0 : ¬ S 0) : BankIn w' la l := by
  intro k p hp
  obtain ⟨b, o, da, dc, e, c1, c2, hr⟩ := h k p hp
  exact ⟨b, o, da, dc, e, ha.cell_some c1 h0, ha.cell_some c2 h0, hr.adv ha fun _ _ => h0⟩
theorem ImgIs.adv {S : Nat → Prop} {w w' : World} {G' : Nat → Nat} {v : Value} {m : MemS} (h : ImgIs w v m) (ha : Adv S w (fun _ => 0) w' G') (h0 : ¬ S 0) : ImgIs w' v m := by
  obtain ⟨ba, bc, ra, rc, sa, sc, e, h1, h2, h3⟩ := h
  exact ⟨ba, bc, ra, rc, sa, sc, e, h1.adv0 ha h0, h2.adv ha fun _ _ => h0, h3.adv ha fun _ _ => h0⟩
theorem RMx.readS {w : World} {G : Nat → Nat} {d D ra sa : Nat} {bs : List Nat} {ba : Option Addr} {bc : Nat} {ta : Option Addr} {tc : Nat} {m : MemS} (h : RMx w G d D ra sa bs (.slice ba m.banks.length bc) (.slice ta m.tones.length tc) m) : RRead w D m bs ba bc ra sa ta tc :=
  ⟨h.head, h.row.reads, h.blen, fun k p b hp hb => (h.bank k p b hp hb).reads, h.ram.reads, h.scr.reads, h.tones.reads⟩
def SI (b : Nat) : Prop := b = 7 ∨ b = 9 ∨ b = 1000
theorem own1_zero (w : World) : own1 w (fun _ => 0) 0 = fun _ => 0 := by funext b; simp [own1]
theorem own8l {w : World} {G : Nat → Nat} (l b : Nat) (hb : G b = l) (v0 v1 v2 v3 v4 v5 v6 v7 : Value) : Adv (fun o => o = l) w G ((((((((w.setCell ⟨b, 0, none⟩ v0).setCell ⟨b, 1, none⟩ v1).setCell ⟨b, 2, none⟩ v2).setCell ⟨b, 3, none⟩ v3).setCell ⟨b, 4, none⟩ v4).setCell ⟨b, 5, none⟩ v5).setCell ⟨b, 6, none⟩ v6).setCell ⟨b, 7, none⟩ v7) G :=
  ((((((((Adv.refl (fun o => o = l) w G).setCell (p := ⟨b, 0, none⟩) hb v0).setCell (p := ⟨b, 1, none⟩) hb v1).setCell (p := ⟨b, 2, none⟩) hb v2).setCell (p := ⟨b, 3, none⟩) hb v3).setCell (p := ⟨b, 4, none⟩) hb v4).setCell (p := ⟨b, 5, none⟩) hb v5).setCell (p := ⟨b, 6, none⟩) hb v6).setCell (p := ⟨b, 7, none⟩) hb v7
set_option maxRecDepth 100000 in
set_option maxHeartbeats 1000000 in
theorem refImage (D : Nat) (m : MemS) (hm : MemOk m) (hn2 : m.banks.length ≤ 1000000) (ht2 : m.tones.length ≤ 1000000) (bs0 : List Nat) (ba : Option Addr) (bc ra0 sa0 : Nat) (ta : Option Addr) (tc : Nat) (w : World) (hin : RRead w D m bs0 ba bc ra0 sa0 ta tc) :
    Calls Tryz.prog 74 #[.pointer (some ⟨D, 0, none⟩)] w fun e w' => ∃ v G', e = .returned v ∧ Adv SI w (fun _ => 0) w' G' ∧ ImgIs w' v m := by
  have HIN := Lib.hid hin
  have HM := Lib.hid hm
  obtain ⟨wa, hwa⟩ : ∃ v, v = w.alloc (.cells #[.slice none 0 0, .slice none 0 0, .slice none 0 0, .int .u8 0, .int .u8 0, .int .u16 0, .int .u8 0, .int .u16 0] 163) := ⟨_, rfl⟩
  have ha := (Adv.refl SI w (fun _ => 0)).alloc (.cells #[.slice none 0 0, .slice none 0 0, .slice none 0 0, .int .u8 0, .int .u8 0, .int .u16 0, .int .u8 0, .int .u16 0] 163) 0
  rw [own1_zero] at ha
  have hb : (w.alloc (.cells #[.slice none 0 0, .slice none 0 0, .slice none 0 0, .int .u8 0, .int .u8 0, .int .u16 0, .int .u8 0, .int .u16 0] 163)).heap[w.heap.size]? = some (.cells #[.slice none 0 0, .slice none 0 0, .slice none 0 0, .int .u8 0, .int .u8 0, .int .u16 0, .int .u8 0, .int .u16 0] 163 (0, 0)) := heap_alloc_new w _
  have hs0 : ¬ SI 0 := by unfold SI; omega
  have hc0 : ¬ SC 0 := by unfold SC; omega
  rw [← hwa] at ha hb
  have hsz : w.heap.size < wa.heap.size := (Array.getElem?_eq_some_iff.1 hb).1
  have HB := Lib.hid hb
  have HA := Lib.hid ha
  clear hin hm ha hb
  go_enter Tryz.func74, Tryz.ntmps74
  go_wp2_with fail
  rw [← hwa]
  have HR := Lib.hid (HIN.out.adv HA.out hs0)
  refine (refCopy D m bs0 ba bc ra0 sa0 ta tc HM.out hn2 ht2 wa HR.out).mono ?_
  rintro e w2 ⟨C, G2, rfl, ha2, hr2, hC⟩
  obtain ⟨ra, sa, bs, bv, tv, hr2⟩ := hr2
  have hg2 : G2 w.heap.size = 0 := ha2.own _ hsz
  obtain ⟨ba2, bc2, rfl, _⟩ := hr2.row.slice
  obtain ⟨ta2, tc2, rfl, _⟩ := hr2.tones.slice
  have hh := hr2.head
  obtain ⟨n, hn⟩ : ∃ n, n = m.banks.length := ⟨_, rfl⟩
  rw [← hn] at hh
  have HN := Lib.hid hn
  have hb2 := (ha2.keep w.heap.size hsz hc0).trans HB.out
  have c0 := block_cell hh 0 _ rfl
  have c1 := block_cell hh 1 _ rfl
  have c2 := block_cell hh 2 _ rfl
  have c3 := block_cell hh 3 _ rfl
  have c4 := block_cell hh 4 _ rfl
  have c5 := block_cell hh 5 _ rfl
  have c6 := block_cell hh 6 _ rfl
  have c7 := block_cell hh 7 _ rfl
  have HB2 := Lib.hid hb2
  have HA2 := Lib.hid ha2
  have HRM := Lib.hid hr2
  clear ha2 hr2 hh hn hb2
  go_wp2_with fail
  go_still_tail 33, (by kernel_rfl)
  change wpList _ _ _ _ _ w2.drew
  have hz := (Adv.refl (fun _ => False) w2 G2).drew
  have hb3 := HB2.out
  change w2.drew.heap[w.heap.size]? = _ at hb3
  obtain ⟨w3, hw3⟩ : ∃ v, v = w2.drew := ⟨_, rfl⟩
  rw [← hw3] at hz hb3 ⊢
  clear hw3
  have r0 := block_cell hb3 0 _ rfl
  have r1 := block_cell hb3 1 _ rfl
  have r2 := block_cell hb3 2 _ rfl
  have r3 := block_cell hb3 3 _ rfl
  have r4 := block_cell hb3 4 _ rfl
  have r5 := block_cell hb3 5 _ rfl
  have r6 := block_cell hb3 6 _ rfl
  have r7 := block_cell hb3 7 _ rfl
  have zf := block_free hb3
  go_wp2
  have o8 := own8l (w := w3) (G := G2) 0 w.heap.size hg2 (.slice ba2 n bc2) (.slice (some ⟨ra, 0, none⟩) 16384 16384) (.slice (some ⟨sa, 0, none⟩) 3072 3072) (.int .u8 m.chosen) (.int .u8 m.pad) (.int .u16 m.pitch) (.int .u8 m.volume) (.int .u16 m.time)
  have h8 := hid8 (HA.out.trans ((HA2.out.trans (hz.mono fun _ h => h.elim)).mono (T := SI) fun b h => by unfold SC at h; unfold SI; omega)) w.heap.size (Nat.le_refl _) (.slice ba2 n bc2) (.slice (some ⟨ra, 0, none⟩) 16384 16384) (.slice (some ⟨sa, 0, none⟩) 3072 3072) (.int .u8 m.chosen) (.int .u8 m.pad) (.int .u16 m.pitch) (.int .u8 m.volume) (.int .u16 m.time)
  have hrd := ((HRM.out.adv hz (fun _ _ => id)).adv o8 (by omega)).readS
  refine bodyPost_ret (v := .agg #[.slice ba2 m.banks.length bc2, .slice (some ⟨ra, 0, none⟩) 16384 16384, .slice (some ⟨sa, 0, none⟩) 3072 3072, .int .u8 m.chosen, .int .u8 m.pad, .int .u16 m.pitch, .int .u8 m.volume, .int .u16 m.time]) (by rw [← HN.out]; simp [results, Tryz.results74, go_sem, r0, r1, r2, r3, r4, r5, r6, r7]) rfl ⟨_, G2, rfl, h8, ba2, bc2, _, _, _, _, rfl, hrd.bankIn HM.out, hrd.ram, hrd.scr⟩
end Go.Proofs.YtdnalhjdmlkbmaaGreatDoor
namespace Go.Proofs.YtdnalhjdmlkbmaaGreatDoor
open Go.RowKit
set_option linter.unusedVariables false
theorem conv_string {w : World} {a : Option Addr} {l : List Int} {n c : Nat} (h : Reads w a (u8s l)) (hl : l.length = n) (h0 : 0 < n) : (convert 30 9 (.slice a n c)).run Tryz.prog w = .ok (.string (strOfNums l)) w := by
  rcases h with hz | ⟨b, o, e, hh⟩
  · have := congrArg List.length hz
    rw [u8s_length, List.length_nil, hl] at this
    omega
  · subst e
    exact run_convert_bytes_arg w 30 5 Tryz.underlying30 Tryz.underlying5 b o n c l hl (fun i hi => hh i _ (by simp [u8s, List.getD_eq_getElem?_getD, List.getElem?_eq_getElem (show i < l.length by omega)])) 9 Tryz.underlying9
theorem BankIn.drewN {w : World} {la : Option Addr} {l : List (Int × List Int)} (h : BankIn w la l) (z : Nat) : BankIn (w.drewN z) la l := h.adv0 ((Adv.refl (fun _ => False) w (fun _ => 0)).drewN z) id
set_option maxRecDepth 100000 in
set_option maxHeartbeats 1000000 in
theorem sameBanks_yes (ba bb : Option Addr) (n bc bd : Nat) (l : List (Int × List Int)) (hl : l.length = n) (hn : n ≤ 1000000) (h16 : ∀ p ∈ l, p.2.length = 16384) (w : World) (ha : BankIn w ba l) (hb : BankIn w bb l) :
    Calls Tryz.prog 130 #[.slice ba n bc, .slice bb n bd] w fun e w' => e = .returned (.bool true) ∧ ∃ z, w' = w.drewN z := by
  have HL := Lib.hid hl
  have HA := Lib.hid ha
  have HB := Lib.hid hb
  have HC := Lib.hid h16
  clear hl ha hb h16
  go_enter Tryz.func130, Tryz.ntmps130
  go_wp2_with fail
  go_loopw [13] (fun vi wr => ∃ j : Nat, j ≤ n ∧ vi = .int .i64 j ∧ ∃ z, wr = w.drewN z) (fun vi _ => n - (intOf vi).toNat)
  case atStart => exact ⟨0, by omega, rfl, 0, rfl⟩
  case round =>
    obtain ⟨j, hj, rfl, z, rfl⟩ := hrel
    by_cases h : j < n
    · obtain ⟨p, hp⟩ : ∃ p, l[j]? = some p := ⟨l[j]'(by rw [HL.out]; exact h), by simp⟩
      have hp16 := HC.out p (List.mem_of_getElem? hp)
      obtain ⟨b1, o1, da, dc, e1, c1, c2, hr1⟩ := HA.out j p hp
      obtain ⟨b2, o2, db, dd, e2, d1, d2, hr2⟩ := HB.out j p hp
      subst e1
      subst e2
      rw [hp16] at c2 d2
      have k1 := fun q => conv_string (c := dc) (hr1.adv ((Adv.refl (fun _ => False) w (fun _ => 0)).drewN q) fun _ _ => id) hp16 (by decide)
      have k2 := fun q => conv_string (c := dd) (hr2.adv ((Adv.refl (fun _ => False) w (fun _ => 0)).drewN q) fun _ _ => id) hp16 (by decide)
      obtain ⟨S, hS⟩ : ∃ S, S = strOfNums p.2 := ⟨_, rfl⟩
      rw [← hS] at k1 k2
      have hd : (p.1 != p.1) = false := bne_self_eq_false _
      have hd2 : (S.toList != S.toList) = false := bne_self_eq_false _

      clear hp hp16 hr1 hr2 hS
      have hwi : IntKind.i64.wrap ((j : Int) + 1) = (j : Int) + 1 := IntWalk.i64_in _ (by omega)
      go_wp2_with fail
      go_quiet (fail)
      go_wp2_with fail
      exact ⟨⟨j + 1, by omega, by simp, _, rfl⟩, by simp only [intOf]; omega⟩
    · go_wp2_with fail
      go_ret
      exact ⟨rfl, _, rfl⟩
set_option maxRecDepth 100000 in
set_option maxHeartbeats 1000000 in
theorem sameImage_yes (v1 v2 : Value) (m : MemS) (hm : MemOk m) (hn : m.banks.length ≤ 1000000) (w : World) (h1 : ImgIs w v1 m) (h2 : ImgIs w v2 m) :
    Calls Tryz.prog 83 #[v1, v2] w fun e w' => e = .returned (.bool true) ∧ Adv (fun _ => False) w (fun _ => 0) w' (fun _ => 0) := by
  obtain ⟨ba, bc, ra, rc, sa, sc, rfl, g1, g2, g3⟩ := h1
  obtain ⟨bb, bd, rb, rd, sb, sd, rfl, g4, g5, g6⟩ := h2
  obtain ⟨n, hn'⟩ : ∃ n, n = m.banks.length := ⟨_, rfl⟩
  rw [← hn'] at hn ⊢
  have HN := Lib.hid hn'
  have HM := Lib.hid hm
  have hA : ∀ o1 o2, Adv (fun _ => False) w (fun _ => 0) ((w.alloc o1).alloc o2) (fun _ => 0) := fun o1 o2 => by
    have h := (((Adv.refl (fun _ => False) w (fun _ => 0)).alloc o1 0)).alloc o2 0
    rw [own1_zero, own1_zero] at h
    exact h
  have HAD := Lib.hid hA
  have HG := Lib.hid (And.intro g1 (And.intro g2 (And.intro g3 (And.intro g4 (And.intro g5 g6)))))
  clear hn' hm hA g1 g2 g3 g4 g5 g6
  go_enter Tryz.func83, Tryz.ntmps83
  go_wp2_with fail
  have hB := HAD.out (.cells #[.slice ba n bc, .slice ra 16384 rc, .slice sa 3072 sc, .int .u8 m.chosen, .int .u8 m.pad, .int .u16 m.pitch, .int .u8 m.volume, .int .u16 m.time] 163) (.cells #[.slice bb n bd, .slice rb 16384 rd, .slice sb 3072 sd, .int .u8 m.chosen, .int .u8 m.pad, .int .u16 m.pitch, .int .u8 m.volume, .int .u16 m.time] 163)
  obtain ⟨g1, g2, g3, g4, g5, g6⟩ := HG.out
  have hx1 : ((w.alloc (.cells #[.slice ba n bc, .slice ra 16384 rc, .slice sa 3072 sc, .int .u8 m.chosen, .int .u8 m.pad, .int .u16 m.pitch, .int .u8 m.volume, .int .u16 m.time] 163)).alloc (.cells #[.slice bb n bd, .slice rb 16384 rd, .slice sb 3072 sd, .int .u8 m.chosen, .int .u8 m.pad, .int .u16 m.pitch, .int .u8 m.volume, .int .u16 m.time] 163)).heap[w.heap.size]? = some (.cells #[.slice ba n bc, .slice ra 16384 rc, .slice sa 3072 sc, .int .u8 m.chosen, .int .u8 m.pad, .int .u16 m.pitch, .int .u8 m.volume, .int .u16 m.time] 163 (0, 0)) := (heap_past _ _ _ (by simp)).trans (heap_at _ _ _ rfl)
  have hx2 : ((w.alloc (.cells #[.slice ba n bc, .slice ra 16384 rc, .slice sa 3072 sc, .int .u8 m.chosen, .int .u8 m.pad, .int .u16 m.pitch, .int .u8 m.volume, .int .u16 m.time] 163)).alloc (.cells #[.slice bb n bd, .slice rb 16384 rd, .slice sb 3072 sd, .int .u8 m.chosen, .int .u8 m.pad, .int .u16 m.pitch, .int .u8 m.volume, .int .u16 m.time] 163)).heap[w.heap.size + 1]? = some (.cells #[.slice bb n bd, .slice rb 16384 rd, .slice sb 3072 sd, .int .u8 m.chosen, .int .u8 m.pad, .int .u16 m.pitch, .int .u8 m.volume, .int .u16 m.time] 163 (0, 0)) := heap_at _ _ _ (by simp)
  obtain ⟨wb, hwb⟩ : ∃ v, v = (w.alloc (.cells #[.slice ba n bc, .slice ra 16384 rc, .slice sa 3072 sc, .int .u8 m.chosen, .int .u8 m.pad, .int .u16 m.pitch, .int .u8 m.volume, .int .u16 m.time] 163)).alloc (.cells #[.slice bb n bd, .slice rb 16384 rd, .slice sb 3072 sd, .int .u8 m.chosen, .int .u8 m.pad, .int .u16 m.pitch, .int .u8 m.volume, .int .u16 m.time] 163) := ⟨_, rfl⟩
  rw [← hwb] at hB hx1 hx2
  rw [← hwb]
  refine (sameBanks_yes ba bb n bc bd m.banks HN.out.symm hn HM.out.banks wb (g1.adv0 hB id) (g4.adv0 hB id)).mono ?_
  rintro e w' ⟨rfl, z, rfl⟩
  have k1 := fun q => conv_string (c := rc) (((g2.adv hB fun _ _ => id).adv ((Adv.refl (fun _ => False) wb (fun _ => 0)).drewN q) fun _ _ => id)) HM.out.ram (by decide)
  have k2 := fun q => conv_string (c := rd) (((g5.adv hB fun _ _ => id).adv ((Adv.refl (fun _ => False) wb (fun _ => 0)).drewN q) fun _ _ => id)) HM.out.ram (by decide)
  have k3 := fun q => conv_string (c := sc) (((g3.adv hB fun _ _ => id).adv ((Adv.refl (fun _ => False) wb (fun _ => 0)).drewN q) fun _ _ => id)) HM.out.screen (by decide)
  have k4 := fun q => conv_string (c := sd) (((g6.adv hB fun _ _ => id).adv ((Adv.refl (fun _ => False) wb (fun _ => 0)).drewN q) fun _ _ => id)) HM.out.screen (by decide)
  obtain ⟨S, hS⟩ : ∃ S, S = strOfNums m.ram := ⟨_, rfl⟩
  obtain ⟨T, hT⟩ : ∃ T, T = strOfNums m.screen := ⟨_, rfl⟩
  rw [← hS] at k1 k2
  rw [← hT] at k3 k4
  have HB := Lib.hid hB
  have x0 := block_cell hx1 0 _ rfl
  have y0 := block_cell hx2 0 _ rfl
  have x1 := block_cell hx1 1 _ rfl
  have y1 := block_cell hx2 1 _ rfl
  have x2 := block_cell hx1 2 _ rfl
  have y2 := block_cell hx2 2 _ rfl
  have x3 := block_cell hx1 3 _ rfl
  have y3 := block_cell hx2 3 _ rfl
  have x4 := block_cell hx1 4 _ rfl
  have y4 := block_cell hx2 4 _ rfl
  have x5 := block_cell hx1 5 _ rfl
  have y5 := block_cell hx2 5 _ rfl
  have x6 := block_cell hx1 6 _ rfl
  have y6 := block_cell hx2 6 _ rfl
  have x7 := block_cell hx1 7 _ rfl
  have y7 := block_cell hx2 7 _ rfl
  clear hwb hS hT hB g1 g2 g3 g4 g5 g6 hx1 hx2
  go_wp2_with fail
  go_ret
  exact ⟨rfl, HB.out.drewN z⟩
end Go.Proofs.YtdnalhjdmlkbmaaGreatDoor
namespace Go.Proofs.YtdnalhjdmlkbmaaGreatDoor
open Go.RowKit

def writesB (k : Int) : Bool := decide (k = 51 ∨ k = 53 ∨ k = 54 ∨ k = 60 ∨ k = 62 ∨ k = 63)
def readsB (k : Int) : Bool := decide (k = 50 ∨ k = 52 ∨ k = 54 ∨ k = 61)
def returnedN (k : Int) : Int := if k = 6 then 2 else if k = 55 then 1 else if k = 56 then -1 else 0
structure KeepIs (k : Nat) (b : List Int) (r : List (Int × Int)) (m : MemS) (t : List Int × List (Int × Int) × MemS) : Prop where
  dl : (t.1.length : Int) = b.length + leavesN k
  dp : b <+: t.1
  rl : (t.2.1.length : Int) = r.length + returnedN k
  rp : t.2.1 <+: r ∨ r <+: t.2.1
  mm : writesB k = false → t.2.2 = m
theorem keep_push {k : Nat} {b : List Int} {r : List (Int × Int)} {m : MemS} (y : List Int) (hy : (y.length : Int) = leavesN k) (hr : returnedN k = 0) : KeepIs k b r m (b ++ y, r, m) :=
  ⟨by simp [← hy], List.prefix_append _ _, by simp [hr], .inl (List.prefix_refl _), fun _ => rfl⟩
theorem keep_ret {k : Nat} {b : List Int} {r : List (Int × Int)} {m : MemS} (y : List (Int × Int)) (hl : leavesN k = 0) (hr : returnedN k = y.length) : KeepIs k b r m (b, r ++ y, m) :=
  ⟨by simp [hl], List.prefix_refl _, by simp [hr], .inr (List.prefix_append _ _), fun _ => rfl⟩
theorem keep_mem {k : Nat} {b : List Int} {r : List (Int × Int)} {m m' : MemS} (hl : leavesN k = 0) (hr : returnedN k = 0) (hw : writesB k = true) : KeepIs k b r m (b, r, m') :=
  ⟨by simp [hl], List.prefix_refl _, by simp [hr], .inl (List.prefix_refl _), fun h => by rw [hw] at h; exact absurd h (by decide)⟩
theorem keep_back {b : List Int} {r : List (Int × Int)} {m : MemS} (y : Int) (hne : r ≠ []) : KeepIs 56 b r m (b ++ [y], r.dropLast, m) :=
  ⟨by simp; rfl, List.prefix_append _ _, by
    have : 0 < r.length := List.length_pos_iff.2 hne
    have h2 : returnedN ((56 : Nat) : Int) = -1 := rfl
    rw [h2]; simp only [List.length_dropLast]; omega, .inl (List.dropLast_prefix r), fun _ => rfl⟩
set_option maxRecDepth 100000 in
theorem act_keep (k : Nat) (hk : k < 64) (hpl : plainB k = true) (b x : List Int) (r : List (Int × Int)) (m : MemS) (hr : k = 56 → r ≠ []) : KeepIs k b r m (actF k b x r m) := by
  match k, hk, hpl with
  | 0, _, h => exact absurd h (by decide)
  | 1, _, h => exact absurd h (by decide)
  | 2, _, h => exact absurd h (by decide)
  | 3, _, h => exact absurd h (by decide)
  | 4, _, h => exact absurd h (by decide)
  | 5, _, h => exact absurd h (by decide)
  | 6, _, _ => exact keep_ret [_, _] rfl rfl
  | 7, _, h => exact absurd h (by decide)
  | 8, _, h => exact absurd h (by decide)
  | 9, _, _ => exact keep_ret [] rfl rfl |> fun h => by rw [List.append_nil] at h; exact h
  | 10, _, h => exact absurd h (by decide)
  | 11, _, h => exact absurd h (by decide)
  | 12, _, _ => exact keep_push (picks x (shufP 12)) (by rw [picks, List.length_map]; rfl) rfl
  | 13, _, _ => exact keep_push (picks x (shufP 13)) (by rw [picks, List.length_map]; rfl) rfl
  | 14, _, _ => exact keep_push (picks x (shufP 14)) (by rw [picks, List.length_map]; rfl) rfl
  | 15, _, _ => exact keep_push (picks x (shufP 15)) (by rw [picks, List.length_map]; rfl) rfl
  | 16, _, _ => exact keep_push (picks x (shufP 16)) (by rw [picks, List.length_map]; rfl) rfl
  | 17, _, _ => exact keep_push (picks x (shufP 17)) (by rw [picks, List.length_map]; rfl) rfl
  | 18, _, _ => exact keep_push (picks x (shufP 18)) (by rw [picks, List.length_map]; rfl) rfl
  | 19, _, _ => exact keep_push (picks x (shufP 19)) (by rw [picks, List.length_map]; rfl) rfl
  | 20, _, _ => exact keep_push (picks x (shufP 20)) (by rw [picks, List.length_map]; rfl) rfl
  | 21, _, _ => exact keep_push [_] rfl rfl
  | 22, _, _ => exact keep_push [_] rfl rfl
  | 23, _, _ => exact keep_push [_] rfl rfl
  | 24, _, _ => exact keep_push [_] rfl rfl
  | 25, _, _ => exact keep_push [_] rfl rfl
  | 26, _, _ => exact keep_push [_] rfl rfl
  | 27, _, _ => exact keep_push [_] rfl rfl
  | 28, _, _ => exact keep_push [_] rfl rfl
  | 29, _, _ => exact keep_push [_] rfl rfl
  | 30, _, _ => exact keep_push [_] rfl rfl
  | 31, _, _ => exact keep_push [_] rfl rfl
  | 32, _, _ => exact keep_push [_] rfl rfl
  | 33, _, _ => exact keep_push [_] rfl rfl
  | 34, _, _ => exact keep_push [_] rfl rfl
  | 35, _, _ => exact keep_push [_] rfl rfl
  | 36, _, _ => exact keep_push [_] rfl rfl
  | 37, _, _ => exact keep_push [_] rfl rfl
  | 38, _, _ => exact keep_push [_] rfl rfl
  | 39, _, _ => exact keep_push [_] rfl rfl
  | 40, _, _ => exact keep_push [_] rfl rfl
  | 41, _, _ => exact keep_push [_] rfl rfl
  | 42, _, _ => exact keep_push [_] rfl rfl
  | 43, _, _ => exact keep_push [_] rfl rfl
  | 44, _, _ => exact keep_push [_] rfl rfl
  | 45, _, _ => exact keep_push [_] rfl rfl
  | 46, _, _ => exact keep_push [_] rfl rfl
  | 47, _, _ => exact keep_push [_] rfl rfl
  | 48, _, _ => exact keep_push [_] rfl rfl
  | 49, _, _ => exact keep_push [_] rfl rfl
  | 50, _, _ => exact keep_push [_] rfl rfl
  | 51, _, _ => exact keep_mem rfl rfl rfl
  | 52, _, _ => exact keep_push [_] rfl rfl
  | 53, _, _ => exact keep_mem rfl rfl rfl
  | 54, _, _ => exact keep_mem rfl rfl rfl
  | 55, _, _ => exact keep_ret [_] rfl rfl
  | 56, _, _ => exact keep_back _ (hr rfl)
  | 57, _, _ => exact keep_push [_] rfl rfl
  | 58, _, _ => exact keep_push [_] rfl rfl
  | 59, _, _ => exact keep_push [_] rfl rfl
  | 60, _, _ => exact keep_mem rfl rfl rfl
  | 61, _, _ => exact keep_push [_] rfl rfl
  | 62, _, _ => exact keep_mem rfl rfl rfl
  | 63, _, _ => exact keep_mem rfl rfl rfl
  | k + 64, hk, _ => exact absurd hk (by omega)
set_option maxRecDepth 100000 in
theorem act_reads (k : Nat) (hk : k < 64) (hrd : readsB k = false) (b x : List Int) (r : List (Int × Int)) (m m' : MemS) : (actF k b x r m).1 = (actF k b x r m').1 ∧ (actF k b x r m).2.1 = (actF k b x r m').2.1 := by
  match k, hk, hrd with
  | 0, _, _ => exact ⟨rfl, rfl⟩
  | 1, _, _ => exact ⟨rfl, rfl⟩
  | 2, _, _ => exact ⟨rfl, rfl⟩
  | 3, _, _ => exact ⟨rfl, rfl⟩
  | 4, _, _ => exact ⟨rfl, rfl⟩
  | 5, _, _ => exact ⟨rfl, rfl⟩
  | 6, _, _ => exact ⟨rfl, rfl⟩
  | 7, _, _ => exact ⟨rfl, rfl⟩
  | 8, _, _ => exact ⟨rfl, rfl⟩
  | 9, _, _ => exact ⟨rfl, rfl⟩
  | 10, _, _ => exact ⟨rfl, rfl⟩
  | 11, _, _ => exact ⟨rfl, rfl⟩
  | 12, _, _ => exact ⟨rfl, rfl⟩
  | 13, _, _ => exact ⟨rfl, rfl⟩
  | 14, _, _ => exact ⟨rfl, rfl⟩
  | 15, _, _ => exact ⟨rfl, rfl⟩
  | 16, _, _ => exact ⟨rfl, rfl⟩
  | 17, _, _ => exact ⟨rfl, rfl⟩
  | 18, _, _ => exact ⟨rfl, rfl⟩
  | 19, _, _ => exact ⟨rfl, rfl⟩
  | 20, _, _ => exact ⟨rfl, rfl⟩
  | 21, _, _ => exact ⟨rfl, rfl⟩
  | 22, _, _ => exact ⟨rfl, rfl⟩
  | 23, _, _ => exact ⟨rfl, rfl⟩
  | 24, _, _ => exact ⟨rfl, rfl⟩
  | 25, _, _ => exact ⟨rfl, rfl⟩
  | 26, _, _ => exact ⟨rfl, rfl⟩
  | 27, _, _ => exact ⟨rfl, rfl⟩
  | 28, _, _ => exact ⟨rfl, rfl⟩
  | 29, _, _ => exact ⟨rfl, rfl⟩
  | 30, _, _ => exact ⟨rfl, rfl⟩
  | 31, _, _ => exact ⟨rfl, rfl⟩
  | 32, _, _ => exact ⟨rfl, rfl⟩
  | 33, _, _ => exact ⟨rfl, rfl⟩
  | 34, _, _ => exact ⟨rfl, rfl⟩
  | 35, _, _ => exact ⟨rfl, rfl⟩
  | 36, _, _ => exact ⟨rfl, rfl⟩
  | 37, _, _ => exact ⟨rfl, rfl⟩
  | 38, _, _ => exact ⟨rfl, rfl⟩
  | 39, _, _ => exact ⟨rfl, rfl⟩
  | 40, _, _ => exact ⟨rfl, rfl⟩
  | 41, _, _ => exact ⟨rfl, rfl⟩
  | 42, _, _ => exact ⟨rfl, rfl⟩
  | 43, _, _ => exact ⟨rfl, rfl⟩
  | 44, _, _ => exact ⟨rfl, rfl⟩
  | 45, _, _ => exact ⟨rfl, rfl⟩
  | 46, _, _ => exact ⟨rfl, rfl⟩
  | 47, _, _ => exact ⟨rfl, rfl⟩
  | 48, _, _ => exact ⟨rfl, rfl⟩
  | 49, _, _ => exact ⟨rfl, rfl⟩
  | 50, _, h => exact absurd h (by decide)
  | 51, _, _ => exact ⟨rfl, rfl⟩
  | 52, _, h => exact absurd h (by decide)
  | 53, _, _ => exact ⟨rfl, rfl⟩
  | 54, _, h => exact absurd h (by decide)
  | 55, _, _ => exact ⟨rfl, rfl⟩
  | 56, _, _ => exact ⟨rfl, rfl⟩
  | 57, _, _ => exact ⟨rfl, rfl⟩
  | 58, _, _ => exact ⟨rfl, rfl⟩
  | 59, _, _ => exact ⟨rfl, rfl⟩
  | 60, _, _ => exact ⟨rfl, rfl⟩
  | 61, _, h => exact absurd h (by decide)
  | 62, _, _ => exact ⟨rfl, rfl⟩
  | 63, _, _ => exact ⟨rfl, rfl⟩
  | k + 64, hk, _ => exact absurd hk (by omega)
theorem faultF_ok {k : Nat} {d : List Int} {r : List (Int × Int)} (h : faultF k d r = 0) : needF d.length (takesN k) (leavesN k) = 0 ∧ looksF k r = 0 := by
  unfold faultF at h
  by_cases h1 : needF d.length (takesN k) (leavesN k) = 0
  · rw [if_neg (by simpa using h1)] at h
    by_cases h2 : looksF k r = 0
    · exact ⟨h1, h2⟩
    · rw [if_pos h2] at h; exact absurd h h2
  · rw [if_pos h1] at h; exact absurd h h1
theorem doF_no {k : Nat} {d : List Int} {r : List (Int × Int)} {m : MemS} (h : faultF k d r ≠ 0) : doF k d r m = (d, r, m) := by unfold doF; rw [if_pos h]
theorem doF_yes {k : Nat} {d : List Int} {r : List (Int × Int)} {m : MemS} (h : faultF k d r = 0) : doF k d r m = actF k (d.take (d.length - (takesN k).toNat)) (d.drop (d.length - (takesN k).toNat)) r m := by unfold doF; rw [if_neg (by simpa using h)]
/-- What Do keeps. -/
theorem doF_keep (k : Nat) (hk : k < 64) (hpl : plainB k = true) {d : List Int} {r : List (Int × Int)} {m : MemS} (hf : faultF k d r = 0) :
    (((doF k d r m).1.length : Int) = d.length + leavesN k - takesN k) ∧ d.take (d.length - (takesN k).toNat) <+: (doF k d r m).1 ∧ (((doF k d r m).2.1.length : Int) = r.length + returnedN k) ∧
    ((doF k d r m).2.1 <+: r ∨ r <+: (doF k d r m).2.1) ∧ (writesB k = false → (doF k d r m).2.2 = m) := by
  obtain ⟨h1, h2⟩ := faultF_ok hf
  have h3 := takes_le k hk
  have h4 := leaves_le k hk
  have h5 := needF_ok h1 h3.1 h4.1
  have hne : k = 56 → r ≠ [] := by
    rintro rfl rfl
    exact absurd h2 (by decide)
  rw [doF_yes hf]
  have h := act_keep k hk hpl (d.take (d.length - (takesN k).toNat)) (d.drop (d.length - (takesN k).toNat)) r m hne
  refine ⟨?_, h.dp, h.rl, h.rp, h.mm⟩
  rw [h.dl, List.length_take]
  omega
theorem doF_mem (k : Nat) (hk : k < 64) (hpl : plainB k = true) {d : List Int} {r : List (Int × Int)} {m : MemS} (h : faultF k d r ≠ 0 ∨ writesB k = false) : (doF k d r m).2.2 = m := by
  by_cases hf : faultF k d r = 0
  · exact (doF_keep k hk hpl hf).2.2.2.2 (h.resolve_left (by simpa using hf))
  · rw [doF_no hf]
theorem doF_reads (k : Nat) (hk : k < 64) (hrd : readsB k = false) (d : List Int) (r : List (Int × Int)) (m m' : MemS) : (doF k d r m).1 = (doF k d r m').1 ∧ (doF k d r m).2.1 = (doF k d r m').2.1 := by
  by_cases hf : faultF k d r = 0
  · rw [doF_yes hf, doF_yes hf]; exact act_reads k hk hrd _ _ _ _ _
  · rw [doF_no hf, doF_no hf]; exact ⟨rfl, rfl⟩
/-- The banks' numbers stay. -/
theorem bankSet_keys : ∀ (l : List (Int × List Int)) (c : Int) (k : Nat) (x : Int), (bankSet l c k x).map Prod.fst = l.map Prod.fst
  | [], _, _, _ => rfl
  | p :: l, c, k, x => by
    unfold bankSet
    split
    · rfl
    · rw [List.map_cons, List.map_cons, bankSet_keys l c k x]
def keysF (m : MemS) : List Int := m.banks.map Prod.fst
theorem storeF_keys (m : MemS) (a x : Int) : keysF (storeF m a x) = keysF m := by
  unfold storeF
  repeat' split
  all_goals first | rfl | exact bankSet_keys _ _ _ _
theorem setCellF_keys (m : MemS) (a x : Int) : keysF (setCellF m a x) = keysF m := by unfold setCellF; rw [storeF_keys, storeF_keys]
theorem plotF_keys (m : MemS) (x y c : Int) : keysF (plotF m x y c) = keysF m := by unfold plotF; split; exact storeF_keys _ _ _; rfl
theorem playF_keys (m : MemS) (p v : Int) : keysF (playF m p v) = keysF m := by unfold playF; rw [storeF_keys, storeF_keys, storeF_keys]
set_option maxRecDepth 100000 in
theorem act_keys (k : Nat) (hk : k < 64) (b x : List Int) (r : List (Int × Int)) (m : MemS) : keysF (actF k b x r m).2.2 = keysF m := by
  match k, hk with
  | 0, _ => rfl
  | 1, _ => rfl
  | 2, _ => rfl
  | 3, _ => rfl
  | 4, _ => rfl
  | 5, _ => rfl
  | 6, _ => rfl
  | 7, _ => rfl
  | 8, _ => rfl
  | 9, _ => rfl
  | 10, _ => rfl
  | 11, _ => rfl
  | 12, _ => rfl
  | 13, _ => rfl
  | 14, _ => rfl
  | 15, _ => rfl
  | 16, _ => rfl
  | 17, _ => rfl
  | 18, _ => rfl
  | 19, _ => rfl
  | 20, _ => rfl
  | 21, _ => rfl
  | 22, _ => rfl
  | 23, _ => rfl
  | 24, _ => rfl
  | 25, _ => rfl
  | 26, _ => rfl
  | 27, _ => rfl
  | 28, _ => rfl
  | 29, _ => rfl
  | 30, _ => rfl
  | 31, _ => rfl
  | 32, _ => rfl
  | 33, _ => rfl
  | 34, _ => rfl
  | 35, _ => rfl
  | 36, _ => rfl
  | 37, _ => rfl
  | 38, _ => rfl
  | 39, _ => rfl
  | 40, _ => rfl
  | 41, _ => rfl
  | 42, _ => rfl
  | 43, _ => rfl
  | 44, _ => rfl
  | 45, _ => rfl
  | 46, _ => rfl
  | 47, _ => rfl
  | 48, _ => rfl
  | 49, _ => rfl
  | 50, _ => rfl
  | 51, _ => exact setCellF_keys _ _ _
  | 52, _ => rfl
  | 53, _ => exact storeF_keys _ _ _
  | 54, _ => exact setCellF_keys _ _ _
  | 55, _ => rfl
  | 56, _ => rfl
  | 57, _ => rfl
  | 58, _ => rfl
  | 59, _ => rfl
  | 60, _ => exact plotF_keys _ _ _ _
  | 61, _ => rfl
  | 62, _ => exact playF_keys _ _ _
  | 63, _ => exact storeF_keys m 65280 (x.getD 0 0 % 256)
  | k + 64, hk => exact absurd hk (by omega)
theorem doF_keys (k : Nat) (hk : k < 64) (d : List Int) (r : List (Int × Int)) (m : MemS) : keysF (doF k d r m).2.2 = keysF m := by
  by_cases hf : faultF k d r = 0
  · rw [doF_yes hf]; exact act_keys k hk _ _ _ _
  · rw [doF_no hf]
theorem two_banks {m : MemS} (h : keysF m = [0, 9]) : ∃ b0 b1, m.banks = [(0, b0), (9, b1)] := by
  unfold keysF at h
  match hb : m.banks, h with
  | [], h => simp at h
  | [p], h => simp at h
  | [p, q], h =>
    simp at h
    obtain ⟨h1, h2⟩ := h
    refine ⟨p.2, q.2, ?_⟩
    rw [← h1, ← h2]
  | p :: q :: s :: l, h => simp at h
end Go.Proofs.YtdnalhjdmlkbmaaGreatDoor
