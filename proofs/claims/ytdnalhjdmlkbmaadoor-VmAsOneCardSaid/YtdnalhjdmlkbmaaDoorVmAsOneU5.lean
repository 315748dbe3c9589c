/- Behind Do all is within its bounds again; What is stored, plotted, played is found again; A machine's steps, as plain functions; A frame, as a plain function; Memories that are alike but for the order of their banks: all that is done with them is alike; wisplaw06.sameCells; slices.Clone of tones; Tones; The world of wisplaw06's statements, all at once; pushed; A machine in memory; what cell and Look answer; What Look answers. -/
import Derived.Deep.DeepCutAuto
import Derived.Test.YtdnalhjdmlkbmaaDoorVmAsOneU1
import Derived.Test.YtdnalhjdmlkbmaaDoorVmAsOneU2
import Derived.Test.YtdnalhjdmlkbmaaDoorVmAsOneU3
import Derived.Test.YtdnalhjdmlkbmaaDoorVmAsOneU4
set_option linter.unusedVariables false
set_option linter.unusedSimpArgs false
set_option linter.unnecessarySimpa false
namespace Go.Proofs.YtdnalhjdmlkbmaaDoor
open Go.RowKit

theorem good_push {b : List Int} {r : List (Int × Int)} {m : MemS} {l : List Int} (hb : D16 b) (hl : D16 l) (hr : R16 r) (hrl : r.length ≤ 128) (hm : MemOk m) (hR : MemR m) (hn : b.length + l.length ≤ 256) : Good3 (b ++ l) r m :=
  ⟨hb.append hl, hr, by rw [List.length_append]; exact hn, hrl, hm, hR⟩
theorem R16.two {a b : Int} {x y : Int} (hx : 0 ≤ x ∧ x < 65536) (hy : 0 ≤ y ∧ y < 65536) : R16 [(a, x), (b, y)] := (R16.one (x := (a, x)) hx).append (R16.one (x := (b, y)) hy)
set_option maxRecDepth 100000 in
theorem act_good (k : Nat) (hk : k < 64) (b x : List Int) (r : List (Int × Int)) (m : MemS) (hb : D16 b) (hx : D16 x) (hr : R16 r) (hm : MemOk m) (hR : MemR m) (hxl : x.length = (takesN k).toNat) (hbl : (b.length : Int) + leavesN k ≤ 256) (hrl : r.length ≤ 128) (hadd : (r.length : Int) + addsF k ≤ 128) :
    Good3 (actF k b x r m).1 (actF k b x r m).2.1 (actF k b x r m).2.2 ∧ (actF k b x r m).2.2.tones.length ≤ m.tones.length + 3 := by
  have h0 := hx.getD 0
  have h1 := hx.getD 1
  have h2 := hx.getD 2
  match k, hk with
  | 0, _ => have hb' : (b.length : Int) + 0 ≤ 256 := hbl; exact ⟨⟨hb, hr, (show b.length ≤ 256 by omega), hrl, hm, hR⟩, Nat.le_add_right _ _⟩
  | 1, _ => have hb' : (b.length : Int) + 0 ≤ 256 := hbl; exact ⟨⟨hb, hr, (show b.length ≤ 256 by omega), hrl, hm, hR⟩, Nat.le_add_right _ _⟩
  | 2, _ => have hb' : (b.length : Int) + 1 ≤ 256 := hbl; exact ⟨⟨hb, hr, (show b.length ≤ 256 by omega), hrl, hm, hR⟩, Nat.le_add_right _ _⟩
  | 3, _ => have hb' : (b.length : Int) + 1 ≤ 256 := hbl; exact ⟨⟨hb, hr, (show b.length ≤ 256 by omega), hrl, hm, hR⟩, Nat.le_add_right _ _⟩
  | 4, _ => have hb' : (b.length : Int) + 0 ≤ 256 := hbl; exact ⟨⟨hb, hr, (show b.length ≤ 256 by omega), hrl, hm, hR⟩, Nat.le_add_right _ _⟩
  | 5, _ => have hb' : (b.length : Int) + 0 ≤ 256 := hbl; exact ⟨⟨hb, hr, (show b.length ≤ 256 by omega), hrl, hm, hR⟩, Nat.le_add_right _ _⟩
  | 6, _ => have ha' : (r.length : Int) + 2 ≤ 128 := hadd; have hb' : (b.length : Int) + 0 ≤ 256 := hbl; exact ⟨⟨hb, hr.append (R16.two h0 h1), (show b.length ≤ 256 by omega), (show (r ++ [((2 : Int), x.getD 0 0), (3, x.getD 1 0)]).length ≤ 128 by simp; omega), hm, hR⟩, Nat.le_add_right _ _⟩
  | 7, _ => have hb' : (b.length : Int) + 0 ≤ 256 := hbl; exact ⟨⟨hb, hr, (show b.length ≤ 256 by omega), hrl, hm, hR⟩, Nat.le_add_right _ _⟩
  | 8, _ => have hb' : (b.length : Int) + 0 ≤ 256 := hbl; exact ⟨⟨hb, hr, (show b.length ≤ 256 by omega), hrl, hm, hR⟩, Nat.le_add_right _ _⟩
  | 9, _ => have hb' : (b.length : Int) + 0 ≤ 256 := hbl; exact ⟨⟨hb, hr, (show b.length ≤ 256 by omega), hrl, hm, hR⟩, Nat.le_add_right _ _⟩
  | 10, _ => have hb' : (b.length : Int) + 0 ≤ 256 := hbl; exact ⟨⟨hb, hr, (show b.length ≤ 256 by omega), hrl, hm, hR⟩, Nat.le_add_right _ _⟩
  | 11, _ => have hb' : (b.length : Int) + 0 ≤ 256 := hbl; exact ⟨⟨hb, hr, (show b.length ≤ 256 by omega), hrl, hm, hR⟩, Nat.le_add_right _ _⟩
  | 12, _ => have hb' : (b.length : Int) + 2 ≤ 256 := hbl; exact ⟨good_push hb (picks_rng hx _) hr hrl hm hR (by simp [picks, shufP]; omega), Nat.le_add_right _ _⟩
  | 13, _ => have hb' : (b.length : Int) + 0 ≤ 256 := hbl; exact ⟨good_push hb (picks_rng hx _) hr hrl hm hR (by simp [picks, shufP]; omega), Nat.le_add_right _ _⟩
  | 14, _ => have hb' : (b.length : Int) + 2 ≤ 256 := hbl; exact ⟨good_push hb (picks_rng hx _) hr hrl hm hR (by simp [picks, shufP]; omega), Nat.le_add_right _ _⟩
  | 15, _ => have hb' : (b.length : Int) + 3 ≤ 256 := hbl; exact ⟨good_push hb (picks_rng hx _) hr hrl hm hR (by simp [picks, shufP]; omega), Nat.le_add_right _ _⟩
  | 16, _ => have hb' : (b.length : Int) + 3 ≤ 256 := hbl; exact ⟨good_push hb (picks_rng hx _) hr hrl hm hR (by simp [picks, shufP]; omega), Nat.le_add_right _ _⟩
  | 17, _ => have hb' : (b.length : Int) + 1 ≤ 256 := hbl; exact ⟨good_push hb (picks_rng hx _) hr hrl hm hR (by simp [picks, shufP]; omega), Nat.le_add_right _ _⟩
  | 18, _ => have hb' : (b.length : Int) + 3 ≤ 256 := hbl; exact ⟨good_push hb (picks_rng hx _) hr hrl hm hR (by simp [picks, shufP]; omega), Nat.le_add_right _ _⟩
  | 19, _ => have hb' : (b.length : Int) + 4 ≤ 256 := hbl; exact ⟨good_push hb (picks_rng hx _) hr hrl hm hR (by simp [picks, shufP]; omega), Nat.le_add_right _ _⟩
  | 20, _ => have hb' : (b.length : Int) + 0 ≤ 256 := hbl; exact ⟨good_push hb (picks_rng hx _) hr hrl hm hR (by simp [picks, shufP]; omega), Nat.le_add_right _ _⟩
  | 21, _ => have hb' : (b.length : Int) + 1 ≤ 256 := hbl; exact ⟨good_push hb (D16.one (binF_rng 21 _ _ h0.1 h0.2 h1.1 h1.2)) hr hrl hm hR (by simp; omega), Nat.le_add_right _ _⟩
  | 22, _ => have hb' : (b.length : Int) + 1 ≤ 256 := hbl; exact ⟨good_push hb (D16.one (binF_rng 22 _ _ h0.1 h0.2 h1.1 h1.2)) hr hrl hm hR (by simp; omega), Nat.le_add_right _ _⟩
  | 23, _ => have hb' : (b.length : Int) + 1 ≤ 256 := hbl; exact ⟨good_push hb (D16.one (binF_rng 23 _ _ h0.1 h0.2 h1.1 h1.2)) hr hrl hm hR (by simp; omega), Nat.le_add_right _ _⟩
  | 24, _ => have hb' : (b.length : Int) + 1 ≤ 256 := hbl; exact ⟨good_push hb (D16.one (binF_rng 24 _ _ h0.1 h0.2 h1.1 h1.2)) hr hrl hm hR (by simp; omega), Nat.le_add_right _ _⟩
  | 25, _ => have hb' : (b.length : Int) + 1 ≤ 256 := hbl; exact ⟨good_push hb (D16.one (binF_rng 25 _ _ h0.1 h0.2 h1.1 h1.2)) hr hrl hm hR (by simp; omega), Nat.le_add_right _ _⟩
  | 26, _ => have hb' : (b.length : Int) + 1 ≤ 256 := hbl; exact ⟨good_push hb (D16.one (binF_rng 26 _ _ h0.1 h0.2 h1.1 h1.2)) hr hrl hm hR (by simp; omega), Nat.le_add_right _ _⟩
  | 27, _ => have hb' : (b.length : Int) + 1 ≤ 256 := hbl; exact ⟨good_push hb (D16.one (binF_rng 27 _ _ h0.1 h0.2 h1.1 h1.2)) hr hrl hm hR (by simp; omega), Nat.le_add_right _ _⟩
  | 28, _ => have hb' : (b.length : Int) + 1 ≤ 256 := hbl; exact ⟨good_push hb (D16.one (unF_rng 28 _ h0.1 h0.2)) hr hrl hm hR (by simp; omega), Nat.le_add_right _ _⟩
  | 29, _ => have hb' : (b.length : Int) + 1 ≤ 256 := hbl; exact ⟨good_push hb (D16.one (unF_rng 29 _ h0.1 h0.2)) hr hrl hm hR (by simp; omega), Nat.le_add_right _ _⟩
  | 30, _ => have hb' : (b.length : Int) + 1 ≤ 256 := hbl; exact ⟨good_push hb (D16.one (binF_rng 30 _ _ h0.1 h0.2 h1.1 h1.2)) hr hrl hm hR (by simp; omega), Nat.le_add_right _ _⟩
  | 31, _ => have hb' : (b.length : Int) + 1 ≤ 256 := hbl; exact ⟨good_push hb (D16.one (binF_rng 31 _ _ h0.1 h0.2 h1.1 h1.2)) hr hrl hm hR (by simp; omega), Nat.le_add_right _ _⟩
  | 32, _ => have hb' : (b.length : Int) + 1 ≤ 256 := hbl; exact ⟨good_push hb (D16.one (unF_rng 32 _ h0.1 h0.2)) hr hrl hm hR (by simp; omega), Nat.le_add_right _ _⟩
  | 33, _ => have hb' : (b.length : Int) + 1 ≤ 256 := hbl; exact ⟨good_push hb (D16.one (unF_rng 33 _ h0.1 h0.2)) hr hrl hm hR (by simp; omega), Nat.le_add_right _ _⟩
  | 34, _ => have hb' : (b.length : Int) + 1 ≤ 256 := hbl; exact ⟨good_push hb (D16.one (unF_rng 34 _ h0.1 h0.2)) hr hrl hm hR (by simp; omega), Nat.le_add_right _ _⟩
  | 35, _ => have hb' : (b.length : Int) + 1 ≤ 256 := hbl; exact ⟨good_push hb (D16.one (unF_rng 35 _ h0.1 h0.2)) hr hrl hm hR (by simp; omega), Nat.le_add_right _ _⟩
  | 36, _ => have hb' : (b.length : Int) + 1 ≤ 256 := hbl; exact ⟨good_push hb (D16.one (binF_rng 36 _ _ h0.1 h0.2 h1.1 h1.2)) hr hrl hm hR (by simp; omega), Nat.le_add_right _ _⟩
  | 37, _ => have hb' : (b.length : Int) + 1 ≤ 256 := hbl; exact ⟨good_push hb (D16.one (binF_rng 37 _ _ h0.1 h0.2 h1.1 h1.2)) hr hrl hm hR (by simp; omega), Nat.le_add_right _ _⟩
  | 38, _ => have hb' : (b.length : Int) + 1 ≤ 256 := hbl; exact ⟨good_push hb (D16.one (binF_rng 38 _ _ h0.1 h0.2 h1.1 h1.2)) hr hrl hm hR (by simp; omega), Nat.le_add_right _ _⟩
  | 39, _ => have hb' : (b.length : Int) + 1 ≤ 256 := hbl; exact ⟨good_push hb (D16.one (unF_rng 39 _ h0.1 h0.2)) hr hrl hm hR (by simp; omega), Nat.le_add_right _ _⟩
  | 40, _ => have hb' : (b.length : Int) + 1 ≤ 256 := hbl; exact ⟨good_push hb (D16.one (binF_rng 40 _ _ h0.1 h0.2 h1.1 h1.2)) hr hrl hm hR (by simp; omega), Nat.le_add_right _ _⟩
  | 41, _ => have hb' : (b.length : Int) + 1 ≤ 256 := hbl; exact ⟨good_push hb (D16.one (binF_rng 41 _ _ h0.1 h0.2 h1.1 h1.2)) hr hrl hm hR (by simp; omega), Nat.le_add_right _ _⟩
  | 42, _ => have hb' : (b.length : Int) + 1 ≤ 256 := hbl; exact ⟨good_push hb (D16.one (binF_rng 42 _ _ h0.1 h0.2 h1.1 h1.2)) hr hrl hm hR (by simp; omega), Nat.le_add_right _ _⟩
  | 43, _ => have hb' : (b.length : Int) + 1 ≤ 256 := hbl; exact ⟨good_push hb (D16.one (binF_rng 43 _ _ h0.1 h0.2 h1.1 h1.2)) hr hrl hm hR (by simp; omega), Nat.le_add_right _ _⟩
  | 44, _ => have hb' : (b.length : Int) + 1 ≤ 256 := hbl; exact ⟨good_push hb (D16.one (binF_rng 44 _ _ h0.1 h0.2 h1.1 h1.2)) hr hrl hm hR (by simp; omega), Nat.le_add_right _ _⟩
  | 45, _ => have hb' : (b.length : Int) + 1 ≤ 256 := hbl; exact ⟨good_push hb (D16.one (binF_rng 45 _ _ h0.1 h0.2 h1.1 h1.2)) hr hrl hm hR (by simp; omega), Nat.le_add_right _ _⟩
  | 46, _ => have hb' : (b.length : Int) + 1 ≤ 256 := hbl; exact ⟨good_push hb (D16.one (binF_rng 46 _ _ h0.1 h0.2 h1.1 h1.2)) hr hrl hm hR (by simp; omega), Nat.le_add_right _ _⟩
  | 47, _ => have hb' : (b.length : Int) + 1 ≤ 256 := hbl; exact ⟨good_push hb (D16.one (binF_rng 47 _ _ h0.1 h0.2 h1.1 h1.2)) hr hrl hm hR (by simp; omega), Nat.le_add_right _ _⟩
  | 48, _ => have hb' : (b.length : Int) + 1 ≤ 256 := hbl; exact ⟨good_push hb (D16.one (unF_rng 48 _ h0.1 h0.2)) hr hrl hm hR (by simp; omega), Nat.le_add_right _ _⟩
  | 49, _ => have hb' : (b.length : Int) + 1 ≤ 256 := hbl; exact ⟨good_push hb (D16.one (unF_rng 49 _ h0.1 h0.2)) hr hrl hm hR (by simp; omega), Nat.le_add_right _ _⟩
  | 50, _ => have hb' : (b.length : Int) + 1 ≤ 256 := hbl; exact ⟨good_push hb (D16.one (cellF_rng m _)) hr hrl hm hR (by simp; omega), Nat.le_add_right _ _⟩
  | 51, _ => have hb' : (b.length : Int) + 0 ≤ 256 := hbl; exact ⟨⟨hb, hr, (show b.length ≤ 256 by omega), hrl, setCellF_ok hm _ _, setCellF_rng hR _ _⟩, (Nat.le_trans (setCellF_tones _ _ _) (by omega))⟩
  | 52, _ => have hb' : (b.length : Int) + 1 ≤ 256 := hbl; exact ⟨good_push hb (D16.one (⟨(loadF_rng hR _).1, by have := (loadF_rng hR (x.getD 0 0)).2; omega⟩)) hr hrl hm hR (by simp; omega), Nat.le_add_right _ _⟩
  | 53, _ => have hb' : (b.length : Int) + 0 ≤ 256 := hbl; exact ⟨⟨hb, hr, (show b.length ≤ 256 by omega), hrl, storeF_ok _ hm _ _, storeF_rng hR _ (byte_rng _)⟩, (Nat.le_trans (storeF_tones _ _ _) (by omega))⟩
  | 54, _ => have hb' : (b.length : Int) + 0 ≤ 256 := hbl; exact ⟨⟨hb, hr, (show b.length ≤ 256 by omega), hrl, setCellF_ok hm _ _, setCellF_rng hR _ _⟩, (Nat.le_trans (setCellF_tones _ _ _) (by omega))⟩
  | 55, _ => have ha' : (r.length : Int) + 1 ≤ 128 := hadd; have hb' : (b.length : Int) + 0 ≤ 256 := hbl; exact ⟨⟨hb, hr.append (R16.one h0), (show b.length ≤ 256 by omega), (show (r ++ [((4 : Int), x.getD 0 0)]).length ≤ 128 by simp; omega), hm, hR⟩, Nat.le_add_right _ _⟩
  | 56, _ => have hb' : (b.length : Int) + 1 ≤ 256 := hbl; exact ⟨good_push hb (D16.one (atV_rng hr 0 4)) hr.init (show r.dropLast.length ≤ 128 by rw [List.length_dropLast]; omega) hm hR (by simp; omega), Nat.le_add_right _ _⟩
  | 57, _ => have hb' : (b.length : Int) + 1 ≤ 256 := hbl; exact ⟨good_push hb (D16.one (atV_rng hr 0 4)) hr hrl hm hR (by simp; omega), Nat.le_add_right _ _⟩
  | 58, _ => have hb' : (b.length : Int) + 1 ≤ 256 := hbl; exact ⟨good_push hb (D16.one (atV_rng hr 0 3)) hr hrl hm hR (by simp; omega), Nat.le_add_right _ _⟩
  | 59, _ => have hb' : (b.length : Int) + 1 ≤ 256 := hbl; exact ⟨good_push hb (D16.one (atV_rng hr 2 3)) hr hrl hm hR (by simp; omega), Nat.le_add_right _ _⟩
  | 60, _ => have hb' : (b.length : Int) + 0 ≤ 256 := hbl; exact ⟨⟨hb, hr, (show b.length ≤ 256 by omega), hrl, plotF_ok hm _ _ _, plotF_rng hR _ _ _⟩, (Nat.le_trans (plotF_tones _ _ _ _) (by omega))⟩
  | 61, _ => have hb' : (b.length : Int) + 1 ≤ 256 := hbl; exact ⟨good_push hb (D16.one (⟨hR.pad.1, by have := hR.pad.2; omega⟩)) hr hrl hm hR (by simp; omega), Nat.le_add_right _ _⟩
  | 62, _ => have hb' : (b.length : Int) + 0 ≤ 256 := hbl; exact ⟨⟨hb, hr, (show b.length ≤ 256 by omega), hrl, playF_ok hm _ _, playF_rng hR _ (byte_rng _)⟩, (playF_tones _ _ _)⟩
  | 63, _ => have hb' : (b.length : Int) + 0 ≤ 256 := hbl; exact ⟨⟨hb, hr, (show b.length ≤ 256 by omega), hrl, storeF_ok _ hm 65280 (x.getD 0 0 % 256), storeF_rng hR 65280 (byte_rng (x.getD 0 0))⟩, (Nat.le_trans (storeF_tones m 65280 (x.getD 0 0 % 256)) (by omega))⟩
  | k + 64, hk => exact absurd hk (by omega)
theorem doF_good (k : Nat) (hk : k < 64) {d : List Int} {r : List (Int × Int)} {m : MemS} (h : Good3 d r m) : Good3 (doF k d r m).1 (doF k d r m).2.1 (doF k d r m).2.2 ∧ (doF k d r m).2.2.tones.length ≤ m.tones.length + 3 := by
  by_cases hf : faultF k d r = 0
  · have e : doF k d r m = actF k (d.take (d.length - (takesN k).toNat)) (d.drop (d.length - (takesN k).toNat)) r m := by unfold doF; rw [if_neg (by simpa using hf)]
    rw [e]
    by_cases h1 : needF d.length (takesN k) (leavesN k) = 0
    · have hl := takes_len hk h1
      have h3 : ¬ 128 < (r.length : Int) + addsF k := by
        intro h3
        unfold faultF at hf
        rw [if_neg (by simpa using h1)] at hf
        by_cases h2 : looksF k r = 0
        · rw [if_neg (by simpa using h2), if_pos h3] at hf; exact absurd hf (by decide)
        · rw [if_pos h2] at hf; exact h2 hf
      exact act_good k hk _ _ r m (h.d16.take _) (h.d16.drop _) h.r16 h.mo h.mr hl.1 hl.2 h.rl (by omega)
    · unfold faultF at hf
      rw [if_pos h1] at hf; exact absurd hf h1
  · have e : doF k d r m = (d, r, m) := by unfold doF; rw [if_pos hf]
    rw [e]; exact ⟨h, by simp⟩
/-- Do, told by what it comes to. -/
theorem do_at (k : Nat) (hk : k < 64) (hpl : plainB k = true) {G : Nat → Nat} {i j q D R M : Nat} {d d' : List Int} {r r' : List (Int × Int)} {m m' : MemS} (o : Own3 i j q) (hg : Good3 d r m) (hn : m.tones.length ≤ 99999) {w : World} (ht : Tabs w G) (h : Trio w G i j q D R M d r m)
    (hf : faultF k d r = 0) (he : doF k d r m = (d', r', m')) :
    Calls Tryd.prog 21 #[.int .i64 k, .pointer (some ⟨D, 0, none⟩), .pointer (some ⟨R, 0, none⟩), .pointer (some ⟨M, 0, none⟩)] w (Left3 i j q D R M w G d' r' m' (.int .i64 0)) := by
  have h1 := do_any k hk hpl G i j q D R M d r m o hg hn w ht h
  rw [hf, he] at h1
  exact h1
end Go.Proofs.YtdnalhjdmlkbmaaDoor
namespace Go.Proofs.YtdnalhjdmlkbmaaDoor
open Go.RowKit

theorem bits_hi (p : Nat) (h : p < 65536) : bits BinOp.and .u16 (p : Int) 65280 = ((p / 256 * 256 : Nat) : Int) := by
  show IntKind.wrap .u16 ((BitVec.ofInt 16 (p : Int) &&& BitVec.ofInt 16 ((65280 : Nat) : Int)).toNat : Nat) = _
  rw [BitVec.toNat_and, ofInt16 _ h, ofInt16 65280 (by omega)]
  have e : p &&& 65280 = p / 256 * 256 := by
    apply Nat.eq_of_testBit_eq
    intro j
    rw [Nat.testBit_and, show (65280 : Nat) = (2 ^ 8 - 1) * 2 ^ 8 from rfl, show (256 : Nat) = 2 ^ 8 from rfl, Nat.testBit_mul_two_pow, Nat.testBit_mul_two_pow, Nat.testBit_two_pow_sub_one, Nat.testBit_div_two_pow]
    by_cases h8 : 8 ≤ j
    · by_cases h16 : j < 16
      · simp [h8, show j - 8 < 8 from by omega]
      · have hz : p.testBit j = false := Nat.testBit_lt_two_pow (Nat.lt_of_lt_of_le h (Nat.pow_le_pow_right (n := 2) (by decide) (show 16 ≤ j by omega)))
        simp [show j - 8 + 8 = j from by omega, h8, hz]
    · simp [h8]
  rw [e]
  exact wrap_u16_id _ (by omega) (by omega)
theorem bits_lo (p : Nat) (h : p < 65536) : bits BinOp.and .u16 (p : Int) 255 = ((p % 256 : Nat) : Int) := by
  show IntKind.wrap .u16 ((BitVec.ofInt 16 (p : Int) &&& BitVec.ofInt 16 ((255 : Nat) : Int)).toNat : Nat) = _
  rw [BitVec.toNat_and, ofInt16 _ h, ofInt16 255 (by omega), show (255 : Nat) = 2 ^ 8 - 1 from rfl, Nat.and_two_pow_sub_one_eq_mod]
  exact wrap_u16_id _ (by omega) (by omega)
theorem bits_or_comm (x y : Int) : bits BinOp.or .u16 x y = bits BinOp.or .u16 y x := by
  show IntKind.wrap .u16 ((BitVec.ofInt 16 x ||| BitVec.ofInt 16 y).toNat : Nat) = IntKind.wrap .u16 ((BitVec.ofInt 16 y ||| BitVec.ofInt 16 x).toNat : Nat)
  rw [BitVec.or_comm]
/-- The low byte of the pitch, the high one. -/
theorem pitch_lo (p x : Int) (p0 : 0 ≤ p) (p1 : p < 65536) (x0 : 0 ≤ x) (x1 : x < 256) : bits BinOp.or .u16 (bits BinOp.and .u16 p 65280) (IntKind.wrap .u16 x) = p / 256 * 256 + x := by
  obtain ⟨n, rfl⟩ : ∃ n : Nat, p = n := ⟨p.toNat, by omega⟩
  obtain ⟨k, rfl⟩ : ∃ k : Nat, x = k := ⟨x.toNat, by omega⟩
  rw [bits_hi n (by omega), wrap_u16_id _ (by omega) (by omega), bits_or_comm, show ((n / 256 * 256 : Nat) : Int) = ((n / 256 : Nat) : Int) * 256 from by omega, bits_or_nat k (n / 256) (by omega) (by omega)]
  omega
theorem pitch_hi (p x : Int) (p0 : 0 ≤ p) (p1 : p < 65536) (x0 : 0 ≤ x) (x1 : x < 256) : bits BinOp.or .u16 (bits BinOp.and .u16 p 255) (IntKind.wrap .u16 (IntKind.wrap .u16 x * 256)) = x * 256 + p % 256 := by
  obtain ⟨n, rfl⟩ : ∃ n : Nat, p = n := ⟨p.toNat, by omega⟩
  obtain ⟨k, rfl⟩ : ∃ k : Nat, x = k := ⟨x.toNat, by omega⟩
  rw [bits_lo n (by omega), wrap_u16_id (k : Int) (by omega) (by omega), wrap_u16_id _ (by omega) (by omega), bits_or_nat (n % 256) k (by omega) (by omega)]
  omega
theorem nextA_eq (a : Int) (h0 : 0 ≤ a) (h : a < 65535) : nextA a = a + 1 := by unfold nextA; exact wrap_u16_id _ (by omega) (by omega)
theorem store_ram_eq (m : MemS) (k : Nat) (h : k < 16384) (x : Int) : storeF m (32768 + (k : Int)) x = { m with ram := m.ram.set k x } := by
  unfold storeF
  rw [if_neg (by omega), if_neg (by omega), if_pos (by omega), show (32768 + (k : Int) - 32768).toNat = k from by omega]
theorem load_ram_eq (m : MemS) (k : Nat) (h : k < 16384) : loadF m (32768 + (k : Int)) = m.ram.getD k 0 := by
  unfold loadF
  rw [if_neg (by omega), if_neg (by omega), if_pos (by omega), show (32768 + (k : Int) - 32768).toNat = k from by omega]
/-- What is stored as a cell is read again. -/
theorem cell_set (m : MemS) (hm : MemOk m) (a v : Int) (a0 : 32768 ≤ a) (a1 : a < 49151) (v0 : 0 ≤ v) (v1 : v < 65536) : cellF (setCellF m a v) a = v ∧ (setCellF m a v).tones = m.tones ∧ (setCellF m a v).cycle = m.cycle ∧ (setCellF m a v).pitch = m.pitch := by
  obtain ⟨k, rfl⟩ : ∃ k : Nat, a = 32768 + (k : Int) := ⟨(a - 32768).toNat, by omega⟩
  have hk : k + 1 < 16384 := by omega
  have hl := hm.ram
  have e : setCellF m (32768 + (k : Int)) v = { m with ram := (m.ram.set k (v % 256)).set (k + 1) (v / 256 % 256) } := by
    unfold setCellF
    rw [nextA_eq _ (by omega) (by omega), store_ram_eq m k (by omega), show (32768 + (k : Int) + 1) = 32768 + ((k + 1 : Nat) : Int) from by omega, store_ram_eq _ (k + 1) (by omega)]
  rw [e]
  refine ⟨?_, rfl, rfl, rfl⟩
  rw [cellF_pair, nextA_eq _ (by omega) (by omega), load_ram_eq _ k (by omega), show (32768 + (k : Int) + 1) = 32768 + ((k + 1 : Nat) : Int) from by omega, load_ram_eq _ (k + 1) (by omega)]
  have g1 : ((m.ram.set k (v % 256)).set (k + 1) (v / 256 % 256)).getD k 0 = v % 256 := by
    rw [List.getD_eq_getElem?_getD, List.getElem?_set_ne (by omega), List.getElem?_set_self (by omega)]; rfl
  have g2 : ((m.ram.set k (v % 256)).set (k + 1) (v / 256 % 256)).getD (k + 1) 0 = v / 256 % 256 := by
    rw [List.getD_eq_getElem?_getD, List.getElem?_set_self (by simp; omega)]; rfl
  show pairF (((m.ram.set k (v % 256)).set (k + 1) (v / 256 % 256)).getD k 0) (((m.ram.set k (v % 256)).set (k + 1) (v / 256 % 256)).getD (k + 1) 0) = v
  rw [g1, g2, pairF_eq _ _ (by omega) (by omega) (by omega) (by omega)]
  omega
/-- A pixel is plotted where it is read. -/
theorem plot_read (m : MemS) (hm : MemOk m) (x y c : Int) (x0 : 0 ≤ x) (x1 : x < 64) (y0 : 0 ≤ y) (y1 : y < 48) : loadF (plotF m x y c) (49152 + 64 * y + x) = c % 256 ∧ (plotF m x y c).tones = m.tones ∧ (plotF m x y c).cycle = m.cycle ∧ (plotF m x y c).pitch = m.pitch := by
  obtain ⟨k, hk⟩ : ∃ k : Nat, 64 * y + x = k := ⟨(64 * y + x).toNat, by omega⟩
  have hk2 : k < 3072 := by omega
  have ea : 49152 + 64 * y + x = 49152 + (k : Int) := by omega
  have hl := hm.screen
  have e : plotF m x y c = { m with screen := m.screen.set k (c % 256) } := by
    unfold plotF
    rw [if_pos ⟨x1, y1⟩, ea]
    unfold storeF
    rw [if_neg (by omega), if_neg (by omega), if_neg (by omega), if_pos (by omega), show (49152 + (k : Int) - 49152).toNat = k from by omega]
  rw [e]
  refine ⟨?_, rfl, rfl, rfl⟩
  rw [ea]
  unfold loadF
  rw [if_neg (by omega), if_neg (by omega), if_neg (by omega), if_pos (by omega), show (49152 + (k : Int) - 49152).toNat = k from by omega]
  show (m.screen.set k (c % 256)).getD k 0 = c % 256
  rw [List.getD_eq_getElem?_getD, List.getElem?_set_self (by omega)]; rfl
/-- A tone is heard as it was played. -/
theorem play_tones (m : MemS) (hm : MemR m) (p v : Int) (p0 : 0 ≤ p) (p1 : p < 65536) : (playF m p v).tones = m.tones ++ [(m.cycle, p, v)] := by
  unfold playF
  rw [nextA_eq _ (by decide) (by decide)]
  have e1 : storeF m 65284 (p % 256) = { m with pitch := m.pitch / 256 * 256 + p % 256 } := by
    rw [← pitch_lo m.pitch (p % 256) hm.pitch.1 hm.pitch.2 (by omega) (by omega)]; rfl
  have hq := hm.pitch
  have e2 : storeF { m with pitch := m.pitch / 256 * 256 + p % 256 } (65284 + 1) (p / 256 % 256) = { m with pitch := p } := by
    have h := pitch_hi (m.pitch / 256 * 256 + p % 256) (p / 256 % 256) (by omega) (by omega) (by omega) (by omega)
    have h2 : p / 256 % 256 * 256 + (m.pitch / 256 * 256 + p % 256) % 256 = p := by omega
    rw [h2] at h
    show ({ m with pitch := bits BinOp.or .u16 (bits BinOp.and .u16 (m.pitch / 256 * 256 + p % 256) 255) (IntKind.wrap .u16 (IntKind.wrap .u16 (p / 256 % 256) * 256)) } : MemS) = _
    rw [h]
  rw [e1, e2]; rfl
end Go.Proofs.YtdnalhjdmlkbmaaDoor
namespace Go.Proofs.YtdnalhjdmlkbmaaDoor
open Go.RowKit

/-- Where a machine stands. -/
structure VmS where
  pc : Int
  st : Int
  ft : Int
  d : List Int
  r : List (Int × Int)
  m : MemS
/-- The cell at an address of the code. -/
def codeB (code : List Int) (a : Int) : Bool := !(a % 2 == 1) && decide (a + 1 < code.length)
def codeV (code : List Int) (a : Int) : Int := if codeB code a = true then pairF (code.getD a.toNat 0) (code.getD (a.toNat + 1) 0) else 0
theorem codeV_rng (code : List Int) (a : Int) : 0 ≤ codeV code a ∧ codeV code a < 65536 := by
  unfold codeV; split
  · exact pairF_rng _ _
  · exact ⟨Int.le_refl _, by decide⟩
/-- Look: the primitive (0: none), its operand, the fault. -/
def lookOp (code : List Int) (s : VmS) : Nat := (codeV code (codeV code s.pc)).toNat
def lookX (code : List Int) (s : VmS) : Int :=
  if operandB (lookOp code s) = true then codeV code ((s.pc + 2) % 65536)
  else if lookOp code s = 2 then codeV code ((codeV code s.pc + 2) % 65536) else if lookOp code s = 1 then (codeV code s.pc + 2) % 65536 else 0
def lookOk (code : List Int) (s : VmS) : Bool :=
  if operandB (lookOp code s) = true then codeB code ((s.pc + 2) % 65536)
  else if lookOp code s = 2 then codeB code ((codeV code s.pc + 2) % 65536) else true
/-- The fault that Look tells of a machine that runs. -/
def lookE (code : List Int) (s : VmS) : Int :=
  if codeB code s.pc = false then 7 else if codeB code (codeV code s.pc) = false then 7 else if lookOp code s < 1 ∨ 64 ≤ lookOp code s then 6 else if lookOk code s = false then 7 else 0
/-- loops: does the loop go on; the fault; the return stack behind it. -/
def loopE (r : List (Int × Int)) : Int := if atE r 0 3 ≠ 0 then atE r 0 3 else atE r 1 2
def loopOn (r : List (Int × Int)) : Bool := (atV r 0 3 + 1) % 65536 != atV r 1 2
def loopR (r : List (Int × Int)) : List (Int × Int) := if loopOn r = true then r.dropLast ++ [(3, (atV r 0 3 + 1) % 65536)] else r.dropLast.dropLast
/-- Where the next instruction stands. -/
def nextF (k : Nat) (s : VmS) : Int := if operandB k = true then (s.pc + 2 + 2) % 65536 else (s.pc + 2) % 65536
/-- The fault of an instruction that was looked at. -/
def doesE (k : Nat) (s : VmS) : Int :=
  if needF s.d.length (takesN k) (leavesN k) ≠ 0 then needF s.d.length (takesN k) (leavesN k)
  else match k with
  | 1 => if s.r.length + 1 ≤ 128 then 0 else 4
  | 7 => loopE s.r
  | 8 => if s.r.length = 0 then 0 else atE s.r 0 1
  | 2 | 3 | 4 | 5 | 10 | 11 => 0
  | k => if plainB k = true then faultF k s.d s.r else 6
/-- What it does, where there is none. -/
def doesS (k : Nat) (x : Int) (s : VmS) : VmS :=
  match k with
  | 1 => { s with r := s.r ++ [(1, nextF 1 s)], pc := x }
  | 2 => { s with d := s.d ++ [x], pc := nextF 2 s }
  | 3 => { s with d := s.d ++ [x], pc := nextF 3 s }
  | 4 => { s with pc := x }
  | 5 => { s with d := s.d.dropLast, pc := if s.d.getD (s.d.length - 1) 0 ≠ 0 then nextF 5 s else x }
  | 7 => { s with r := loopR s.r, pc := if loopOn s.r = true then x else nextF 7 s }
  | 8 => if s.r.length = 0 then { s with st := 2, pc := nextF 8 s } else { s with r := s.r.dropLast, pc := atV s.r 0 1 }
  | 10 => { s with pc := nextF 10 s }
  | 11 => { s with st := 2, pc := nextF 11 s }
  | k => { s with d := (doF k s.d s.r s.m).1, r := (doF k s.d s.r s.m).2.1, m := (doF k s.d s.r s.m).2.2, pc := nextF k s }
/-- The fault of the next step of a machine that runs; the machine behind the step; was it yield? -/
def stepE (code : List Int) (s : VmS) : Int := if lookE code s ≠ 0 then lookE code s else doesE (lookOp code s) s
def stepS (code : List Int) (s : VmS) : VmS := if stepE code s ≠ 0 then { s with st := 3, ft := stepE code s } else doesS (lookOp code s) (lookX code s) s
def stepY (code : List Int) (s : VmS) : Bool := stepE code s == 0 && lookOp code s == 10
def costOf (code : List Int) (s : VmS) : Int := if lookE code s = 0 then costsN (lookOp code s) else 0
/-- Begin, At. -/
def beginF (m : MemS) (pad : Int) : MemS := { m with pad := pad, time := (m.time + 1) % 65536, cycle := 0, tones := [] }
def atF (m : MemS) (n : Int) : MemS := { m with cycle := n }
/-- A machine that may be: what New and Restore make, and what steps leave. -/
structure VmOk (code : List Int) (s : VmS) : Prop where
  gd : Good3 s.d s.r s.m
  pc0 : 0 ≤ s.pc
  pc1 : s.pc < 65536
  cb : B8 code
  cl : code.length ≤ 16384
theorem mod16 (n : Int) : 0 ≤ n % 65536 ∧ n % 65536 < 65536 := by omega
theorem nextF_rng (k : Nat) (s : VmS) : 0 ≤ nextF k s ∧ nextF k s < 65536 := by unfold nextF; split <;> omega
theorem lookX_rng (code : List Int) (s : VmS) : 0 ≤ lookX code s ∧ lookX code s < 65536 := by
  unfold lookX
  repeat' split
  all_goals first | exact codeV_rng _ _ | omega
theorem look_op (code : List Int) (s : VmS) (h : lookE code s = 0) : codeB code s.pc = true ∧ codeB code (codeV code s.pc) = true ∧ 1 ≤ lookOp code s ∧ lookOp code s < 64 ∧ lookOk code s = true := by
  unfold lookE at h
  split at h
  · exact absurd h (by decide)
  · split at h
    · exact absurd h (by decide)
    · split at h
      · exact absurd h (by decide)
      · split at h
        · exact absurd h (by decide)
        · rename_i h1 h2 h3 h4
          exact ⟨by simpa using h1, by simpa using h2, by omega, by omega, by simpa using h4⟩
theorem beginF_ok {m : MemS} (h : MemOk m) (p : Int) : MemOk (beginF m p) := ⟨h.ram, h.screen, h.banks⟩
theorem beginF_rng {m : MemS} (h : MemR m) {p : Int} (hp : 0 ≤ p ∧ p < 256) : MemR (beginF m p) := ⟨h.banks, h.ram, h.screen, h.chosen, hp, h.volume, h.pitch, mod16 _⟩
theorem atF_ok {m : MemS} (h : MemOk m) (p : Int) : MemOk (atF m p) := ⟨h.ram, h.screen, h.banks⟩
theorem atF_rng {m : MemS} (h : MemR m) (p : Int) : MemR (atF m p) := ⟨h.banks, h.ram, h.screen, h.chosen, h.pad, h.volume, h.pitch, h.time⟩
theorem atE_len {r : List (Int × Int)} {n : Nat} {kind : Int} (h : atE r n kind = 0) : n < r.length := by
  apply Nat.lt_of_not_le
  intro hn
  rw [(at_out (.inr (by omega))).2] at h
  exact absurd h (by decide)
theorem loopE_len {r : List (Int × Int)} (h : loopE r = 0) : atE r 0 3 = 0 ∧ atE r 1 2 = 0 ∧ 2 ≤ r.length := by
  unfold loopE at h
  split at h
  · contradiction
  · rename_i h1
    have h1' : atE r 0 3 = 0 := by simpa using h1
    exact ⟨h1', h, atE_len (n := 1) h⟩
theorem R16.loop {r : List (Int × Int)} (h : R16 r) : R16 (loopR r) := by
  unfold loopR; split
  · exact h.init.append (R16.one (mod16 _))
  · exact h.init.init
theorem loopR_len {r : List (Int × Int)} (h : 1 ≤ r.length) : (loopR r).length ≤ r.length := by
  unfold loopR; split
  · simp; omega
  · simp; omega
theorem D16.init {d : List Int} (h : D16 d) : D16 d.dropLast := fun x hx => h x (List.dropLast_subset _ hx)
theorem need1 {d : List Int} {p : Int} (h : needF d.length p 1 = 0) (hp : p = 0) : d.length + 1 ≤ 256 := by
  subst hp
  have := needF_ok (d := d) (p := 0) (q := 1) h (by decide) (by decide)
  omega
/-- Behind a step all may be again. -/
theorem does_ok (code : List Int) (k : Nat) (hk : k < 64) (x : Int) (hx : 0 ≤ x ∧ x < 65536) (s : VmS) (h : VmOk code s) (he : doesE k s = 0) : VmOk code (doesS k x s) ∧ (doesS k x s).m.tones.length ≤ s.m.tones.length + 3 := by
  have hn := nextF_rng k s
  obtain ⟨⟨h1, h2, h3, h4, h5, h6⟩, hp0, hp1, hcb, hcl⟩ := h
  have hneed : needF s.d.length (takesN k) (leavesN k) = 0 := by
    unfold doesE at he
    split at he
    · contradiction
    · rename_i h; simpa using h
  have gen : k ≠ 1 → k ≠ 2 → k ≠ 3 → k ≠ 4 → k ≠ 5 → k ≠ 7 → k ≠ 8 → k ≠ 10 → k ≠ 11 → doesS k x s = { s with d := (doF k s.d s.r s.m).1, r := (doF k s.d s.r s.m).2.1, m := (doF k s.d s.r s.m).2.2, pc := nextF k s } := by
    intro n1 n2 n3 n4 n5 n7 n8 n10 n11
    unfold doesS
    split <;> first | contradiction | rfl
  by_cases k1 : k = 1
  · subst k1
    have hl : s.r.length + 1 ≤ 128 := by
      unfold doesE at he
      rw [if_neg (by simpa using hneed)] at he
      show s.r.length + 1 ≤ 128
      by_cases hh : s.r.length + 1 ≤ 128
      · exact hh
      · exact absurd (show (4 : Int) = 0 from by simpa [hh] using he) (by decide)
    exact ⟨⟨⟨h1, h2.append (R16.one hn), h3, (show (s.r ++ [((1 : Int), nextF 1 s)]).length ≤ 128 by simp; omega), h5, h6⟩, hx.1, hx.2, hcb, hcl⟩, Nat.le_add_right _ _⟩
  by_cases k2 : k = 2
  · subst k2
    have hl := need1 (p := takesN 2) hneed rfl
    exact ⟨⟨⟨h1.append (D16.one hx), h2, (show (s.d ++ [x]).length ≤ 256 by simp; omega), h4, h5, h6⟩, hn.1, hn.2, hcb, hcl⟩, Nat.le_add_right _ _⟩
  by_cases k3 : k = 3
  · subst k3
    have hl := need1 (p := takesN 3) hneed rfl
    exact ⟨⟨⟨h1.append (D16.one hx), h2, (show (s.d ++ [x]).length ≤ 256 by simp; omega), h4, h5, h6⟩, hn.1, hn.2, hcb, hcl⟩, Nat.le_add_right _ _⟩
  by_cases k4 : k = 4
  · subst k4
    exact ⟨⟨⟨h1, h2, h3, h4, h5, h6⟩, hx.1, hx.2, hcb, hcl⟩, Nat.le_add_right _ _⟩
  by_cases k5 : k = 5
  · subst k5
    have hpc : 0 ≤ (doesS 5 x s).pc ∧ (doesS 5 x s).pc < 65536 := by
      show 0 ≤ (if s.d.getD (s.d.length - 1) 0 ≠ 0 then nextF 5 s else x) ∧ (if s.d.getD (s.d.length - 1) 0 ≠ 0 then nextF 5 s else x) < 65536
      split
      · exact hn
      · exact hx
    exact ⟨⟨⟨h1.init, h2, (show s.d.dropLast.length ≤ 256 by simp; omega), h4, h5, h6⟩, hpc.1, hpc.2, hcb, hcl⟩, Nat.le_add_right _ _⟩
  by_cases k7 : k = 7
  · subst k7
    have hl : loopE s.r = 0 := by
      unfold doesE at he
      rw [if_neg (by simpa using hneed)] at he
      exact he
    have hl2 := loopE_len hl
    have hpc : 0 ≤ (doesS 7 x s).pc ∧ (doesS 7 x s).pc < 65536 := by
      show 0 ≤ (if loopOn s.r = true then x else nextF 7 s) ∧ (if loopOn s.r = true then x else nextF 7 s) < 65536
      split
      · exact hx
      · exact hn
    exact ⟨⟨⟨h1, h2.loop, h3, (show (loopR s.r).length ≤ 128 from Nat.le_trans (loopR_len (by omega)) h4), h5, h6⟩, hpc.1, hpc.2, hcb, hcl⟩, Nat.le_add_right _ _⟩
  by_cases k8 : k = 8
  · subst k8
    by_cases hz : s.r.length = 0
    · have e : doesS 8 x s = { s with st := 2, pc := nextF 8 s } := if_pos hz
      rw [e]
      exact ⟨⟨⟨h1, h2, h3, h4, h5, h6⟩, hn.1, hn.2, hcb, hcl⟩, Nat.le_add_right _ _⟩
    · have e : doesS 8 x s = { s with r := s.r.dropLast, pc := atV s.r 0 1 } := if_neg hz
      rw [e]
      exact ⟨⟨⟨h1, h2.init, h3, (show s.r.dropLast.length ≤ 128 by simp; omega), h5, h6⟩, (atV_rng h2 0 1).1, (atV_rng h2 0 1).2, hcb, hcl⟩, Nat.le_add_right _ _⟩
  by_cases k10 : k = 10
  · subst k10
    exact ⟨⟨⟨h1, h2, h3, h4, h5, h6⟩, hn.1, hn.2, hcb, hcl⟩, Nat.le_add_right _ _⟩
  by_cases k11 : k = 11
  · subst k11
    exact ⟨⟨⟨h1, h2, h3, h4, h5, h6⟩, hn.1, hn.2, hcb, hcl⟩, Nat.le_add_right _ _⟩
  rw [gen k1 k2 k3 k4 k5 k7 k8 k10 k11]
  have hg := doF_good k hk ⟨h1, h2, h3, h4, h5, h6⟩
  exact ⟨⟨hg.1, hn.1, hn.2, hcb, hcl⟩, hg.2⟩
theorem step_ok (code : List Int) (s : VmS) (h : VmOk code s) : VmOk code (stepS code s) ∧ (stepS code s).m.tones.length ≤ s.m.tones.length + 3 := by
  unfold stepS
  split
  · exact ⟨⟨h.gd, h.pc0, h.pc1, h.cb, h.cl⟩, Nat.le_add_right _ _⟩
  · rename_i he
    have he' : stepE code s = 0 := by simpa using he
    have hl : lookE code s = 0 := by
      unfold stepE at he'
      split at he'
      · contradiction
      · rename_i h; simpa using h
    have hd : doesE (lookOp code s) s = 0 := by
      unfold stepE at he'
      rw [if_neg (by simpa using hl)] at he'
      exact he'
    exact does_ok code _ (look_op code s hl).2.2.2.1 _ (lookX_rng code s) s h hd
end Go.Proofs.YtdnalhjdmlkbmaaDoor
namespace Go.Proofs.YtdnalhjdmlkbmaaDoor
open Go.RowKit
set_option linter.unusedVariables false

/-- The loop of a frame: the machine behind it, its steps, its cycles. -/
def frameGo (code : List Int) (budget : Int) : Nat → VmS → Int → Int → VmS × Int × Int
  | 0, s, n, c => (s, n, c)
  | f + 1, s, n, c =>
    if s.st = 1 ∧ c < budget then
      if lookE code s = 0 ∧ budget < c + costOf code s then (s, n, c)
      else if stepE code { s with m := atF s.m c } ≠ 0 then (stepS code { s with m := atF s.m c }, n, c)
      else if stepY code { s with m := atF s.m c } = true then (stepS code { s with m := atF s.m c }, n + 1, c + costOf code s)
      else frameGo code budget f (stepS code { s with m := atF s.m c }) (n + 1) (c + costOf code s)
    else (s, n, c)
/-- What is left of a frame: y: it has yielded. -/
def frameRest (code : List Int) (budget : Int) (f : Nat) (y : Bool) (s : VmS) (n c : Int) : VmS × Int × Int := if y = true then (s, n, c) else frameGo code budget f s n c
/-- A frame: the machine behind it, its steps, its cycles. -/
def frameF (code : List Int) (pad budget : Int) (s : VmS) : VmS × Int × Int := frameGo code budget budget.toNat { s with m := beginF s.m pad } 0 0
theorem costs_pos : ∀ k, k < 64 → 1 ≤ k → 1 ≤ costsN k ∧ costsN k ≤ 4 := by decide
theorem cost_rng (code : List Int) (s : VmS) (h : lookE code s = 0) : 1 ≤ costOf code s ∧ costOf code s ≤ 4 := by
  unfold costOf
  rw [if_pos h]
  have hl := look_op code s h
  exact costs_pos _ hl.2.2.2.1 hl.2.2.1
theorem cost_rng0 (code : List Int) (s : VmS) : 0 ≤ costOf code s ∧ costOf code s ≤ 4 := by
  by_cases h : lookE code s = 0
  · have := cost_rng code s h; omega
  · unfold costOf; rw [if_neg h]; decide
theorem look_at (code : List Int) (s : VmS) (m : MemS) : lookE code { s with m := m } = lookE code s ∧ lookOp code { s with m := m } = lookOp code s ∧ lookX code { s with m := m } = lookX code s ∧ costOf code { s with m := m } = costOf code s := ⟨rfl, rfl, rfl, rfl⟩
theorem stepE_look (code : List Int) (s : VmS) (h : stepE code s = 0) : lookE code s = 0 := by
  unfold stepE at h
  split at h
  · contradiction
  · rename_i h2; simpa using h2
theorem step_st (code : List Int) (s : VmS) (h : stepE code s ≠ 0) : stepS code s = { s with st := 3, ft := stepE code s } := if_pos h
theorem does_st (k : Nat) (x : Int) (s : VmS) (h : s.st = 1) : (doesS k x s).st = 1 ∨ (doesS k x s).st = 2 := by
  unfold doesS
  split
  all_goals first | exact .inl h | exact .inr rfl | skip
  split
  · exact .inr rfl
  · exact .inl h
theorem does_ft (k : Nat) (x : Int) (s : VmS) : (doesS k x s).ft = s.ft := by
  unfold doesS
  split
  all_goals first | rfl | skip
  split <;> rfl
theorem step_st_ok (code : List Int) (s : VmS) (hs : s.st = 1) (h : stepE code s = 0) : (stepS code s).st = 1 ∨ (stepS code s).st = 2 := by
  unfold stepS
  rw [if_neg (by simpa using h)]
  exact does_st _ _ s hs
/-- The frame's rounds. -/
theorem go_stop (code : List Int) (budget : Int) (f : Nat) (s : VmS) (n c : Int) (h : ¬ (s.st = 1 ∧ c < budget)) : frameGo code budget f s n c = (s, n, c) := by
  cases f with
  | zero => rfl
  | succ f => unfold frameGo; rw [if_neg h]
theorem go_break (code : List Int) (budget : Int) (f : Nat) (s : VmS) (n c : Int) (hf : 0 < f) (h : s.st = 1 ∧ c < budget) (h2 : lookE code s = 0 ∧ budget < c + costOf code s) : frameGo code budget f s n c = (s, n, c) := by
  obtain ⟨f, rfl⟩ : ∃ k, f = k + 1 := ⟨f - 1, by omega⟩
  unfold frameGo; rw [if_pos h, if_pos h2]
theorem go_fault (code : List Int) (budget : Int) (f : Nat) (s : VmS) (n c : Int) (hf : 0 < f) (h : s.st = 1 ∧ c < budget) (h2 : ¬ (lookE code s = 0 ∧ budget < c + costOf code s)) (h3 : stepE code { s with m := atF s.m c } ≠ 0) :
    frameGo code budget f s n c = (stepS code { s with m := atF s.m c }, n, c) := by
  obtain ⟨f, rfl⟩ : ∃ k, f = k + 1 := ⟨f - 1, by omega⟩
  unfold frameGo; rw [if_pos h, if_neg h2, if_pos h3]
theorem go_step (code : List Int) (budget : Int) (f : Nat) (s : VmS) (n c : Int) (h : s.st = 1 ∧ c < budget) (h2 : ¬ (lookE code s = 0 ∧ budget < c + costOf code s)) (h3 : stepE code { s with m := atF s.m c } = 0) :
    frameGo code budget (f + 1) s n c = frameRest code budget f (stepY code { s with m := atF s.m c }) (stepS code { s with m := atF s.m c }) (n + 1) (c + costOf code s) := by
  unfold frameGo frameRest
  rw [if_pos h, if_neg h2, if_neg (by simpa using h3)]
end Go.Proofs.YtdnalhjdmlkbmaaDoor
namespace Go.Proofs.YtdnalhjdmlkbmaaDoor
set_option linter.unusedVariables false
/-- The same, but for the order of the banks. -/
structure MemEq (m m' : MemS) : Prop where
  banks : ∀ c, bankF m.banks c = bankF m'.banks c
  rest : { m with banks := [] } = { m' with banks := [] }
theorem MemEq.refl (m : MemS) : MemEq m m := ⟨fun _ => rfl, rfl⟩
theorem MemEq.symm {m m' : MemS} (h : MemEq m m') : MemEq m' m := ⟨fun c => (h.banks c).symm, h.rest.symm⟩
theorem MemEq.trans {a b c : MemS} (h : MemEq a b) (k : MemEq b c) : MemEq a c := ⟨fun x => (h.banks x).trans (k.banks x), h.rest.trans k.rest⟩
theorem MemEq.cases {m m' : MemS} (h : MemEq m m') : ∃ l, m' = { m with banks := l } ∧ ∀ c, bankF m.banks c = bankF l c := by
  refine ⟨m'.banks, ?_, h.banks⟩
  have := h.rest
  cases m; cases m'
  simp at this ⊢
  exact ⟨this.1.symm, this.2.1.symm, this.2.2.1.symm, this.2.2.2.1.symm, this.2.2.2.2.1.symm, this.2.2.2.2.2.1.symm, this.2.2.2.2.2.2.1.symm, this.2.2.2.2.2.2.2.1.symm, this.2.2.2.2.2.2.2.2.symm⟩
theorem bankF_set (ch : Int) (k : Nat) (x : Int) : ∀ (l : List (Int × List Int)) (c : Int), bankF (bankSet l ch k x) c = if c = ch then (bankF l c).map (·.set k x) else bankF l c := by
  intro l
  induction l with
  | nil => intro c; simp [bankSet, bankF]
  | cons p l ih =>
    intro c
    by_cases e : p.1 = ch
    · unfold bankSet
      rw [if_pos e]
      by_cases e2 : c = ch
      · rw [if_pos e2]
        simp [bankF, e, e2]
      · rw [if_neg e2]
        have e3 : ¬ p.1 = c := fun h => e2 (h.symm.trans e)
        simp [bankF, e3]
    · unfold bankSet
      rw [if_neg e]
      by_cases e3 : p.1 = c
      · have e2 : ¬ c = ch := fun h => e (e3.trans h)
        rw [if_neg e2]
        simp [bankF, e3]
      · have := ih c
        simp only [bankF, if_neg e3]
        exact this
theorem load_eq {m m' : MemS} (h : MemEq m m') (a : Int) : loadF m a = loadF m' a := by
  obtain ⟨l, rfl, hb⟩ := h.cases
  unfold loadF
  rw [hb]
  rfl
theorem store_eq {m m' : MemS} (h : MemEq m m') (a x : Int) : MemEq (storeF m a x) (storeF m' a x) := by
  obtain ⟨l, rfl, hb⟩ := h.cases
  unfold storeF
  by_cases c1 : a < 16384
  · rw [if_pos c1, if_pos c1]; exact h
  rw [if_neg c1, if_neg c1]
  by_cases c2 : a < 32768
  · rw [if_pos c2, if_pos c2]
    exact ⟨fun c => by show bankF (bankSet m.banks m.chosen _ x) c = bankF (bankSet l m.chosen _ x) c; rw [bankF_set, bankF_set, hb], rfl⟩
  rw [if_neg c2, if_neg c2]
  repeat' split
  all_goals exact ⟨hb, rfl⟩
theorem cell_eq {m m' : MemS} (h : MemEq m m') (a : Int) : cellF m a = cellF m' a := by
  unfold cellF
  simp only [load_eq h]
theorem setCell_eq {m m' : MemS} (h : MemEq m m') (a x : Int) : MemEq (setCellF m a x) (setCellF m' a x) := store_eq (store_eq h _ _) _ _
theorem plot_eq {m m' : MemS} (h : MemEq m m') (x y c : Int) : MemEq (plotF m x y c) (plotF m' x y c) := by
  unfold plotF
  split
  · exact store_eq h _ _
  · exact h
theorem play_eq {m m' : MemS} (h : MemEq m m') (p v : Int) : MemEq (playF m p v) (playF m' p v) := store_eq (store_eq (store_eq h _ _) _ _) _ _
/-- What a primitive does with like memories is alike. -/
structure Eq3 (a b : List Int × List (Int × Int) × MemS) : Prop where
  d : a.1 = b.1
  r : a.2.1 = b.2.1
  m : MemEq a.2.2 b.2.2
set_option maxRecDepth 100000 in
set_option maxHeartbeats 1000000 in
theorem act_eq {m m' : MemS} (h : MemEq m m') (k : Nat) (hk : k < 64) (b x : List Int) (r : List (Int × Int)) : Eq3 (actF k b x r m) (actF k b x r m') := by
  have hp : m.pad = m'.pad := by obtain ⟨l, rfl, -⟩ := h.cases; rfl
  match k, hk with
  | 0, _ => exact ⟨rfl, rfl, h⟩
  | 1, _ => exact ⟨rfl, rfl, h⟩
  | 2, _ => exact ⟨rfl, rfl, h⟩
  | 3, _ => exact ⟨rfl, rfl, h⟩
  | 4, _ => exact ⟨rfl, rfl, h⟩
  | 5, _ => exact ⟨rfl, rfl, h⟩
  | 6, _ => exact ⟨rfl, rfl, h⟩
  | 7, _ => exact ⟨rfl, rfl, h⟩
  | 8, _ => exact ⟨rfl, rfl, h⟩
  | 9, _ => exact ⟨rfl, rfl, h⟩
  | 10, _ => exact ⟨rfl, rfl, h⟩
  | 11, _ => exact ⟨rfl, rfl, h⟩
  | 12, _ => exact ⟨rfl, rfl, h⟩
  | 13, _ => exact ⟨rfl, rfl, h⟩
  | 14, _ => exact ⟨rfl, rfl, h⟩
  | 15, _ => exact ⟨rfl, rfl, h⟩
  | 16, _ => exact ⟨rfl, rfl, h⟩
  | 17, _ => exact ⟨rfl, rfl, h⟩
  | 18, _ => exact ⟨rfl, rfl, h⟩
  | 19, _ => exact ⟨rfl, rfl, h⟩
  | 20, _ => exact ⟨rfl, rfl, h⟩
  | 21, _ => exact ⟨rfl, rfl, h⟩
  | 22, _ => exact ⟨rfl, rfl, h⟩
  | 23, _ => exact ⟨rfl, rfl, h⟩
  | 24, _ => exact ⟨rfl, rfl, h⟩
  | 25, _ => exact ⟨rfl, rfl, h⟩
  | 26, _ => exact ⟨rfl, rfl, h⟩
  | 27, _ => exact ⟨rfl, rfl, h⟩
  | 28, _ => exact ⟨rfl, rfl, h⟩
  | 29, _ => exact ⟨rfl, rfl, h⟩
  | 30, _ => exact ⟨rfl, rfl, h⟩
  | 31, _ => exact ⟨rfl, rfl, h⟩
  | 32, _ => exact ⟨rfl, rfl, h⟩
  | 33, _ => exact ⟨rfl, rfl, h⟩
  | 34, _ => exact ⟨rfl, rfl, h⟩
  | 35, _ => exact ⟨rfl, rfl, h⟩
  | 36, _ => exact ⟨rfl, rfl, h⟩
  | 37, _ => exact ⟨rfl, rfl, h⟩
  | 38, _ => exact ⟨rfl, rfl, h⟩
  | 39, _ => exact ⟨rfl, rfl, h⟩
  | 40, _ => exact ⟨rfl, rfl, h⟩
  | 41, _ => exact ⟨rfl, rfl, h⟩
  | 42, _ => exact ⟨rfl, rfl, h⟩
  | 43, _ => exact ⟨rfl, rfl, h⟩
  | 44, _ => exact ⟨rfl, rfl, h⟩
  | 45, _ => exact ⟨rfl, rfl, h⟩
  | 46, _ => exact ⟨rfl, rfl, h⟩
  | 47, _ => exact ⟨rfl, rfl, h⟩
  | 48, _ => exact ⟨rfl, rfl, h⟩
  | 49, _ => exact ⟨rfl, rfl, h⟩
  | 50, _ => exact ⟨(show b ++ [cellF m (x.getD 0 0)] = b ++ [cellF m' (x.getD 0 0)] from by rw [cell_eq h]), rfl, h⟩
  | 51, _ => exact ⟨rfl, rfl, setCell_eq h _ _⟩
  | 52, _ => exact ⟨(show b ++ [loadF m (x.getD 0 0)] = b ++ [loadF m' (x.getD 0 0)] from by rw [load_eq h]), rfl, h⟩
  | 53, _ => exact ⟨rfl, rfl, store_eq h (x.getD 1 0) (x.getD 0 0 % 256)⟩
  | 54, _ => exact ⟨rfl, rfl, (show MemEq (setCellF m (x.getD 1 0) ((cellF m (x.getD 1 0) + x.getD 0 0) % 65536)) (setCellF m' (x.getD 1 0) ((cellF m' (x.getD 1 0) + x.getD 0 0) % 65536)) from by rw [cell_eq h]; exact setCell_eq h _ _)⟩
  | 55, _ => exact ⟨rfl, rfl, h⟩
  | 56, _ => exact ⟨rfl, rfl, h⟩
  | 57, _ => exact ⟨rfl, rfl, h⟩
  | 58, _ => exact ⟨rfl, rfl, h⟩
  | 59, _ => exact ⟨rfl, rfl, h⟩
  | 60, _ => exact ⟨rfl, rfl, plot_eq h _ _ _⟩
  | 61, _ => exact ⟨(show b ++ [m.pad] = b ++ [m'.pad] from by rw [hp]), rfl, h⟩
  | 62, _ => exact ⟨rfl, rfl, play_eq h _ _⟩
  | 63, _ => exact ⟨rfl, rfl, store_eq h 65280 (x.getD 0 0 % 256)⟩
  | k + 64, hk => exact absurd hk (by omega)
theorem do_eq {m m' : MemS} (h : MemEq m m') (k : Nat) (hk : k < 64) (d : List Int) (r : List (Int × Int)) : Eq3 (doF k d r m) (doF k d r m') := by
  unfold doF
  split
  · exact ⟨rfl, rfl, h⟩
  · exact act_eq h k hk _ _ _
/-- Machines that are alike but for the order of their banks. -/
structure VmEq (s s' : VmS) : Prop where
  m : MemEq s.m s'.m
  rest : { s with m := s'.m } = s'
theorem VmEq.refl (s : VmS) : VmEq s s := ⟨MemEq.refl _, rfl⟩
theorem VmEq.look {s s' : VmS} (h : VmEq s s') (code : List Int) : lookE code s = lookE code s' ∧ lookOp code s = lookOp code s' ∧ lookX code s = lookX code s' ∧ costOf code s = costOf code s' := by
  rw [← h.rest]
  exact ⟨rfl, rfl, rfl, rfl⟩
theorem VmEq.doesE {s s' : VmS} (h : VmEq s s') (k : Nat) : Go.Proofs.YtdnalhjdmlkbmaaDoor.doesE k s = Go.Proofs.YtdnalhjdmlkbmaaDoor.doesE k s' := by
  rw [← h.rest]
  rfl
theorem VmEq.stepE {s s' : VmS} (h : VmEq s s') (code : List Int) : Go.Proofs.YtdnalhjdmlkbmaaDoor.stepE code s = Go.Proofs.YtdnalhjdmlkbmaaDoor.stepE code s' := by
  rw [← h.rest]
  rfl
def genS (k : Nat) (s : VmS) : VmS := { s with d := (doF k s.d s.r s.m).1, r := (doF k s.d s.r s.m).2.1, m := (doF k s.d s.r s.m).2.2, pc := nextF k s }
theorem gen_eq (k : Nat) (hk : k < 64) (s : VmS) {m' : MemS} (h : MemEq s.m m') : VmEq (genS k s) (genS k { s with m := m' }) := by
  have e := do_eq h k hk s.d s.r
  refine ⟨e.m, ?_⟩
  show VmS.mk (nextF k s) s.st s.ft (doF k s.d s.r s.m).1 (doF k s.d s.r s.m).2.1 (doF k s.d s.r m').2.2 = VmS.mk (nextF k s) s.st s.ft (doF k s.d s.r m').1 (doF k s.d s.r m').2.1 (doF k s.d s.r m').2.2
  rw [e.d, e.r]
set_option maxRecDepth 100000 in
set_option maxHeartbeats 1000000 in
theorem does_eq0 (k : Nat) (hk : k < 64) (x : Int) (s : VmS) {m' : MemS} (h : MemEq s.m m') : VmEq (doesS k x s) (doesS k x { s with m := m' }) := by
  match k, hk with
  | 0, _ => exact gen_eq 0 (by decide) s h
  | 1, _ => exact ⟨h, rfl⟩
  | 2, _ => exact ⟨h, rfl⟩
  | 3, _ => exact ⟨h, rfl⟩
  | 4, _ => exact ⟨h, rfl⟩
  | 5, _ => exact ⟨h, rfl⟩
  | 6, _ => exact gen_eq 6 (by decide) s h
  | 7, _ => exact ⟨h, rfl⟩
  | 8, _ =>
    show VmEq (if s.r.length = 0 then { s with st := 2, pc := nextF 8 s } else { s with r := s.r.dropLast, pc := atV s.r 0 1 }) (if s.r.length = 0 then { s with m := m', st := 2, pc := nextF 8 s } else { s with m := m', r := s.r.dropLast, pc := atV s.r 0 1 })
    split
    · exact ⟨h, rfl⟩
    · exact ⟨h, rfl⟩
  | 9, _ => exact gen_eq 9 (by decide) s h
  | 10, _ => exact ⟨h, rfl⟩
  | 11, _ => exact ⟨h, rfl⟩
  | 12, _ => exact gen_eq 12 (by decide) s h
  | 13, _ => exact gen_eq 13 (by decide) s h
  | 14, _ => exact gen_eq 14 (by decide) s h
  | 15, _ => exact gen_eq 15 (by decide) s h
  | 16, _ => exact gen_eq 16 (by decide) s h
  | 17, _ => exact gen_eq 17 (by decide) s h
  | 18, _ => exact gen_eq 18 (by decide) s h
  | 19, _ => exact gen_eq 19 (by decide) s h
  | 20, _ => exact gen_eq 20 (by decide) s h
  | 21, _ => exact gen_eq 21 (by decide) s h
  | 22, _ => exact gen_eq 22 (by decide) s h
  | 23, _ => exact gen_eq 23 (by decide) s h
  | 24, _ => exact gen_eq 24 (by decide) s h
  | 25, _ => exact gen_eq 25 (by decide) s h
  | 26, _ => exact gen_eq 26 (by decide) s h
  | 27, _ => exact gen_eq 27 (by decide) s h
  | 28, _ => exact gen_eq 28 (by decide) s h
  | 29, _ => exact gen_eq 29 (by decide) s h
  | 30, _ => exact gen_eq 30 (by decide) s h
  | 31, _ => exact gen_eq 31 (by decide) s h
  | 32, _ => exact gen_eq 32 (by decide) s h
  | 33, _ => exact gen_eq 33 (by decide) s h
  | 34, _ => exact gen_eq 34 (by decide) s h
  | 35, _ => exact gen_eq 35 (by decide) s h
  | 36, _ => exact gen_eq 36 (by decide) s h
  | 37, _ => exact gen_eq 37 (by decide) s h
  | 38, _ => exact gen_eq 38 (by decide) s h
  | 39, _ => exact gen_eq 39 (by decide) s h
  | 40, _ => exact gen_eq 40 (by decide) s h
  | 41, _ => exact gen_eq 41 (by decide) s h
  | 42, _ => exact gen_eq 42 (by decide) s h
  | 43, _ => exact gen_eq 43 (by decide) s h
  | 44, _ => exact gen_eq 44 (by decide) s h
  | 45, _ => exact gen_eq 45 (by decide) s h
  | 46, _ => exact gen_eq 46 (by decide) s h
  | 47, _ => exact gen_eq 47 (by decide) s h
  | 48, _ => exact gen_eq 48 (by decide) s h
  | 49, _ => exact gen_eq 49 (by decide) s h
  | 50, _ => exact gen_eq 50 (by decide) s h
  | 51, _ => exact gen_eq 51 (by decide) s h
  | 52, _ => exact gen_eq 52 (by decide) s h
  | 53, _ => exact gen_eq 53 (by decide) s h
  | 54, _ => exact gen_eq 54 (by decide) s h
  | 55, _ => exact gen_eq 55 (by decide) s h
  | 56, _ => exact gen_eq 56 (by decide) s h
  | 57, _ => exact gen_eq 57 (by decide) s h
  | 58, _ => exact gen_eq 58 (by decide) s h
  | 59, _ => exact gen_eq 59 (by decide) s h
  | 60, _ => exact gen_eq 60 (by decide) s h
  | 61, _ => exact gen_eq 61 (by decide) s h
  | 62, _ => exact gen_eq 62 (by decide) s h
  | 63, _ => exact gen_eq 63 (by decide) s h
  | k + 64, hk => exact absurd hk (by omega)
theorem step_eq {s s' : VmS} (h : VmEq s s') (code : List Int) : VmEq (stepS code s) (stepS code s') := by
  have e := h.stepE code
  have l := h.look code
  rw [← h.rest] at e l ⊢
  unfold stepS
  rw [← e]
  split
  · exact ⟨h.m, rfl⟩
  · rename_i he
    have he' : Go.Proofs.YtdnalhjdmlkbmaaDoor.stepE code s = 0 := by simpa using he
    have hl := stepE_look code s he'
    exact does_eq0 _ (look_op code s hl).2.2.2.1 _ s h.m
end Go.Proofs.YtdnalhjdmlkbmaaDoor
namespace Go.Proofs.YtdnalhjdmlkbmaaDoor
open Go.RowKit

/-- A row that was made from nothing may be given to whomever. -/
theorem fresh_row {e size : Nat} {w w' : World} {Gx : Nat → Nat} {v : Value} {n : Nat} {xs : List Value} (ha : Adv (fun o => o = 9) w (fun _ => 0) w' Gx) (hr : Row e size w' Gx 9 v n xs) (G : Nat → Nat) (p : Nat) :
    Adv (fun _ => False) w G w' (newTo w G p) ∧ Row e size w' (newTo w G p) p v n xs := by
  refine ⟨ha.relabel (fun _ _ => by decide) (fun _ hb => newTo_old hb), hr.row, fun b hb => ?_⟩
  have h9 := hr.own b hb
  refine newTo_new ?_
  apply Nat.le_of_not_lt
  intro hlt
  rw [ha.own b hlt] at h9
  exact absurd h9 (by decide)
theorem tonesC_length (l : List (Int × Int × Int)) : (tonesC l).length = l.length * 3 := by
  induction l with
  | nil => rfl
  | cons a l ih => simp only [tonesC, List.flatMap_cons, List.length_append, List.length_cons, List.length_nil] at ih ⊢; omega
theorem tonesC_one (l : List (Int × Int × Int)) : ∀ u ∈ tonesC l, u.oneCell' = true := by
  intro u hu
  simp only [tonesC, List.mem_flatMap] at hu
  obtain ⟨t, _, ht⟩ := hu
  simp at ht
  rcases ht with rfl | rfl | rfl <;> rfl
/-- Tones in new memory. -/
def NewTones (w : World) (G : Nat → Nat) (p n : Nat) (l : List (Int × Int × Int)) (e : Ending) (w' : World) : Prop := ∃ ta' c' G', e = .returned (.slice ta' n c') ∧ Adv (fun _ => False) w G w' G' ∧ Row 68 3 w' G' p (.slice ta' n c') n (tonesC l)
set_option maxRecDepth 100000 in
set_option maxHeartbeats 400000 in
theorem clone_tones (G : Nat → Nat) (q p : Nat) (ta : Option Addr) (n c : Nat) (l : List (Int × Int × Int)) (hn : n ≤ 1000000) (w : World) (hl : l.length = n) (hr : Row 68 3 w G q (.slice ta n c) n (tonesC l)) :
    Calls Tryd.prog 66 #[.slice ta n c] w (NewTones w G p n l) := by
  obtain ⟨i0, hi, hz0, hz1, hz2⟩ := info_parts Tryd.info68
  have hE := fun (w : World) (a : Option Addr) (l c : Nat) => Lib.run_eql_slice_nil (P := Tryd.prog) w 65 68 a l c 0 0 Tryd.underlying65
  rcases hr.row.2 with ⟨e, e2⟩ | ⟨g, cap, cur, e, _⟩
  · cases e
    obtain rfl := List.eq_nil_of_length_eq_zero hl
    clear e2
    go_enter Tryd.func66, Tryd.ntmps66
    go_wp2
    go_ret
    exact ⟨none, 0, G, rfl, Adv.refl _ _ _, Row.nil _ _ _ _ _⟩
  · cases e
    have HX := Lib.hid (hr.reads.alloc (.cells #[] 68))
    have HA0 := Lib.hid ((Adv.refl (fun b => b = 9) w (fun _ => 0)).alloc (.cells #[] 68) 9)
    have HR0 := Lib.hid (Row.new w (fun _ => 0) 68 3 9 0 [] (Nat.zero_le _) rfl)
    have HL := Lib.hid hl
    clear hr hl
    go_enter Tryd.func66, Tryd.ntmps66
    go_wp2_with (at_builtin; refine wpList_append_reads rfl (.tmp 5) (.tmp 6) 65 rfl 68 i0 (.agg #[.int .i64 0, .int .u16 0, .int .u8 0]) 3 16 Tryd.underlying65 hi hz0 hz1 hz2 rfl (by decide) _ 9 (some ⟨w.heap.size, 0, none⟩) 0 0 [] rfl HR0.out (some ⟨g, 0, none⟩) n c (tonesC l) rfl (by rw [tonesC_length, HL.out]) HX.out (tonesC_one l) (by unfold maxLen; omega) (by omega) ?_; intro va1 vc1 w1 G1 h1 h2; rw [Nat.zero_add, List.nil_append] at h1; rw [Nat.zero_add]; have HR1 := Lib.hid h1; have HA1 := Lib.hid (HA0.out.trans h2); clear h1 h2)
    go_ret
    exact ⟨va1, vc1, _, rfl, fresh_row HA1.out HR1.out G p⟩
/-- Tones. -/
theorem tones_any (G : Nat → Nat) (q p M : Nat) (m : MemS) (hm : MemOk m) (hn : m.tones.length ≤ 1000000) (w : World) (hp : PM w G q M m) :
    Calls Tryd.prog 31 #[.pointer (some ⟨M, 0, none⟩)] w (NewTones w G p m.tones.length m.tones) := by
  obtain ⟨B, bs, tv, hp⟩ := hp
  obtain ⟨_, _, _, _, _, _, c6⟩ := hp.ports hm
  obtain ⟨ta, c, rfl, _⟩ := hp.tones.slice
  have HR := Lib.hid hp.tones
  clear hp
  go_enter Tryd.func31, Tryd.ntmps31
  go_wp2_with fail
  refine (clone_tones G q p ta _ c m.tones hn _ rfl HR.out).mono ?_
  rintro e w' ⟨ta', c', G', rfl, ha, hr⟩
  have H := Lib.hid (And.intro ha hr)
  clear ha hr
  go_wp2_with fail
  go_ret
  exact ⟨ta', c', G', rfl, H.out.1, H.out.2⟩
set_option maxHeartbeats 400000 in
theorem sameL_any (a b : Option Addr) (n c m d : Nat) (l k : List Int) (w : World) (hl : l.length = n) (hk : k.length = m) (hn : n ≤ 9223372036854775807) (hm : m ≤ 9223372036854775807) (ha : Reads w a (cellsU l)) (hb : Reads w b (cellsU k)) :
    Calls Tryd.prog 27 #[.slice a n c, .slice b m d] w fun e w' => e = .returned (.bool (decide (l = k))) ∧ ∃ q, w' = w.drewN q := by
  have HL := Lib.hid hl
  have HK := Lib.hid hk
  have HA := Lib.hid ha
  have HB := Lib.hid hb
  clear hl hk ha hb
  by_cases hnm : n = m
  · subst hnm
    go_enter Tryd.func27, Tryd.ntmps27
    go_wp2
    go_loopw [5] (fun s5 wr => ∃ j : Nat, j ≤ n ∧ s5 = .int .i64 j ∧ l.take j = k.take j ∧ ∃ q, wr = w.drewN q) (fun s5 _ => n - (intOf s5).toNat)
    case atStart => exact ⟨0, by omega, rfl, rfl, 0, rfl⟩
    case round =>
      obtain ⟨j, hj, rfl, htk, q, rfl⟩ := hrel
      have HT := Lib.hid htk
      clear htk
      by_cases hlt : j < n
      · obtain ⟨x, hx⟩ : ∃ x, l[j]? = some x := ⟨l[j]'(by rw [HL.out]; omega), by simp⟩
        obtain ⟨y, hy⟩ : ∃ y, k[j]? = some y := ⟨k[j]'(by rw [HK.out]; omega), by simp⟩
        obtain ⟨ab, ao, rfl, hx1, _⟩ := HA.out.atU j x hx
        obtain ⟨bb, bo, rfl, hy1, _⟩ := HB.out.atU j y hy
        have HX := Lib.hid hx
        have HY := Lib.hid hy
        have hj0 : (0 : Int) ≤ (j : Int) := Int.natCast_nonneg _
        have hj1 : (j : Int) < (n : Int) := by omega
        clear hx hy
        by_cases hxy : x = y
        · subst hxy
          go_wp2_with fail
          go_quiet (fail)
          go_wp2
          go_roundw
          case rel => exact ⟨j + 1, by omega, by go_num, take_ext HT.out HX.out HY.out rfl, _, rfl⟩
          case measure => simp [intOf]; omega
        · have hb : (x != y) = true := by simpa using hxy
          have hb2 : (x == y) = false := by simpa using hxy
          have hne : l ≠ k := by
            intro e
            have h1 := HX.out
            have h2 := HY.out
            rw [e, h2] at h1
            exact hxy (by simpa using h1.symm)
          have HNE := Lib.hid hne
          clear hne
          go_wp2_with fail
          go_quiet (fail)
          go_wp2
          go_ret
          exact ⟨by rw [decide_eq_false HNE.out]; rfl, q + nq, by simp⟩
      · have heq : l = k := by
          have h := HT.out
          rwa [List.take_of_length_le (by rw [HL.out]; omega), List.take_of_length_le (by rw [HK.out]; omega)] at h
        have HEQ := Lib.hid heq
        clear heq
        go_wp2
        go_ret
        exact ⟨by rw [decide_eq_true HEQ.out]; rfl, _, rfl⟩
  · have hne : l ≠ k := by
      intro e
      have h1 := HL.out
      rw [e, HK.out] at h1
      exact hnm h1.symm
    have HNE := Lib.hid hne
    have hb : ((n : Int) == (m : Int)) = false := by simp; omega
    have hb2 : ((n : Int) != (m : Int)) = true := by simp; omega
    clear hne
    go_enter Tryd.func27, Tryd.ntmps27
    go_wp2
    go_ret
    exact ⟨by rw [decide_eq_false HNE.out]; rfl, 0, rfl⟩

end Go.Proofs.YtdnalhjdmlkbmaaDoor
namespace Go.Proofs.YtdnalhjdmlkbmaaDoor
open Go.RowKit

theorem wf_u16_of {n : Int} (h : (Lit.int .u16 n).wf = true) : 0 ≤ n ∧ n < 65536 := by
  simp [Lit.wf, IntKind.min, IntKind.max, IntKind.signed, IntKind.bits] at h
  omega
theorem wf_u8_of {n : Int} (h : (Lit.int .u8 n).wf = true) : 0 ≤ n ∧ n < 256 := by
  simp [Lit.wf, IntKind.min, IntKind.max, IntKind.signed, IntKind.bits] at h
  omega
theorem own123 : Own3 1 2 3 := ⟨by decide, by decide, by decide, by decide, by decide, by decide⟩
theorem B8.replicate (n : Nat) : B8 (List.replicate n 0) := fun x hx => by rw [List.eq_of_mem_replicate hx]; decide
theorem B8.append {l m : List Int} (h : B8 l) (k : B8 m) : B8 (l ++ m) := fun x hx => by
  rcases List.mem_append.1 hx with h1 | h1
  · exact h x h1
  · exact k x h1
theorem newM_rng (l : List (Int × List Int)) (h : ∀ p ∈ l, B8 p.2) : MemR (newM l) := by
  refine ⟨fun p hp => ?_, B8.replicate _, B8.replicate _, (show (0 : Int) ≤ 0 ∧ (0 : Int) < 16 from by decide), (show (0 : Int) ≤ 0 ∧ (0 : Int) < 256 from by decide), (show (0 : Int) ≤ 0 ∧ (0 : Int) < 256 from by decide), (show (0 : Int) ≤ 0 ∧ (0 : Int) < 65536 from by decide), (show (0 : Int) ≤ 0 ∧ (0 : Int) < 65536 from by decide)⟩
  have hp' : p ∈ l.map fun p => (p.1, p.2 ++ List.replicate (16384 - p.2.length) 0) := hp
  simp only [List.mem_map] at hp'
  obtain ⟨q, hq, rfl⟩ := hp'
  exact (h q hq).append (B8.replicate _)
theorem banks2_ok : MemOk (newM banks2) := newM_ok _ (by decide)
theorem banks2_rng : MemR (newM banks2) := newM_rng _ (by intro p hp; simp [banks2] at hp; rcases hp with rfl | rfl <;> (intro x hx; simp at hx; omega))
/-- The law's world: block K holds the pointers; all is well. -/
structure W6 (w : World) (G : Nat → Nat) (K D R M : Nat) (d : List Int) (r : List (Int × Int)) (m : MemS) : Prop where
  wl : Wld w G K D R M
  tr : Trio w G 1 2 3 D R M d r m
  tb : Tabs w G
  gd : Good3 d r m
section
variable {w w' : World} {G G' : Nat → Nat} {K D R M : Nat} {d d' : List Int} {r r' : List (Int × Int)} {m m' : MemS}
theorem W6.cells (h : W6 w G K D R M d r m) : w.cell? ⟨K, 0, none⟩ = some (.pointer (some ⟨D, 0, none⟩)) ∧ w.cell? ⟨K, 1, none⟩ = some (.pointer (some ⟨R, 0, none⟩)) ∧ w.cell? ⟨K, 2, none⟩ = some (.pointer (some ⟨M, 0, none⟩)) := by
  obtain ⟨x, y, z, h1, _⟩ := h.wl
  exact ⟨block_cell h1 0 _ rfl, block_cell h1 1 _ rfl, block_cell h1 2 _ rfl⟩
theorem W6.still (h : W6 w G K D R M d r m) (ha : Adv (fun _ => False) w G w' G') : W6 w' G' K D R M d r m := by
  obtain ⟨x, y, z, h1, h2⟩ := h.wl
  have hl : K < w.heap.size := (Array.getElem?_eq_some_iff.1 h1).1
  exact ⟨⟨x, y, z, (ha.keep K hl id).trans h1, (ha.own K hl).trans h2⟩, h.tr.still ha, h.tb.adv ha id, h.gd⟩
theorem W6.drew (h : W6 w G K D R M d r m) : W6 w.drew G K D R M d r m := h.still (Adv.refl _ w G).drew
theorem W6.alloc (h : W6 w G K D R M d r m) (o : Obj) (k : Nat) : W6 (w.alloc o) (own1 w G k) K D R M d r m := h.still ((Adv.refl _ w G).alloc o k)
theorem W6.next (h : W6 w G K D R M d r m) (ha : Adv (S3 1 2 3) w G w' G') (ht : Trio w' G' 1 2 3 D R M d' r' m') (hg : Good3 d' r' m') : W6 w' G' K D R M d' r' m' := by
  obtain ⟨x, y, z, h1, h2⟩ := h.wl
  have hl : K < w.heap.size := (Array.getElem?_eq_some_iff.1 h1).1
  exact ⟨⟨x, y, z, (ha.keep K hl (by rw [h2]; exact own123.zero)).trans h1, (ha.own K hl).trans h2⟩, ht, h.tb.adv ha own123.zero, hg⟩
/-- What a call leaves of the law's world. -/
def Left6 (K D R M : Nat) (w : World) (G : Nat → Nat) (d : List Int) (r : List (Int × Int)) (m : MemS) (v : Value) (e : Ending) (w' : World) : Prop :=
  e = .returned v ∧ ∃ G', Adv (S3 1 2 3) w G w' G' ∧ W6 w' G' K D R M d r m
theorem W6.left (h : W6 w G K D R M d r m) (hg : Good3 d' r' m') {v : Value} {e : Ending} (hl : Left3 1 2 3 D R M w G d' r' m' v e w') : Left6 K D R M w G d' r' m' v e w' := by
  obtain ⟨h1, G', h2, h3⟩ := hl
  exact ⟨h1, G', h2, h.next h2 h3 hg⟩
theorem W6.do (k : Nat) (hk : k < 64) (hpl : plainB k = true) (h : W6 w G K D R M d r m) (hn : m.tones.length ≤ 99999) (hf : faultF k d r = 0) (he : doF k d r m = (d', r', m')) :
    Calls Tryd.prog 21 #[.int .i64 k, .pointer (some ⟨D, 0, none⟩), .pointer (some ⟨R, 0, none⟩), .pointer (some ⟨M, 0, none⟩)] w (Left6 K D R M w G d' r' m' (.int .i64 0)) := by
  refine (do_at k hk hpl own123 h.gd hn h.tb h.tr hf he).mono fun e w' hl => h.left ?_ hl
  have hg := (doF_good k hk h.gd).1
  rw [he] at hg
  exact hg
theorem W6.push (l : List Int) (h : W6 w G K D R M d r m) (hl : D16 l) (n : Nat) (hn : l.length = n) (hroom : d.length + n ≤ 256) :
    Calls Tryd.prog 30 #[.pointer (some ⟨D, 0, none⟩), .slice (some ⟨w.heap.size, 0, none⟩) n n] (w.alloc (.cells (cellsU l).toArray 41)) (Left6 K D R M (w.alloc (.cells (cellsU l).toArray 41)) (own1 w G 0) (d ++ l) r m (.int .i64 0)) := by
  have h1 := h.alloc (.cells (cellsU l).toArray 41) 0
  exact (h1.tr.push own123 (some ⟨w.heap.size, 0, none⟩) n n hn hroom (Reads.new w (cellsU l) 41)).mono fun e w' k => h1.left ⟨h.gd.d16.append hl, h.gd.r16, by rw [List.length_append]; omega, h.gd.rl, h.gd.mo, h.gd.mr⟩ k
theorem W6.pop {x : Int} (h : W6 w G K D R M (d ++ [x]) r m) : Calls Tryd.prog 24 #[.pointer (some ⟨D, 0, none⟩)] w (Left6 K D R M w G d r m (.int .u16 x)) :=
  (h.tr.pop own123).mono fun e w' k => h.left ⟨h.gd.d16.left, h.gd.r16, by have := h.gd.dl; rw [List.length_append] at this; omega, h.gd.rl, h.gd.mo, h.gd.mr⟩ k
/-- Cells of the data stack in new memory. -/
def NewCells (w : World) (G : Nat → Nat) (l : List Int) (e : Ending) (w' : World) : Prop := ∃ b c G', e = .returned (.slice b l.length c) ∧ Adv (fun _ => False) w G w' G' ∧ Reads w' b (cellsU l) ∧ (∀ ad, b = some ad → G' ad.block = 0 ∧ ad.block < w'.heap.size ∧ w.heap.size ≤ ad.block)
theorem newCells (G : Nat → Nat) (i D : Nat) (l : List Int) (w : World) (hp : PU w G i D l) (h1 : l.length ≤ 256) : Calls Tryd.prog 26 #[.pointer (some ⟨D, 0, none⟩)] w (NewCells w G l) := by
  by_cases h0 : l = []
  · subst h0
    refine (cellsPU_nil G i D w hp).mono fun e w' k => ?_
    obtain ⟨k1, rfl⟩ := k
    exact ⟨none, 0, G, k1, Adv.refl _ _ _, .inl rfl, fun ad h => by cases h⟩
  · refine (cellsPU G i D l w hp h0 (by omega)).mono fun e w' k => ?_
    obtain ⟨k1, rfl⟩ := k
    exact ⟨_, _, own1 w G 0, k1, (Adv.refl _ w G).alloc _ 0, Reads.new w (cellsU l) 41, fun ad h => by cases h; exact ⟨own1_new _ _ _, by simp, Nat.le_refl _⟩⟩
end
theorem born6 (G : Nat → Nat) (xa : Option Addr) (n c : Nat) (l : List Int) (w : World) (hl : l.length = n) (hm : n ≤ 256) (hr : Reads w xa (cellsU l)) (hcap : n ≤ c) (hc2 : c ≤ 100000000000000) (hd : D16 l) (ht : Tabs w G) :
    Calls Tryd.prog 20 #[.slice xa n c, .slice none 0 0] w fun e w' => ∃ K D R M G', e = .returned (.pointer (some ⟨K, 0, none⟩)) ∧ Adv (fun _ => False) w G w' G' ∧ W6 w' G' K D R M l [] (newM banks2) :=
  (born0 G xa n c l w hl hm hr hcap hc2).mono fun e w' k => by
    obtain ⟨K, D, R, M, G', k1, k2, k3, k4, k5, k6⟩ := k
    exact ⟨K, D, R, M, G', k1, k2, k3, ⟨k4, k5, k6⟩, ht.adv k2 id, ⟨hd, (fun x hx => by cases hx), by omega, by simp, banks2_ok, banks2_rng⟩⟩
/-- What pushed answers. -/
def PushedIs (w : World) (G : Nat → Nat) (l : List Int) (e : Ending) (w' : World) : Prop := ∃ b c G', e = .returned (.tuple #[.slice b l.length c, .bool true]) ∧ Adv (fun _ => False) w G w' G' ∧ Reads w' b (cellsU l) ∧ (∀ ad, b = some ad → G' ad.block = 0 ∧ ad.block < w'.heap.size)
set_option maxRecDepth 100000 in
set_option maxHeartbeats 1000000 in
theorem pushed_any (G : Nat → Nat) (k : Nat) (hk : k < 64) (hpl : plainB k = true) (xa : Option Addr) (n c : Nat) (l l' : List Int) (r' : List (Int × Int)) (m' : MemS) (w : World) (hl : l.length = n) (hm : n ≤ 256) (hr : Reads w xa (cellsU l)) (hcap : n ≤ c) (hc2 : c ≤ 100000000000000) (hd : D16 l) (ht : Tabs w G)
    (hf : faultF k l [] = 0) (he : doF k l [] (newM banks2) = (l', r', m')) :
    Calls Tryd.prog 29 #[.int .i64 k, .slice xa n c] w (PushedIs w G l') := by
  have HT := Lib.hid (ht.relabel (H := fun _ => 0) fun _ _ _ => rfl)
  have HL := Lib.hid hl
  have HR := Lib.hid hr
  have HF := Lib.hid hf
  have HE := Lib.hid he
  clear ht hl hr hf he
  go_enter Tryd.func29, Tryd.ntmps29
  go_wp2_with fail
  refine (born6 (fun _ => 0) xa n c l _ HL.out hm HR.out hcap hc2 hd HT.out).mono ?_
  rintro e w1 ⟨K, D, R, M, G1, rfl, a1, h1⟩
  have A1 := Lib.hid (a1.mono (T := S3 1 2 3) fun _ h => h.elim)
  have H1 := Lib.hid h1
  have HD := Lib.hid h1.drew
  obtain ⟨cD, cR, cM⟩ := h1.cells
  clear a1 h1
  go_upto_region 4 with fail
  go_region_held3 (fun w' => w'.cell? ⟨K, 0, none⟩ = some (.pointer (some ⟨D, 0, none⟩)) ∧ w'.cell? ⟨K, 1, none⟩ = some (.pointer (some ⟨R, 0, none⟩)) ∧ w'.cell? ⟨K, 2, none⟩ = some (.pointer (some ⟨M, 0, none⟩))) (first | exact ⟨cD, cR, cM⟩ | exact Q2.out)
    ((go_at_call 21; refine (HD.out.do k hk hpl (by exact Nat.zero_le _) HF.out HE.out).mono ?_; rintro e w2 ⟨rfl, G2, a2, h2⟩; have A2 := Lib.hid (A1.out.drew.trans a2); have Q2 := Lib.hid h2.cells; have H2 := Lib.hid h2; clear a2 h2))
  clear cD cR cM
  obtain ⟨cD, cR, cM⟩ := Q2.out
  go_wp2_with fail
  refine (newCells G2 1 D l' _ H2.out.tr.pu H2.out.gd.dl).mono ?_
  rintro e w3 ⟨b, c3, G3, rfl, a3, r3, o3⟩
  have H3 := Lib.hid (And.intro (A2.out.trans (a3.mono fun _ h => h.elim)) (And.intro r3 o3))
  clear a3 r3 o3
  go_wp2_with fail
  go_ret2
  obtain ⟨a3, r3, o3⟩ := H3.out
  refine ⟨b, c3, newTo w G 0, rfl, a3.relabel (fun _ _ => own123.zero) (fun _ hb => newTo_old hb), r3, fun ad h => ⟨newTo_new ?_, (o3 ad h).2.1⟩⟩
  exact Nat.le_trans A2.out.size (o3 ad h).2.2
end Go.Proofs.YtdnalhjdmlkbmaaDoor
namespace Go.Proofs.YtdnalhjdmlkbmaaDoor
open Go.RowKit
set_option linter.unusedVariables false

/-- One of four owners. -/
def S4 (p i j q : Nat) : Nat → Prop := fun o => o = p ∨ S3 i j q o
structure Own4 (p i j q : Nat) : Prop where
  o3 : Own3 i j q
  p0 : p ≠ 0
  p3 : ¬ S3 i j q p
theorem Own4.zero {p i j q : Nat} (h : Own4 p i j q) : ¬ S4 p i j q 0 := by
  rintro (e | e)
  · exact h.p0 e.symm
  · exact h.o3.zero e
/-- Block P is a machine over this code. -/
structure VM (w : World) (G : Nat → Nat) (p i j q P D R M : Nat) (code : List Int) (s : VmS) : Prop where
  head : ∃ ca c, w.heap[P]? = some (.cells #[.int .u16 s.pc, .int .i64 s.st, .int .i64 s.ft, .pointer (some ⟨D, 0, none⟩), .pointer (some ⟨R, 0, none⟩), .slice ca code.length c, .pointer (some ⟨M, 0, none⟩)] 148 (0, 0)) ∧
    Reads w ca (u8s code) ∧ (∀ ad, ca = some ad → G ad.block = 0 ∧ ad.block < w.heap.size)
  hown : G P = p
  tr : Trio w G i j q D R M s.d s.r s.m
  tb : Tabs w G
  ok : VmOk code s
section
variable {w w' : World} {G G' : Nat → Nat} {p i j q P D R M : Nat} {code : List Int} {s s' : VmS}
theorem VM.lt (h : VM w G p i j q P D R M code s) : P < w.heap.size := by
  obtain ⟨ca, c, h1, _⟩ := h.head
  exact (Array.getElem?_eq_some_iff.1 h1).1
theorem VM.still (h : VM w G p i j q P D R M code s) (ha : Adv (fun _ => False) w G w' G') : VM w' G' p i j q P D R M code s := by
  have hl := h.lt
  obtain ⟨ca, c, h1, h2, h3⟩ := h.head
  exact ⟨⟨ca, c, (ha.keep P hl id).trans h1, h2.adv ha (fun _ _ => id), fun ad e => ⟨(ha.own _ (h3 ad e).2).trans (h3 ad e).1, Nat.lt_of_lt_of_le (h3 ad e).2 ha.size⟩⟩, (ha.own P hl).trans h.hown, h.tr.still ha, h.tb.adv ha id, h.ok⟩
theorem VM.drewN (h : VM w G p i j q P D R M code s) (n : Nat) : VM (w.drewN n) G p i j q P D R M code s := h.still ((Adv.refl _ w G).drewN n)
theorem VM.drew (h : VM w G p i j q P D R M code s) : VM w.drew G p i j q P D R M code s := h.drewN 1
theorem VM.alloc (h : VM w G p i j q P D R M code s) (o : Obj) (k : Nat) : VM (w.alloc o) (own1 w G k) p i j q P D R M code s := h.still ((Adv.refl _ w G).alloc o k)
/-- What a call has done to the stacks and the memory. -/
theorem VM.next {d : List Int} {r : List (Int × Int)} {m : MemS} (o : Own4 p i j q) (h : VM w G p i j q P D R M code s) (ha : Adv (S3 i j q) w G w' G') (ht : Trio w' G' i j q D R M d r m) (hg : VmOk code { s with d := d, r := r, m := m }) : VM w' G' p i j q P D R M code { s with d := d, r := r, m := m } := by
  have hl := h.lt
  obtain ⟨ca, c, h1, h2, h3⟩ := h.head
  exact ⟨⟨ca, c, (ha.keep P hl (by rw [h.hown]; exact o.p3)).trans h1, h2.adv ha (fun ad e => by rw [(h3 ad e).1]; exact o.o3.zero), fun ad e => ⟨(ha.own _ (h3 ad e).2).trans (h3 ad e).1, Nat.lt_of_lt_of_le (h3 ad e).2 ha.size⟩⟩, (ha.own P hl).trans h.hown, ht, h.tb.adv ha o.o3.zero, hg⟩
/-- The cells of a machine. -/
theorem VM.cells (h : VM w G p i j q P D R M code s) : w.cell? ⟨P, 0, none⟩ = some (.int .u16 s.pc) ∧ w.cell? ⟨P, 1, none⟩ = some (.int .i64 s.st) ∧ w.cell? ⟨P, 2, none⟩ = some (.int .i64 s.ft) ∧ w.cell? ⟨P, 3, none⟩ = some (.pointer (some ⟨D, 0, none⟩)) ∧ w.cell? ⟨P, 4, none⟩ = some (.pointer (some ⟨R, 0, none⟩)) ∧ w.cell? ⟨P, 6, none⟩ = some (.pointer (some ⟨M, 0, none⟩)) := by
  obtain ⟨ca, c, h1, _⟩ := h.head
  exact ⟨block_cell h1 0 _ rfl, block_cell h1 1 _ rfl, block_cell h1 2 _ rfl, block_cell h1 3 _ rfl, block_cell h1 4 _ rfl, block_cell h1 6 _ rfl⟩
theorem VM.text (h : VM w G p i j q P D R M code s) : ∃ ca c, w.cell? ⟨P, 5, none⟩ = some (.slice ca code.length c) ∧ Reads w ca (u8s code) := by
  obtain ⟨ca, c, h1, h2, _⟩ := h.head
  exact ⟨ca, c, block_cell h1 5 _ rfl, h2⟩
theorem VM.free (h : VM w G p i j q P D R M code s) (k : Nat) : w.frozen? ⟨P, k, none⟩ = false := by
  obtain ⟨ca, c, h1, _⟩ := h.head
  exact block_free h1 k
/-- The address, the status, the fault is written. -/
theorem VM.setPc (o : Own4 p i j q) (h : VM w G p i j q P D R M code s) (x : Int) (h0 : 0 ≤ x) (h1 : x < 65536) : Adv (S4 p i j q) w G (w.setCell ⟨P, 0, none⟩ (.int .u16 x)) G ∧ VM (w.setCell ⟨P, 0, none⟩ (.int .u16 x)) G p i j q P D R M code { s with pc := x } := by
  have ha : Adv (fun o => o = p) w G (w.setCell ⟨P, 0, none⟩ (.int .u16 x)) G := (Adv.refl (fun o => o = p) w G).setCell (p := ⟨P, 0, none⟩) h.hown _
  have hz : ¬ (0 = p) := Ne.symm o.p0
  obtain ⟨ca, c, e1, e2, e3⟩ := h.head
  refine ⟨ha.mono fun _ e => .inl e, ⟨ca, c, ?_, e2.adv ha (fun ad e => by rw [(e3 ad e).1]; exact hz), fun ad e => ⟨(e3 ad e).1, Nat.lt_of_lt_of_le (e3 ad e).2 ha.size⟩⟩, h.hown, h.tr.adv ha (fun e => o.p3 (.inl e.symm)) (fun e => o.p3 (.inr (.inl e.symm))) (fun e => o.p3 (.inr (.inr e.symm))), h.tb.adv ha hz, ⟨h.ok.gd, h0, h1, h.ok.cb, h.ok.cl⟩⟩
  simp only [World.setCell, Array.getElem?_modify, e1]; rfl
theorem VM.setSt (o : Own4 p i j q) (h : VM w G p i j q P D R M code s) (x : Int) : Adv (S4 p i j q) w G (w.setCell ⟨P, 1, none⟩ (.int .i64 x)) G ∧ VM (w.setCell ⟨P, 1, none⟩ (.int .i64 x)) G p i j q P D R M code { s with st := x } := by
  have ha : Adv (fun o => o = p) w G (w.setCell ⟨P, 1, none⟩ (.int .i64 x)) G := (Adv.refl (fun o => o = p) w G).setCell (p := ⟨P, 1, none⟩) h.hown _
  have hz : ¬ (0 = p) := Ne.symm o.p0
  obtain ⟨ca, c, e1, e2, e3⟩ := h.head
  refine ⟨ha.mono fun _ e => .inl e, ⟨ca, c, ?_, e2.adv ha (fun ad e => by rw [(e3 ad e).1]; exact hz), fun ad e => ⟨(e3 ad e).1, Nat.lt_of_lt_of_le (e3 ad e).2 ha.size⟩⟩, h.hown, h.tr.adv ha (fun e => o.p3 (.inl e.symm)) (fun e => o.p3 (.inr (.inl e.symm))) (fun e => o.p3 (.inr (.inr e.symm))), h.tb.adv ha hz, ⟨h.ok.gd, h.ok.pc0, h.ok.pc1, h.ok.cb, h.ok.cl⟩⟩
  simp only [World.setCell, Array.getElem?_modify, e1]; rfl
theorem VM.setFt (o : Own4 p i j q) (h : VM w G p i j q P D R M code s) (x : Int) : Adv (S4 p i j q) w G (w.setCell ⟨P, 2, none⟩ (.int .i64 x)) G ∧ VM (w.setCell ⟨P, 2, none⟩ (.int .i64 x)) G p i j q P D R M code { s with ft := x } := by
  have ha : Adv (fun o => o = p) w G (w.setCell ⟨P, 2, none⟩ (.int .i64 x)) G := (Adv.refl (fun o => o = p) w G).setCell (p := ⟨P, 2, none⟩) h.hown _
  have hz : ¬ (0 = p) := Ne.symm o.p0
  obtain ⟨ca, c, e1, e2, e3⟩ := h.head
  refine ⟨ha.mono fun _ e => .inl e, ⟨ca, c, ?_, e2.adv ha (fun ad e => by rw [(e3 ad e).1]; exact hz), fun ad e => ⟨(e3 ad e).1, Nat.lt_of_lt_of_le (e3 ad e).2 ha.size⟩⟩, h.hown, h.tr.adv ha (fun e => o.p3 (.inl e.symm)) (fun e => o.p3 (.inr (.inl e.symm))) (fun e => o.p3 (.inr (.inr e.symm))), h.tb.adv ha hz, ⟨h.ok.gd, h.ok.pc0, h.ok.pc1, h.ok.cb, h.ok.cl⟩⟩
  simp only [World.setCell, Array.getElem?_modify, e1]; rfl
/-- What a call leaves of a machine. -/
def LeftV (p i j q P D R M : Nat) (code : List Int) (w : World) (G : Nat → Nat) (s : VmS) (v : Value) (e : Ending) (w' : World) : Prop :=
  e = .returned v ∧ ∃ G', Adv (S4 p i j q) w G w' G' ∧ VM w' G' p i j q P D R M code s
/-- What a call that looks alone answers. -/
def Looked (w : World) (G : Nat → Nat) (v : Value) (e : Ending) (w' : World) : Prop := e = .returned v ∧ ∃ G', Adv (fun _ => False) w G w' G'
end
section
variable {w : World} {G : Nat → Nat} {p i j q P D R M : Nat} {code : List Int} {s : VmS}
theorem cellV_no (a : Int) (h0 : 0 ≤ a) (h9 : a < 65536) (hno : codeB code a = false) (h : VM w G p i j q P D R M code s) :
    Calls Tryd.prog 70 #[.pointer (some ⟨P, 0, none⟩), .int .u16 a] w fun e w' => e = .returned (.tuple #[.int .u16 0, .bool false]) ∧ w = w' := by
  obtain ⟨ca, c, c5, _⟩ := h.text
  have hcl := h.ok.cl
  clear h
  by_cases hodd : a % 2 = 1
  · have hb : (a % 2 == 1) = true := by simpa using hodd
    clear hno hodd
    go_enter Tryd.func70, Tryd.ntmps70
    go_wp2
    go_ret2
    exact ⟨rfl, rfl⟩
  · have hb : (a % 2 == 1) = false := by simpa using hodd
    have hlen : (code.length : Int) ≤ a + 1 := by
      unfold codeB at hno
      rw [hb] at hno
      simpa using hno
    have hd : decide ((code.length : Int) ≤ a + 1) = true := by simpa using hlen
    clear hno hodd
    go_enter Tryd.func70, Tryd.ntmps70
    go_wp2
    go_ret2
    exact ⟨rfl, rfl⟩
theorem cellV_yes (a : Int) (h0 : 0 ≤ a) (h9 : a < 65536) (hyes : codeB code a = true) (h : VM w G p i j q P D R M code s) :
    Calls Tryd.prog 70 #[.pointer (some ⟨P, 0, none⟩), .int .u16 a] w fun e w' => e = .returned (.tuple #[.int .u16 (codeV code a), .bool true]) ∧ ∃ d, w' = w.drewN d := by
  obtain ⟨ca, c, c5, hr⟩ := h.text
  have hcl := h.ok.cl
  obtain ⟨k, rfl⟩ : ∃ k : Nat, a = k := ⟨a.toNat, by omega⟩
  have hlen : k + 1 < code.length ∧ ¬ ((k : Int) % 2 = 1) := by
    unfold codeB at hyes
    simp at hyes
    omega
  have hb : ((k : Int) % 2 == 1) = false := by simpa using hlen.2
  have hd : decide ((code.length : Int) ≤ (k : Int) + 1) = false := by simp; omega
  obtain ⟨x, hx⟩ : ∃ x, code[k]? = some x := ⟨code[k]'(by omega), by simp⟩
  obtain ⟨y, hy⟩ : ∃ y, code[k + 1]? = some y := ⟨code[k + 1]'(by omega), by simp⟩
  have hv : codeV code k = pairF x y := by
    unfold codeV
    rw [if_pos hyes, List.getD_eq_getElem?_getD, List.getD_eq_getElem?_getD, Int.toNat_natCast, hx, hy]; rfl
  have hxc := u8s_at code k x hx
  have hyc := u8s_at code (k + 1) y hy
  obtain ⟨b, o, rfl, hcx, hbl⟩ := hr.some (by intro e; rw [e] at hxc; simp at hxc)
  have g1 := hcx k _ hxc
  have g2 := hcx (k + 1) _ hyc
  have hi : IntKind.u16.wrap ((k : Int) + 1) = (k : Int) + 1 := wrap_u16_id _ (by omega) (by omega)
  have HI := hi
  have k0 : (0 : Int) ≤ (k : Int) := Int.natCast_nonneg _
  have k1 : (0 : Int) ≤ (k : Int) + 1 := by omega
  have k2 : (k : Int) < (code.length : Int) := by omega
  have k3 : (k : Int) + 1 < (code.length : Int) := by omega
  have k4 : ((k : Int) + 1).toNat = k + 1 := by omega
  have HV := Lib.hid hv
  clear h hr hyes hv hx hy hxc hyc hcx hlen HI
  go_enter Tryd.func70, Tryd.ntmps70
  go_upto_region 3 with fail
  go_region
  all_goals
    go_wp2
    go_ret2
    rw [HV.out]
    exact ⟨rfl, 1, rfl⟩
end
end Go.Proofs.YtdnalhjdmlkbmaaDoor
namespace Go.Proofs.YtdnalhjdmlkbmaaDoor
open Go.RowKit
set_option linter.unusedVariables false

section
variable {w : World} {G : Nat → Nat} {p i j q P D R M : Nat} {code : List Int} {s : VmS}
theorem cellV_any (a : Int) (h0 : 0 ≤ a) (h9 : a < 65536) (h : VM w G p i j q P D R M code s) :
    Calls Tryd.prog 70 #[.pointer (some ⟨P, 0, none⟩), .int .u16 a] w (Looked w G (.tuple #[.int .u16 (codeV code a), .bool (codeB code a)])) := by
  cases hb : codeB code a with
  | false =>
    have e : codeV code a = 0 := if_neg (by rw [hb]; decide)
    rw [e]
    exact (cellV_no a h0 h9 hb h).mono fun e w' k => ⟨k.1, G, by rw [← k.2]; exact Adv.refl _ _ _⟩
  | true =>
    exact (cellV_yes a h0 h9 hb h).mono fun e w' k => by
      obtain ⟨k1, d, rfl⟩ := k
      exact ⟨k1, G, (Adv.refl _ w G).drewN d⟩
def lookT (v : Value) (x f : Int) : Value := .tuple #[v, .int .u16 x, .int .i64 f]
/-- The row that Look tells. -/
def primW (k : Nat) : Value := if k = 0 then primV0 else primV k
theorem look_nil (w : World) (G : Nat → Nat) : Calls Tryd.prog 38 #[.pointer none] w (Looked w G (lookT primV0 0 0)) := by
  go_enter Tryd.func38, Tryd.ntmps38
  go_wp2
  exact bodyPost_ret (v := lookT primV0 0 0) (by simp [results, Tryd.results38, go_sem, lookT, primV0]) rfl ⟨rfl, own1 w G 0, (Adv.refl _ w G).alloc _ 0⟩
theorem look_stop (h : VM w G p i j q P D R M code s) (hst : (s.st != 1) = true) : Calls Tryd.prog 38 #[.pointer (some ⟨P, 0, none⟩)] w (Looked w G (lookT primV0 0 0)) := by
  obtain ⟨c0, c1, -⟩ := h.cells
  have hP := h.lt
  clear h
  go_enter Tryd.func38, Tryd.ntmps38
  go_wp2
  exact bodyPost_ret (v := lookT primV0 0 0) (by simp [results, Tryd.results38, go_sem, lookT, primV0]) rfl ⟨rfl, own1 w G 0, (Adv.refl _ w G).alloc _ 0⟩
set_option maxRecDepth 100000 in
set_option maxHeartbeats 400000 in
theorem look_e1 (h : VM w G p i j q P D R M code s) (hst : (s.st != 1) = false) (hb : codeB code s.pc = false) : Calls Tryd.prog 38 #[.pointer (some ⟨P, 0, none⟩)] w (Looked w G (lookT primV0 0 7)) := by
  have HA := Lib.hid ((Adv.refl (fun _ => False) w G).alloc (.cells #[.int .i64 0, .string ⟨#[]⟩, .int .i64 0, .int .i64 0, .int .i64 0, .bool false] 25) 0)
  have H0 := Lib.hid (h.alloc (.cells #[.int .i64 0, .string ⟨#[]⟩, .int .i64 0, .int .i64 0, .int .i64 0, .bool false] 25) 0)
  have hg := heap_alloc_new w (.cells #[.int .i64 0, .string ⟨#[]⟩, .int .i64 0, .int .i64 0, .int .i64 0, .bool false] 25)
  have hP := h.lt
  obtain ⟨c0, c1, -⟩ := h.cells
  have p0 := h.ok.pc0
  have p1 := h.ok.pc1
  have q0 := (codeV_rng code s.pc).1
  have q1 := (codeV_rng code s.pc).2
  have HG := Lib.hid hg
  clear h hg
  go_enter Tryd.func38, Tryd.ntmps38
  go_wp2_with fail
  refine (cellV_any s.pc p0 p1 H0.out).mono ?_
  rintro e w1 ⟨rfl, G1, a1⟩
  have A1 := Lib.hid (HA.out.trans a1)
  have H1 := Lib.hid (H0.out.still a1)
  have hc1 := (a1.keep w.heap.size (by simp) id).trans HG.out
  have HC1 := Lib.hid hc1
  clear a1 c0 c1
  rw [hb]
  have z0 := block_cell hc1 0 _ rfl
  have z1 := block_cell hc1 1 _ rfl
  have z2 := block_cell hc1 2 _ rfl
  have z3 := block_cell hc1 3 _ rfl
  have z4 := block_cell hc1 4 _ rfl
  have z5 := block_cell hc1 5 _ rfl
  have zf := block_free hc1
  clear hc1
  go_wp2
  exact bodyPost_ret (v := lookT primV0 0 7) (by simp [results, Tryd.results38, go_sem, lookT, primV0, primV, z0, z1, z2, z3, z4, z5]) rfl ⟨rfl, _, ((((((A1.out.setNew (Nat.le_refl _) _).setNew (Nat.le_refl _) _).setNew (Nat.le_refl _) _).setNew (Nat.le_refl _) _).setNew (Nat.le_refl _) _).setNew (Nat.le_refl _) _)⟩
set_option maxRecDepth 100000 in
set_option maxHeartbeats 400000 in
theorem look_e2 (h : VM w G p i j q P D R M code s) (hst : (s.st != 1) = false) (hb : codeB code s.pc = true) (hb2 : codeB code (codeV code s.pc) = false) : Calls Tryd.prog 38 #[.pointer (some ⟨P, 0, none⟩)] w (Looked w G (lookT primV0 0 7)) := by
  have HA := Lib.hid ((Adv.refl (fun _ => False) w G).alloc (.cells #[.int .i64 0, .string ⟨#[]⟩, .int .i64 0, .int .i64 0, .int .i64 0, .bool false] 25) 0)
  have H0 := Lib.hid (h.alloc (.cells #[.int .i64 0, .string ⟨#[]⟩, .int .i64 0, .int .i64 0, .int .i64 0, .bool false] 25) 0)
  have hg := heap_alloc_new w (.cells #[.int .i64 0, .string ⟨#[]⟩, .int .i64 0, .int .i64 0, .int .i64 0, .bool false] 25)
  have hP := h.lt
  obtain ⟨c0, c1, -⟩ := h.cells
  have p0 := h.ok.pc0
  have p1 := h.ok.pc1
  have q0 := (codeV_rng code s.pc).1
  have q1 := (codeV_rng code s.pc).2
  have HG := Lib.hid hg
  clear h hg
  go_enter Tryd.func38, Tryd.ntmps38
  go_wp2_with fail
  refine (cellV_any s.pc p0 p1 H0.out).mono ?_
  rintro e w1 ⟨rfl, G1, a1⟩
  have A1 := Lib.hid (HA.out.trans a1)
  have H1 := Lib.hid (H0.out.still a1)
  have hc1 := (a1.keep w.heap.size (by simp) id).trans HG.out
  have HC1 := Lib.hid hc1
  clear a1 c0 c1
  rw [hb]
  clear hc1
  obtain ⟨c0, c1, -⟩ := H1.out.cells
  go_wp2_with fail
  refine (cellV_any (codeV code s.pc) q0 q1 H1.out).mono ?_
  rintro e w2 ⟨rfl, G2, a2⟩
  have A2 := Lib.hid (A1.out.trans a2)
  have H2 := Lib.hid (H1.out.still a2)
  have hc2 := (a2.keep w.heap.size (Array.getElem?_eq_some_iff.1 HC1.out).1 id).trans HC1.out
  have HC2 := Lib.hid hc2
  clear a2 c0 c1
  rw [hb2]
  have z0 := block_cell hc2 0 _ rfl
  have z1 := block_cell hc2 1 _ rfl
  have z2 := block_cell hc2 2 _ rfl
  have z3 := block_cell hc2 3 _ rfl
  have z4 := block_cell hc2 4 _ rfl
  have z5 := block_cell hc2 5 _ rfl
  have zf := block_free hc2
  clear hc2
  go_wp2
  exact bodyPost_ret (v := lookT primV0 0 7) (by simp [results, Tryd.results38, go_sem, lookT, primV0, primV, z0, z1, z2, z3, z4, z5]) rfl ⟨rfl, _, ((((((A2.out.setNew (Nat.le_refl _) _).setNew (Nat.le_refl _) _).setNew (Nat.le_refl _) _).setNew (Nat.le_refl _) _).setNew (Nat.le_refl _) _).setNew (Nat.le_refl _) _)⟩
set_option maxRecDepth 100000 in
set_option maxHeartbeats 400000 in
theorem look_e3 (h : VM w G p i j q P D R M code s) (hst : (s.st != 1) = false) (hb : codeB code s.pc = true) (hb2 : codeB code (codeV code s.pc) = true) (hop : codeV code (codeV code s.pc) < 1 ∨ 64 ≤ codeV code (codeV code s.pc)) : Calls Tryd.prog 38 #[.pointer (some ⟨P, 0, none⟩)] w (Looked w G (lookT primV0 0 6)) := by
  have HA := Lib.hid ((Adv.refl (fun _ => False) w G).alloc (.cells #[.int .i64 0, .string ⟨#[]⟩, .int .i64 0, .int .i64 0, .int .i64 0, .bool false] 25) 0)
  have H0 := Lib.hid (h.alloc (.cells #[.int .i64 0, .string ⟨#[]⟩, .int .i64 0, .int .i64 0, .int .i64 0, .bool false] 25) 0)
  have hg := heap_alloc_new w (.cells #[.int .i64 0, .string ⟨#[]⟩, .int .i64 0, .int .i64 0, .int .i64 0, .bool false] 25)
  have hP := h.lt
  obtain ⟨c0, c1, -⟩ := h.cells
  have p0 := h.ok.pc0
  have p1 := h.ok.pc1
  have q0 := (codeV_rng code s.pc).1
  have q1 := (codeV_rng code s.pc).2
  have HG := Lib.hid hg
  clear h hg
  go_enter Tryd.func38, Tryd.ntmps38
  go_wp2_with fail
  refine (cellV_any s.pc p0 p1 H0.out).mono ?_
  rintro e w1 ⟨rfl, G1, a1⟩
  have A1 := Lib.hid (HA.out.trans a1)
  have H1 := Lib.hid (H0.out.still a1)
  have hc1 := (a1.keep w.heap.size (by simp) id).trans HG.out
  have HC1 := Lib.hid hc1
  clear a1 c0 c1
  rw [hb]
  clear hc1
  obtain ⟨c0, c1, -⟩ := H1.out.cells
  go_wp2_with fail
  refine (cellV_any (codeV code s.pc) q0 q1 H1.out).mono ?_
  rintro e w2 ⟨rfl, G2, a2⟩
  have A2 := Lib.hid (A1.out.trans a2)
  have H2 := Lib.hid (H1.out.still a2)
  have hc2 := (a2.keep w.heap.size (Array.getElem?_eq_some_iff.1 HC1.out).1 id).trans HC1.out
  have HC2 := Lib.hid hc2
  clear a2 c0 c1
  rw [hb2]
  clear hc2
  obtain ⟨op, hop2⟩ : ∃ o, o = codeV code (codeV code s.pc) := ⟨_, rfl⟩
  rw [← hop2] at hop ⊢
  have r0 : 0 ≤ op := by rw [hop2]; exact (codeV_rng _ _).1
  have r1 : op < 65536 := by rw [hop2]; exact (codeV_rng _ _).2
  have HO := Lib.hid hop
  clear hop hop2
  go_wp2_with fail
  refine (of_out G2 op HO.out _).mono ?_
  rintro e w3 ⟨rfl, G3, a3⟩
  unfold primV0
  have A3 := Lib.hid ((A2.out.trans a3).alloc (.cells #[.int .i64 0, .string ⟨#[]⟩, .int .i64 0, .int .i64 0, .int .i64 0, .bool false] 25) 0)
  have hl := (Array.getElem?_eq_some_iff.1 HC2.out).1
  have hc3 := (heap_past w3 (.cells #[.int .i64 0, .string ⟨#[]⟩, .int .i64 0, .int .i64 0, .int .i64 0, .bool false] 25) _ (Nat.lt_of_lt_of_le hl a3.size)).trans ((a3.keep w.heap.size hl id).trans HC2.out)
  have z0 := block_cell hc3 0 _ rfl
  have z1 := block_cell hc3 1 _ rfl
  have z2 := block_cell hc3 2 _ rfl
  have z3 := block_cell hc3 3 _ rfl
  have z4 := block_cell hc3 4 _ rfl
  have z5 := block_cell hc3 5 _ rfl
  have zf := block_free hc3
  clear hc3 a3 hl
  go_wp2
  exact bodyPost_ret (v := lookT primV0 0 6) (by simp [results, Tryd.results38, go_sem, lookT, primV0, primV, z0, z1, z2, z3, z4, z5]) rfl ⟨rfl, _, ((((((A3.out.setNew (Nat.le_refl _) _).setNew (Nat.le_refl _) _).setNew (Nat.le_refl _) _).setNew (Nat.le_refl _) _).setNew (Nat.le_refl _) _).setNew (Nat.le_refl _) _)⟩
set_option maxRecDepth 100000 in
set_option maxHeartbeats 400000 in
theorem look_p (h : VM w G p i j q P D R M code s) (hst : (s.st != 1) = false) (k : Nat) (h1 : 1 ≤ k) (h64 : k < 64) (hb : codeB code s.pc = true) (hb2 : codeB code (codeV code s.pc) = true) (hk : codeV code (codeV code s.pc) = (k : Int)) (hopd : operandB k = true) (hok : codeB code ((s.pc + 2) % 65536) = true) : Calls Tryd.prog 38 #[.pointer (some ⟨P, 0, none⟩)] w (Looked w G (lookT (primV k) (codeV code ((s.pc + 2) % 65536)) 0)) := by
  have HA := Lib.hid ((Adv.refl (fun _ => False) w G).alloc (.cells #[.int .i64 0, .string ⟨#[]⟩, .int .i64 0, .int .i64 0, .int .i64 0, .bool false] 25) 0)
  have H0 := Lib.hid (h.alloc (.cells #[.int .i64 0, .string ⟨#[]⟩, .int .i64 0, .int .i64 0, .int .i64 0, .bool false] 25) 0)
  have hg := heap_alloc_new w (.cells #[.int .i64 0, .string ⟨#[]⟩, .int .i64 0, .int .i64 0, .int .i64 0, .bool false] 25)
  have hP := h.lt
  obtain ⟨c0, c1, -⟩ := h.cells
  have p0 := h.ok.pc0
  have p1 := h.ok.pc1
  have q0 := (codeV_rng code s.pc).1
  have q1 := (codeV_rng code s.pc).2
  have HG := Lib.hid hg
  clear h hg
  go_enter Tryd.func38, Tryd.ntmps38
  go_wp2_with fail
  refine (cellV_any s.pc p0 p1 H0.out).mono ?_
  rintro e w1 ⟨rfl, G1, a1⟩
  have A1 := Lib.hid (HA.out.trans a1)
  have H1 := Lib.hid (H0.out.still a1)
  have hc1 := (a1.keep w.heap.size (by simp) id).trans HG.out
  have HC1 := Lib.hid hc1
  clear a1 c0 c1
  rw [hb]
  clear hc1
  obtain ⟨c0, c1, -⟩ := H1.out.cells
  go_wp2_with fail
  refine (cellV_any (codeV code s.pc) q0 q1 H1.out).mono ?_
  rintro e w2 ⟨rfl, G2, a2⟩
  have A2 := Lib.hid (A1.out.trans a2)
  have H2 := Lib.hid (H1.out.still a2)
  have hc2 := (a2.keep w.heap.size (Array.getElem?_eq_some_iff.1 HC1.out).1 id).trans HC1.out
  have HC2 := Lib.hid hc2
  clear a2 c0 c1
  rw [hb2]
  clear hc2
  rw [hk]
  obtain ⟨t, ht⟩ : ∃ t, t = codeV code s.pc := ⟨_, rfl⟩
  rw [← ht] at q0 q1 ⊢
  have HTT := Lib.hid ht
  clear ht
  have HK := Lib.hid hk
  clear hk hb hb2
  go_wp2_with fail
  refine (of_in G2 k h1 h64 _ H2.out.tb).mono ?_
  rintro e w3 ⟨rfl, G3, a3⟩
  unfold primV
  rw [hopd]
  have hl := (Array.getElem?_eq_some_iff.1 HC2.out).1
  have hc3 := (a3.keep w.heap.size hl id).trans HC2.out
  have B3 := Lib.hid (A2.out.trans a3)
  have A3 := Lib.hid ((A2.out.trans a3).alloc (.cells #[.int .i64 k, .string (nameB k), .int .i64 (takesN k), .int .i64 (leavesN k), .int .i64 (costsN k), .bool true] 25) 0)
  have H3 := Lib.hid ((H2.out.still a3).alloc (.cells #[.int .i64 k, .string (nameB k), .int .i64 (takesN k), .int .i64 (leavesN k), .int .i64 (costsN k), .bool true] 25) 0)
  have hy := heap_alloc_new w3 (.cells #[.int .i64 k, .string (nameB k), .int .i64 (takesN k), .int .i64 (leavesN k), .int .i64 (costsN k), .bool true] 25)
  have hx := (heap_past w3 (.cells #[.int .i64 k, .string (nameB k), .int .i64 (takesN k), .int .i64 (leavesN k), .int .i64 (costsN k), .bool true] 25) _ (Array.getElem?_eq_some_iff.1 hc3).1).trans hc3
  have hd3 : w.heap.size < w3.heap.size := (Array.getElem?_eq_some_iff.1 hc3).1
  have HY := Lib.hid hy
  have HX := Lib.hid hx
  obtain ⟨c0, c1, -⟩ := (H2.out.still a3).cells
  have hP3 := (H2.out.still a3).lt
  have z0 := block_cell hc3 0 _ rfl
  have z1 := block_cell hc3 1 _ rfl
  have z2 := block_cell hc3 2 _ rfl
  have z3 := block_cell hc3 3 _ rfl
  have z4 := block_cell hc3 4 _ rfl
  have z5 := block_cell hc3 5 _ rfl
  have zf := block_free hc3
  clear a3 hl hc3 hy hx
  have hw := wrap_u16_mod (s.pc + 2)
  have m0 := (mod16 (s.pc + 2)).1
  have m1 := (mod16 (s.pc + 2)).2
  go_wp2_with fail
  refine (cellV_any ((s.pc + 2) % 65536) m0 m1 H3.out).mono ?_
  rintro e w4 ⟨rfl, G4, a4⟩
  have A4 := Lib.hid (A3.out.trans a4)
  have hx4 := (a4.keep w.heap.size (Array.getElem?_eq_some_iff.1 HX.out).1 id).trans HX.out
  have hy4 := (a4.keep w3.heap.size (Array.getElem?_eq_some_iff.1 HY.out).1 id).trans HY.out
  clear z0 z1 z2 z3 z4 z5 zf c0 c1
  have z0 := block_cell hx4 0 _ rfl
  have z1 := block_cell hx4 1 _ rfl
  have z2 := block_cell hx4 2 _ rfl
  have z3 := block_cell hx4 3 _ rfl
  have z4 := block_cell hx4 4 _ rfl
  have z5 := block_cell hx4 5 _ rfl
  have zf := block_free hx4
  have y0 := block_cell hy4 0 _ rfl
  have y1 := block_cell hy4 1 _ rfl
  have y2 := block_cell hy4 2 _ rfl
  have y3 := block_cell hy4 3 _ rfl
  have y4 := block_cell hy4 4 _ rfl
  have y5 := block_cell hy4 5 _ rfl
  have yf := block_free hy4
  clear hx4 hy4 a4
  rw [hok]
  go_wp2
  exact bodyPost_ret (v := lookT (primV k) (codeV code ((s.pc + 2) % 65536)) 0) (by simp [results, Tryd.results38, go_sem, lookT, primV0, primV, hopd, z0, z1, z2, z3, z4, z5]) rfl ⟨rfl, _, ((((((A4.out.setNew (Nat.le_refl _) _).setNew (Nat.le_refl _) _).setNew (Nat.le_refl _) _).setNew (Nat.le_refl _) _).setNew (Nat.le_refl _) _).setNew (Nat.le_refl _) _)⟩
set_option maxRecDepth 100000 in
set_option maxHeartbeats 400000 in
theorem look_p_no (h : VM w G p i j q P D R M code s) (hst : (s.st != 1) = false) (k : Nat) (h1 : 1 ≤ k) (h64 : k < 64) (hb : codeB code s.pc = true) (hb2 : codeB code (codeV code s.pc) = true) (hk : codeV code (codeV code s.pc) = (k : Int)) (hopd : operandB k = true) (hok : codeB code ((s.pc + 2) % 65536) = false) : Calls Tryd.prog 38 #[.pointer (some ⟨P, 0, none⟩)] w (Looked w G (lookT primV0 0 7)) := by
  have HA := Lib.hid ((Adv.refl (fun _ => False) w G).alloc (.cells #[.int .i64 0, .string ⟨#[]⟩, .int .i64 0, .int .i64 0, .int .i64 0, .bool false] 25) 0)
  have H0 := Lib.hid (h.alloc (.cells #[.int .i64 0, .string ⟨#[]⟩, .int .i64 0, .int .i64 0, .int .i64 0, .bool false] 25) 0)
  have hg := heap_alloc_new w (.cells #[.int .i64 0, .string ⟨#[]⟩, .int .i64 0, .int .i64 0, .int .i64 0, .bool false] 25)
  have hP := h.lt
  obtain ⟨c0, c1, -⟩ := h.cells
  have p0 := h.ok.pc0
  have p1 := h.ok.pc1
  have q0 := (codeV_rng code s.pc).1
  have q1 := (codeV_rng code s.pc).2
  have HG := Lib.hid hg
  clear h hg
  go_enter Tryd.func38, Tryd.ntmps38
  go_wp2_with fail
  refine (cellV_any s.pc p0 p1 H0.out).mono ?_
  rintro e w1 ⟨rfl, G1, a1⟩
  have A1 := Lib.hid (HA.out.trans a1)
  have H1 := Lib.hid (H0.out.still a1)
  have hc1 := (a1.keep w.heap.size (by simp) id).trans HG.out
  have HC1 := Lib.hid hc1
  clear a1 c0 c1
  rw [hb]
  clear hc1
  obtain ⟨c0, c1, -⟩ := H1.out.cells
  go_wp2_with fail
  refine (cellV_any (codeV code s.pc) q0 q1 H1.out).mono ?_
  rintro e w2 ⟨rfl, G2, a2⟩
  have A2 := Lib.hid (A1.out.trans a2)
  have H2 := Lib.hid (H1.out.still a2)
  have hc2 := (a2.keep w.heap.size (Array.getElem?_eq_some_iff.1 HC1.out).1 id).trans HC1.out
  have HC2 := Lib.hid hc2
  clear a2 c0 c1
  rw [hb2]
  clear hc2
  rw [hk]
  obtain ⟨t, ht⟩ : ∃ t, t = codeV code s.pc := ⟨_, rfl⟩
  rw [← ht] at q0 q1 ⊢
  have HTT := Lib.hid ht
  clear ht
  have HK := Lib.hid hk
  clear hk hb hb2
  go_wp2_with fail
  refine (of_in G2 k h1 h64 _ H2.out.tb).mono ?_
  rintro e w3 ⟨rfl, G3, a3⟩
  unfold primV
  rw [hopd]
  have hl := (Array.getElem?_eq_some_iff.1 HC2.out).1
  have hc3 := (a3.keep w.heap.size hl id).trans HC2.out
  have B3 := Lib.hid (A2.out.trans a3)
  have A3 := Lib.hid ((A2.out.trans a3).alloc (.cells #[.int .i64 k, .string (nameB k), .int .i64 (takesN k), .int .i64 (leavesN k), .int .i64 (costsN k), .bool true] 25) 0)
  have H3 := Lib.hid ((H2.out.still a3).alloc (.cells #[.int .i64 k, .string (nameB k), .int .i64 (takesN k), .int .i64 (leavesN k), .int .i64 (costsN k), .bool true] 25) 0)
  have hy := heap_alloc_new w3 (.cells #[.int .i64 k, .string (nameB k), .int .i64 (takesN k), .int .i64 (leavesN k), .int .i64 (costsN k), .bool true] 25)
  have hx := (heap_past w3 (.cells #[.int .i64 k, .string (nameB k), .int .i64 (takesN k), .int .i64 (leavesN k), .int .i64 (costsN k), .bool true] 25) _ (Array.getElem?_eq_some_iff.1 hc3).1).trans hc3
  have hd3 : w.heap.size < w3.heap.size := (Array.getElem?_eq_some_iff.1 hc3).1
  have HY := Lib.hid hy
  have HX := Lib.hid hx
  obtain ⟨c0, c1, -⟩ := (H2.out.still a3).cells
  have hP3 := (H2.out.still a3).lt
  have z0 := block_cell hc3 0 _ rfl
  have z1 := block_cell hc3 1 _ rfl
  have z2 := block_cell hc3 2 _ rfl
  have z3 := block_cell hc3 3 _ rfl
  have z4 := block_cell hc3 4 _ rfl
  have z5 := block_cell hc3 5 _ rfl
  have zf := block_free hc3
  clear a3 hl hc3 hy hx
  have hw := wrap_u16_mod (s.pc + 2)
  have m0 := (mod16 (s.pc + 2)).1
  have m1 := (mod16 (s.pc + 2)).2
  go_wp2_with fail
  refine (cellV_any ((s.pc + 2) % 65536) m0 m1 H3.out).mono ?_
  rintro e w4 ⟨rfl, G4, a4⟩
  have A4 := Lib.hid (A3.out.trans a4)
  have hx4 := (a4.keep w.heap.size (Array.getElem?_eq_some_iff.1 HX.out).1 id).trans HX.out
  have hy4 := (a4.keep w3.heap.size (Array.getElem?_eq_some_iff.1 HY.out).1 id).trans HY.out
  clear z0 z1 z2 z3 z4 z5 zf c0 c1
  have z0 := block_cell hx4 0 _ rfl
  have z1 := block_cell hx4 1 _ rfl
  have z2 := block_cell hx4 2 _ rfl
  have z3 := block_cell hx4 3 _ rfl
  have z4 := block_cell hx4 4 _ rfl
  have z5 := block_cell hx4 5 _ rfl
  have zf := block_free hx4
  have y0 := block_cell hy4 0 _ rfl
  have y1 := block_cell hy4 1 _ rfl
  have y2 := block_cell hy4 2 _ rfl
  have y3 := block_cell hy4 3 _ rfl
  have y4 := block_cell hy4 4 _ rfl
  have y5 := block_cell hy4 5 _ rfl
  have yf := block_free hy4
  clear hx4 hy4 a4
  rw [hok]
  go_wp2
  exact bodyPost_ret (v := lookT primV0 0 7) (by simp [results, Tryd.results38, go_sem, lookT, primV0, primV, hopd, z0, z1, z2, z3, z4, z5]) rfl ⟨rfl, _, ((((((A4.out.setNew (Nat.le_refl _) _).setNew (Nat.le_refl _) _).setNew (Nat.le_refl _) _).setNew (Nat.le_refl _) _).setNew (Nat.le_refl _) _).setNew (Nat.le_refl _) _)⟩
set_option maxRecDepth 100000 in
set_option maxHeartbeats 400000 in
theorem look_c (h : VM w G p i j q P D R M code s) (hst : (s.st != 1) = false) (k : Nat) (h1 : 1 ≤ k) (h64 : k < 64) (hb : codeB code s.pc = true) (hb2 : codeB code (codeV code s.pc) = true) (hk : codeV code (codeV code s.pc) = (k : Int)) (hopd : operandB k = false) (hk2 : (((k : Nat) : Int) == 2) = true) (hok : codeB code ((codeV code s.pc + 2) % 65536) = true) : Calls Tryd.prog 38 #[.pointer (some ⟨P, 0, none⟩)] w (Looked w G (lookT (primV k) (codeV code ((codeV code s.pc + 2) % 65536)) 0)) := by
  have HA := Lib.hid ((Adv.refl (fun _ => False) w G).alloc (.cells #[.int .i64 0, .string ⟨#[]⟩, .int .i64 0, .int .i64 0, .int .i64 0, .bool false] 25) 0)
  have H0 := Lib.hid (h.alloc (.cells #[.int .i64 0, .string ⟨#[]⟩, .int .i64 0, .int .i64 0, .int .i64 0, .bool false] 25) 0)
  have hg := heap_alloc_new w (.cells #[.int .i64 0, .string ⟨#[]⟩, .int .i64 0, .int .i64 0, .int .i64 0, .bool false] 25)
  have hP := h.lt
  obtain ⟨c0, c1, -⟩ := h.cells
  have p0 := h.ok.pc0
  have p1 := h.ok.pc1
  have q0 := (codeV_rng code s.pc).1
  have q1 := (codeV_rng code s.pc).2
  have HG := Lib.hid hg
  clear h hg
  go_enter Tryd.func38, Tryd.ntmps38
  go_wp2_with fail
  refine (cellV_any s.pc p0 p1 H0.out).mono ?_
  rintro e w1 ⟨rfl, G1, a1⟩
  have A1 := Lib.hid (HA.out.trans a1)
  have H1 := Lib.hid (H0.out.still a1)
  have hc1 := (a1.keep w.heap.size (by simp) id).trans HG.out
  have HC1 := Lib.hid hc1
  clear a1 c0 c1
  rw [hb]
  clear hc1
  obtain ⟨c0, c1, -⟩ := H1.out.cells
  go_wp2_with fail
  refine (cellV_any (codeV code s.pc) q0 q1 H1.out).mono ?_
  rintro e w2 ⟨rfl, G2, a2⟩
  have A2 := Lib.hid (A1.out.trans a2)
  have H2 := Lib.hid (H1.out.still a2)
  have hc2 := (a2.keep w.heap.size (Array.getElem?_eq_some_iff.1 HC1.out).1 id).trans HC1.out
  have HC2 := Lib.hid hc2
  clear a2 c0 c1
  rw [hb2]
  clear hc2
  rw [hk]
  obtain ⟨t, ht⟩ : ∃ t, t = codeV code s.pc := ⟨_, rfl⟩
  rw [← ht] at q0 q1 ⊢
  have HTT := Lib.hid ht
  clear ht
  have HK := Lib.hid hk
  clear hk hb hb2
  go_wp2_with fail
  refine (of_in G2 k h1 h64 _ H2.out.tb).mono ?_
  rintro e w3 ⟨rfl, G3, a3⟩
  unfold primV
  rw [hopd]
  have hl := (Array.getElem?_eq_some_iff.1 HC2.out).1
  have hc3 := (a3.keep w.heap.size hl id).trans HC2.out
  have B3 := Lib.hid (A2.out.trans a3)
  have A3 := Lib.hid ((A2.out.trans a3).alloc (.cells #[.int .i64 k, .string (nameB k), .int .i64 (takesN k), .int .i64 (leavesN k), .int .i64 (costsN k), .bool false] 25) 0)
  have H3 := Lib.hid ((H2.out.still a3).alloc (.cells #[.int .i64 k, .string (nameB k), .int .i64 (takesN k), .int .i64 (leavesN k), .int .i64 (costsN k), .bool false] 25) 0)
  have hy := heap_alloc_new w3 (.cells #[.int .i64 k, .string (nameB k), .int .i64 (takesN k), .int .i64 (leavesN k), .int .i64 (costsN k), .bool false] 25)
  have hx := (heap_past w3 (.cells #[.int .i64 k, .string (nameB k), .int .i64 (takesN k), .int .i64 (leavesN k), .int .i64 (costsN k), .bool false] 25) _ (Array.getElem?_eq_some_iff.1 hc3).1).trans hc3
  have hd3 : w.heap.size < w3.heap.size := (Array.getElem?_eq_some_iff.1 hc3).1
  have HY := Lib.hid hy
  have HX := Lib.hid hx
  obtain ⟨c0, c1, -⟩ := (H2.out.still a3).cells
  have hP3 := (H2.out.still a3).lt
  have z0 := block_cell hc3 0 _ rfl
  have z1 := block_cell hc3 1 _ rfl
  have z2 := block_cell hc3 2 _ rfl
  have z3 := block_cell hc3 3 _ rfl
  have z4 := block_cell hc3 4 _ rfl
  have z5 := block_cell hc3 5 _ rfl
  have zf := block_free hc3
  clear a3 hl hc3 hy hx
  rw [← HTT.out] at hok
  have hw := wrap_u16_mod (t + 2)
  have m0 := (mod16 (t + 2)).1
  have m1 := (mod16 (t + 2)).2
  go_wp2_with fail
  refine (cellV_any ((t + 2) % 65536) m0 m1 H3.out).mono ?_
  rintro e w4 ⟨rfl, G4, a4⟩
  have A4 := Lib.hid (A3.out.trans a4)
  have hx4 := (a4.keep w.heap.size (Array.getElem?_eq_some_iff.1 HX.out).1 id).trans HX.out
  have hy4 := (a4.keep w3.heap.size (Array.getElem?_eq_some_iff.1 HY.out).1 id).trans HY.out
  clear z0 z1 z2 z3 z4 z5 zf c0 c1
  have z0 := block_cell hx4 0 _ rfl
  have z1 := block_cell hx4 1 _ rfl
  have z2 := block_cell hx4 2 _ rfl
  have z3 := block_cell hx4 3 _ rfl
  have z4 := block_cell hx4 4 _ rfl
  have z5 := block_cell hx4 5 _ rfl
  have zf := block_free hx4
  have y0 := block_cell hy4 0 _ rfl
  have y1 := block_cell hy4 1 _ rfl
  have y2 := block_cell hy4 2 _ rfl
  have y3 := block_cell hy4 3 _ rfl
  have y4 := block_cell hy4 4 _ rfl
  have y5 := block_cell hy4 5 _ rfl
  have yf := block_free hy4
  clear hx4 hy4 a4
  rw [hok]
  go_wp2
  exact bodyPost_ret (v := lookT (primV k) (codeV code ((t + 2) % 65536)) 0) (by simp [results, Tryd.results38, go_sem, lookT, primV0, primV, hopd, z0, z1, z2, z3, z4, z5]) rfl ⟨(by rw [HTT.out]), _, ((((((A4.out.setNew (Nat.le_refl _) _).setNew (Nat.le_refl _) _).setNew (Nat.le_refl _) _).setNew (Nat.le_refl _) _).setNew (Nat.le_refl _) _).setNew (Nat.le_refl _) _)⟩
set_option maxRecDepth 100000 in
set_option maxHeartbeats 400000 in
theorem look_c_no (h : VM w G p i j q P D R M code s) (hst : (s.st != 1) = false) (k : Nat) (h1 : 1 ≤ k) (h64 : k < 64) (hb : codeB code s.pc = true) (hb2 : codeB code (codeV code s.pc) = true) (hk : codeV code (codeV code s.pc) = (k : Int)) (hopd : operandB k = false) (hk2 : (((k : Nat) : Int) == 2) = true) (hok : codeB code ((codeV code s.pc + 2) % 65536) = false) : Calls Tryd.prog 38 #[.pointer (some ⟨P, 0, none⟩)] w (Looked w G (lookT primV0 0 7)) := by
  have HA := Lib.hid ((Adv.refl (fun _ => False) w G).alloc (.cells #[.int .i64 0, .string ⟨#[]⟩, .int .i64 0, .int .i64 0, .int .i64 0, .bool false] 25) 0)
  have H0 := Lib.hid (h.alloc (.cells #[.int .i64 0, .string ⟨#[]⟩, .int .i64 0, .int .i64 0, .int .i64 0, .bool false] 25) 0)
  have hg := heap_alloc_new w (.cells #[.int .i64 0, .string ⟨#[]⟩, .int .i64 0, .int .i64 0, .int .i64 0, .bool false] 25)
  have hP := h.lt
  obtain ⟨c0, c1, -⟩ := h.cells
  have p0 := h.ok.pc0
  have p1 := h.ok.pc1
  have q0 := (codeV_rng code s.pc).1
  have q1 := (codeV_rng code s.pc).2
  have HG := Lib.hid hg
  clear h hg
  go_enter Tryd.func38, Tryd.ntmps38
  go_wp2_with fail
  refine (cellV_any s.pc p0 p1 H0.out).mono ?_
  rintro e w1 ⟨rfl, G1, a1⟩
  have A1 := Lib.hid (HA.out.trans a1)
  have H1 := Lib.hid (H0.out.still a1)
  have hc1 := (a1.keep w.heap.size (by simp) id).trans HG.out
  have HC1 := Lib.hid hc1
  clear a1 c0 c1
  rw [hb]
  clear hc1
  obtain ⟨c0, c1, -⟩ := H1.out.cells
  go_wp2_with fail
  refine (cellV_any (codeV code s.pc) q0 q1 H1.out).mono ?_
  rintro e w2 ⟨rfl, G2, a2⟩
  have A2 := Lib.hid (A1.out.trans a2)
  have H2 := Lib.hid (H1.out.still a2)
  have hc2 := (a2.keep w.heap.size (Array.getElem?_eq_some_iff.1 HC1.out).1 id).trans HC1.out
  have HC2 := Lib.hid hc2
  clear a2 c0 c1
  rw [hb2]
  clear hc2
  rw [hk]
  obtain ⟨t, ht⟩ : ∃ t, t = codeV code s.pc := ⟨_, rfl⟩
  rw [← ht] at q0 q1 ⊢
  have HTT := Lib.hid ht
  clear ht
  have HK := Lib.hid hk
  clear hk hb hb2
  go_wp2_with fail
  refine (of_in G2 k h1 h64 _ H2.out.tb).mono ?_
  rintro e w3 ⟨rfl, G3, a3⟩
  unfold primV
  rw [hopd]
  have hl := (Array.getElem?_eq_some_iff.1 HC2.out).1
  have hc3 := (a3.keep w.heap.size hl id).trans HC2.out
  have B3 := Lib.hid (A2.out.trans a3)
  have A3 := Lib.hid ((A2.out.trans a3).alloc (.cells #[.int .i64 k, .string (nameB k), .int .i64 (takesN k), .int .i64 (leavesN k), .int .i64 (costsN k), .bool false] 25) 0)
  have H3 := Lib.hid ((H2.out.still a3).alloc (.cells #[.int .i64 k, .string (nameB k), .int .i64 (takesN k), .int .i64 (leavesN k), .int .i64 (costsN k), .bool false] 25) 0)
  have hy := heap_alloc_new w3 (.cells #[.int .i64 k, .string (nameB k), .int .i64 (takesN k), .int .i64 (leavesN k), .int .i64 (costsN k), .bool false] 25)
  have hx := (heap_past w3 (.cells #[.int .i64 k, .string (nameB k), .int .i64 (takesN k), .int .i64 (leavesN k), .int .i64 (costsN k), .bool false] 25) _ (Array.getElem?_eq_some_iff.1 hc3).1).trans hc3
  have hd3 : w.heap.size < w3.heap.size := (Array.getElem?_eq_some_iff.1 hc3).1
  have HY := Lib.hid hy
  have HX := Lib.hid hx
  obtain ⟨c0, c1, -⟩ := (H2.out.still a3).cells
  have hP3 := (H2.out.still a3).lt
  have z0 := block_cell hc3 0 _ rfl
  have z1 := block_cell hc3 1 _ rfl
  have z2 := block_cell hc3 2 _ rfl
  have z3 := block_cell hc3 3 _ rfl
  have z4 := block_cell hc3 4 _ rfl
  have z5 := block_cell hc3 5 _ rfl
  have zf := block_free hc3
  clear a3 hl hc3 hy hx
  rw [← HTT.out] at hok
  have hw := wrap_u16_mod (t + 2)
  have m0 := (mod16 (t + 2)).1
  have m1 := (mod16 (t + 2)).2
  go_wp2_with fail
  refine (cellV_any ((t + 2) % 65536) m0 m1 H3.out).mono ?_
  rintro e w4 ⟨rfl, G4, a4⟩
  have A4 := Lib.hid (A3.out.trans a4)
  have hx4 := (a4.keep w.heap.size (Array.getElem?_eq_some_iff.1 HX.out).1 id).trans HX.out
  have hy4 := (a4.keep w3.heap.size (Array.getElem?_eq_some_iff.1 HY.out).1 id).trans HY.out
  clear z0 z1 z2 z3 z4 z5 zf c0 c1
  have z0 := block_cell hx4 0 _ rfl
  have z1 := block_cell hx4 1 _ rfl
  have z2 := block_cell hx4 2 _ rfl
  have z3 := block_cell hx4 3 _ rfl
  have z4 := block_cell hx4 4 _ rfl
  have z5 := block_cell hx4 5 _ rfl
  have zf := block_free hx4
  have y0 := block_cell hy4 0 _ rfl
  have y1 := block_cell hy4 1 _ rfl
  have y2 := block_cell hy4 2 _ rfl
  have y3 := block_cell hy4 3 _ rfl
  have y4 := block_cell hy4 4 _ rfl
  have y5 := block_cell hy4 5 _ rfl
  have yf := block_free hy4
  clear hx4 hy4 a4
  rw [hok]
  go_wp2
  exact bodyPost_ret (v := lookT primV0 0 7) (by simp [results, Tryd.results38, go_sem, lookT, primV0, primV, hopd, z0, z1, z2, z3, z4, z5]) rfl ⟨rfl, _, ((((((A4.out.setNew (Nat.le_refl _) _).setNew (Nat.le_refl _) _).setNew (Nat.le_refl _) _).setNew (Nat.le_refl _) _).setNew (Nat.le_refl _) _).setNew (Nat.le_refl _) _)⟩
set_option maxRecDepth 100000 in
set_option maxHeartbeats 400000 in
theorem look_1 (h : VM w G p i j q P D R M code s) (hst : (s.st != 1) = false) (k : Nat) (h1 : 1 ≤ k) (h64 : k < 64) (hb : codeB code s.pc = true) (hb2 : codeB code (codeV code s.pc) = true) (hk : codeV code (codeV code s.pc) = (k : Int)) (hopd : operandB k = false) (hk2 : (((k : Nat) : Int) == 2) = false) (hk1 : (((k : Nat) : Int) == 1) = true) : Calls Tryd.prog 38 #[.pointer (some ⟨P, 0, none⟩)] w (Looked w G (lookT (primV k) ((codeV code s.pc + 2) % 65536) 0)) := by
  have HA := Lib.hid ((Adv.refl (fun _ => False) w G).alloc (.cells #[.int .i64 0, .string ⟨#[]⟩, .int .i64 0, .int .i64 0, .int .i64 0, .bool false] 25) 0)
  have H0 := Lib.hid (h.alloc (.cells #[.int .i64 0, .string ⟨#[]⟩, .int .i64 0, .int .i64 0, .int .i64 0, .bool false] 25) 0)
  have hg := heap_alloc_new w (.cells #[.int .i64 0, .string ⟨#[]⟩, .int .i64 0, .int .i64 0, .int .i64 0, .bool false] 25)
  have hP := h.lt
  obtain ⟨c0, c1, -⟩ := h.cells
  have p0 := h.ok.pc0
  have p1 := h.ok.pc1
  have q0 := (codeV_rng code s.pc).1
  have q1 := (codeV_rng code s.pc).2
  have HG := Lib.hid hg
  clear h hg
  go_enter Tryd.func38, Tryd.ntmps38
  go_wp2_with fail
  refine (cellV_any s.pc p0 p1 H0.out).mono ?_
  rintro e w1 ⟨rfl, G1, a1⟩
  have A1 := Lib.hid (HA.out.trans a1)
  have H1 := Lib.hid (H0.out.still a1)
  have hc1 := (a1.keep w.heap.size (by simp) id).trans HG.out
  have HC1 := Lib.hid hc1
  clear a1 c0 c1
  rw [hb]
  clear hc1
  obtain ⟨c0, c1, -⟩ := H1.out.cells
  go_wp2_with fail
  refine (cellV_any (codeV code s.pc) q0 q1 H1.out).mono ?_
  rintro e w2 ⟨rfl, G2, a2⟩
  have A2 := Lib.hid (A1.out.trans a2)
  have H2 := Lib.hid (H1.out.still a2)
  have hc2 := (a2.keep w.heap.size (Array.getElem?_eq_some_iff.1 HC1.out).1 id).trans HC1.out
  have HC2 := Lib.hid hc2
  clear a2 c0 c1
  rw [hb2]
  clear hc2
  rw [hk]
  obtain ⟨t, ht⟩ : ∃ t, t = codeV code s.pc := ⟨_, rfl⟩
  rw [← ht] at q0 q1 ⊢
  have HTT := Lib.hid ht
  clear ht
  have HK := Lib.hid hk
  clear hk hb hb2
  go_wp2_with fail
  refine (of_in G2 k h1 h64 _ H2.out.tb).mono ?_
  rintro e w3 ⟨rfl, G3, a3⟩
  unfold primV
  rw [hopd]
  have hl := (Array.getElem?_eq_some_iff.1 HC2.out).1
  have hc3 := (a3.keep w.heap.size hl id).trans HC2.out
  have B3 := Lib.hid (A2.out.trans a3)
  have A3 := Lib.hid ((A2.out.trans a3).alloc (.cells #[.int .i64 k, .string (nameB k), .int .i64 (takesN k), .int .i64 (leavesN k), .int .i64 (costsN k), .bool false] 25) 0)
  have H3 := Lib.hid ((H2.out.still a3).alloc (.cells #[.int .i64 k, .string (nameB k), .int .i64 (takesN k), .int .i64 (leavesN k), .int .i64 (costsN k), .bool false] 25) 0)
  have hy := heap_alloc_new w3 (.cells #[.int .i64 k, .string (nameB k), .int .i64 (takesN k), .int .i64 (leavesN k), .int .i64 (costsN k), .bool false] 25)
  have hx := (heap_past w3 (.cells #[.int .i64 k, .string (nameB k), .int .i64 (takesN k), .int .i64 (leavesN k), .int .i64 (costsN k), .bool false] 25) _ (Array.getElem?_eq_some_iff.1 hc3).1).trans hc3
  have hd3 : w.heap.size < w3.heap.size := (Array.getElem?_eq_some_iff.1 hc3).1
  have HY := Lib.hid hy
  have HX := Lib.hid hx
  obtain ⟨c0, c1, -⟩ := (H2.out.still a3).cells
  have hP3 := (H2.out.still a3).lt
  have z0 := block_cell hc3 0 _ rfl
  have z1 := block_cell hc3 1 _ rfl
  have z2 := block_cell hc3 2 _ rfl
  have z3 := block_cell hc3 3 _ rfl
  have z4 := block_cell hc3 4 _ rfl
  have z5 := block_cell hc3 5 _ rfl
  have zf := block_free hc3
  clear a3 hl hc3 hy hx
  have hw := wrap_u16_mod (t + 2)
  go_wp2
  exact bodyPost_ret (v := lookT (primV k) ((t + 2) % 65536) 0) (by simp [results, Tryd.results38, go_sem, lookT, primV0, primV, hopd, hd3, z0, z1, z2, z3, z4, z5]) rfl ⟨(by rw [HTT.out]), _, ((((((B3.out.setNew (Nat.le_refl _) _).setNew (Nat.le_refl _) _).setNew (Nat.le_refl _) _).setNew (Nat.le_refl _) _).setNew (Nat.le_refl _) _).setNew (Nat.le_refl _) _).alloc _ 0⟩
set_option maxRecDepth 100000 in
set_option maxHeartbeats 400000 in
theorem look_z (h : VM w G p i j q P D R M code s) (hst : (s.st != 1) = false) (k : Nat) (h1 : 1 ≤ k) (h64 : k < 64) (hb : codeB code s.pc = true) (hb2 : codeB code (codeV code s.pc) = true) (hk : codeV code (codeV code s.pc) = (k : Int)) (hopd : operandB k = false) (hk2 : (((k : Nat) : Int) == 2) = false) (hk1 : (((k : Nat) : Int) == 1) = false) : Calls Tryd.prog 38 #[.pointer (some ⟨P, 0, none⟩)] w (Looked w G (lookT (primV k) 0 0)) := by
  have HA := Lib.hid ((Adv.refl (fun _ => False) w G).alloc (.cells #[.int .i64 0, .string ⟨#[]⟩, .int .i64 0, .int .i64 0, .int .i64 0, .bool false] 25) 0)
  have H0 := Lib.hid (h.alloc (.cells #[.int .i64 0, .string ⟨#[]⟩, .int .i64 0, .int .i64 0, .int .i64 0, .bool false] 25) 0)
  have hg := heap_alloc_new w (.cells #[.int .i64 0, .string ⟨#[]⟩, .int .i64 0, .int .i64 0, .int .i64 0, .bool false] 25)
  have hP := h.lt
  obtain ⟨c0, c1, -⟩ := h.cells
  have p0 := h.ok.pc0
  have p1 := h.ok.pc1
  have q0 := (codeV_rng code s.pc).1
  have q1 := (codeV_rng code s.pc).2
  have HG := Lib.hid hg
  clear h hg
  go_enter Tryd.func38, Tryd.ntmps38
  go_wp2_with fail
  refine (cellV_any s.pc p0 p1 H0.out).mono ?_
  rintro e w1 ⟨rfl, G1, a1⟩
  have A1 := Lib.hid (HA.out.trans a1)
  have H1 := Lib.hid (H0.out.still a1)
  have hc1 := (a1.keep w.heap.size (by simp) id).trans HG.out
  have HC1 := Lib.hid hc1
  clear a1 c0 c1
  rw [hb]
  clear hc1
  obtain ⟨c0, c1, -⟩ := H1.out.cells
  go_wp2_with fail
  refine (cellV_any (codeV code s.pc) q0 q1 H1.out).mono ?_
  rintro e w2 ⟨rfl, G2, a2⟩
  have A2 := Lib.hid (A1.out.trans a2)
  have H2 := Lib.hid (H1.out.still a2)
  have hc2 := (a2.keep w.heap.size (Array.getElem?_eq_some_iff.1 HC1.out).1 id).trans HC1.out
  have HC2 := Lib.hid hc2
  clear a2 c0 c1
  rw [hb2]
  clear hc2
  rw [hk]
  obtain ⟨t, ht⟩ : ∃ t, t = codeV code s.pc := ⟨_, rfl⟩
  rw [← ht] at q0 q1 ⊢
  have HTT := Lib.hid ht
  clear ht
  have HK := Lib.hid hk
  clear hk hb hb2
  go_wp2_with fail
  refine (of_in G2 k h1 h64 _ H2.out.tb).mono ?_
  rintro e w3 ⟨rfl, G3, a3⟩
  unfold primV
  rw [hopd]
  have hl := (Array.getElem?_eq_some_iff.1 HC2.out).1
  have hc3 := (a3.keep w.heap.size hl id).trans HC2.out
  have B3 := Lib.hid (A2.out.trans a3)
  have A3 := Lib.hid ((A2.out.trans a3).alloc (.cells #[.int .i64 k, .string (nameB k), .int .i64 (takesN k), .int .i64 (leavesN k), .int .i64 (costsN k), .bool false] 25) 0)
  have H3 := Lib.hid ((H2.out.still a3).alloc (.cells #[.int .i64 k, .string (nameB k), .int .i64 (takesN k), .int .i64 (leavesN k), .int .i64 (costsN k), .bool false] 25) 0)
  have hy := heap_alloc_new w3 (.cells #[.int .i64 k, .string (nameB k), .int .i64 (takesN k), .int .i64 (leavesN k), .int .i64 (costsN k), .bool false] 25)
  have hx := (heap_past w3 (.cells #[.int .i64 k, .string (nameB k), .int .i64 (takesN k), .int .i64 (leavesN k), .int .i64 (costsN k), .bool false] 25) _ (Array.getElem?_eq_some_iff.1 hc3).1).trans hc3
  have hd3 : w.heap.size < w3.heap.size := (Array.getElem?_eq_some_iff.1 hc3).1
  have HY := Lib.hid hy
  have HX := Lib.hid hx
  obtain ⟨c0, c1, -⟩ := (H2.out.still a3).cells
  have hP3 := (H2.out.still a3).lt
  have z0 := block_cell hc3 0 _ rfl
  have z1 := block_cell hc3 1 _ rfl
  have z2 := block_cell hc3 2 _ rfl
  have z3 := block_cell hc3 3 _ rfl
  have z4 := block_cell hc3 4 _ rfl
  have z5 := block_cell hc3 5 _ rfl
  have zf := block_free hc3
  clear a3 hl hc3 hy hx
  go_wp2
  exact bodyPost_ret (v := lookT (primV k) 0 0) (by simp [results, Tryd.results38, go_sem, lookT, primV0, primV, hopd, hd3, z0, z1, z2, z3, z4, z5]) rfl ⟨rfl, _, ((((((B3.out.setNew (Nat.le_refl _) _).setNew (Nat.le_refl _) _).setNew (Nat.le_refl _) _).setNew (Nat.le_refl _) _).setNew (Nat.le_refl _) _).setNew (Nat.le_refl _) _).alloc _ 0⟩
/-- Look, of a machine that runs. -/
theorem look_any (h : VM w G p i j q P D R M code s) (hst : s.st = 1) : Calls Tryd.prog 38 #[.pointer (some ⟨P, 0, none⟩)] w (Looked w G (lookT (primW (if lookE code s = 0 then lookOp code s else 0)) (if lookE code s = 0 then lookX code s else 0) (lookE code s))) := by
  have hs : (s.st != 1) = false := by simp [hst]
  have hkv : codeV code (codeV code s.pc) = ((lookOp code s : Nat) : Int) := by have := (codeV_rng code (codeV code s.pc)).1; unfold lookOp; omega
  by_cases b1 : codeB code s.pc = false
  · have e : lookE code s = 7 := if_pos b1
    rw [e]; exact look_e1 h hs b1
  · by_cases b2 : codeB code (codeV code s.pc) = false
    · have e : lookE code s = 7 := (if_neg b1).trans (if_pos b2)
      rw [e]; exact look_e2 h hs (by simpa using b1) b2
    · have b1' : codeB code s.pc = true := by simpa using b1
      have b2' : codeB code (codeV code s.pc) = true := by simpa using b2
      by_cases b3 : lookOp code s < 1 ∨ 64 ≤ lookOp code s
      · have e : lookE code s = 6 := (if_neg b1).trans ((if_neg b2).trans (if_pos b3))
        rw [e]; exact look_e3 h hs b1' b2' (by rw [hkv]; omega)
      · have hpw : primW (lookOp code s) = primV (lookOp code s) := if_neg (by omega)
        have fin0 : lookOk code s = true → lookE code s = 0 := fun hh => (if_neg b1).trans ((if_neg b2).trans ((if_neg b3).trans (if_neg (by rw [hh]; decide))))
        have fin7 : lookOk code s = false → lookE code s = 7 := fun hh => (if_neg b1).trans ((if_neg b2).trans ((if_neg b3).trans (if_pos hh)))
        cases hopd : operandB (lookOp code s) with
        | true =>
          have ex : lookX code s = codeV code ((s.pc + 2) % 65536) := if_pos hopd
          have eo : lookOk code s = codeB code ((s.pc + 2) % 65536) := if_pos hopd
          cases hok : codeB code ((s.pc + 2) % 65536) with
          | true =>
            have e := fin0 (eo.trans hok)
            rw [e, if_pos rfl, if_pos rfl, hpw, ex]
            exact look_p h hs _ (by omega) (by omega) b1' b2' hkv hopd hok
          | false =>
            have e := fin7 (eo.trans hok)
            rw [e]; exact look_p_no h hs _ (by omega) (by omega) b1' b2' hkv hopd hok
        | false =>
          have nop : ¬ operandB (lookOp code s) = true := by rw [hopd]; decide
          by_cases k2 : lookOp code s = 2
          · have ex : lookX code s = codeV code ((codeV code s.pc + 2) % 65536) := (if_neg nop).trans (if_pos k2)
            have eo : lookOk code s = codeB code ((codeV code s.pc + 2) % 65536) := (if_neg nop).trans (if_pos k2)
            cases hok : codeB code ((codeV code s.pc + 2) % 65536) with
            | true =>
              have e := fin0 (eo.trans hok)
              rw [e, if_pos rfl, if_pos rfl, hpw, ex]
              exact look_c h hs _ (by omega) (by omega) b1' b2' hkv hopd (by simp; omega) hok
            | false =>
              have e := fin7 (eo.trans hok)
              rw [e]; exact look_c_no h hs _ (by omega) (by omega) b1' b2' hkv hopd (by simp; omega) hok
          · have eo : lookOk code s = true := (if_neg nop).trans (if_neg k2)
            have e := fin0 eo
            rw [e, if_pos rfl, if_pos rfl, hpw]
            by_cases k1 : lookOp code s = 1
            · have ex : lookX code s = (codeV code s.pc + 2) % 65536 := (if_neg nop).trans ((if_neg k2).trans (if_pos k1))
              rw [ex]
              exact look_1 h hs _ (by omega) (by omega) b1' b2' hkv hopd (by simp; omega) (by simp; omega)
            · have ex : lookX code s = 0 := (if_neg nop).trans ((if_neg k2).trans (if_neg k1))
              rw [ex]
              exact look_z h hs _ (by omega) (by omega) b1' b2' hkv hopd (by simp; omega) (by simp; omega)
end
end Go.Proofs.YtdnalhjdmlkbmaaDoor
