/- Behind Do all is within its bounds again; wisplaw06.sameCells; slices.Clone of tones; Tones; The world of wisplaw06's statements, all at once; pushed; What is stored, plotted, played is found again; PrimBack's walk; PrimBack, its arguments opened. -/
import Derived.OpenShut
import Derived.Test.YtdnalhjdmlkbmaaDoorPrimBackU1
import Derived.Test.YtdnalhjdmlkbmaaDoorPrimBackU2
import Derived.Test.YtdnalhjdmlkbmaaDoorPrimBackU3
import Derived.Test.YtdnalhjdmlkbmaaDoorPrimBackU4
namespace Go.Proofs.YtdnalhjdmlkbmaaDoor
open Go.RowKit

theorem good_push {b : List Int} {r : List (Int × Int)} {m : MemS} {l : List Int} (hb : D16 b) (hl : D16 l) (hr : R16 r) (hrl : r.length ≤ 128) (hm : MemOk m) (hR : MemR m) (hn : b.length + l.length ≤ 256) : Good3 (b ++ l) r m :=
  ⟨hb.append hl, hr, by rw [List.length_append]; exact hn, hrl, hm, hR⟩
theorem R16.two {a b : Int} {x y : Int} (hx : 0 ≤ x ∧ x < 65536) (hy : 0 ≤ y ∧ y < 65536) : R16 [(a, x), (b, y)] := (R16.one (x := (a, x)) hx).append (R16.one (x := (b, y)) hy)
set_option maxRecDepth 100000 in
theorem act_good (k : Nat) (hk : k < 64) (b x : List Int) (r : List (Int × Int)) (m : MemS) (hb : D16 b) (hx : D16 x) (hr : R16 r) (hm : MemOk m) (hR : MemR m) (hxl : x.length = (takesN k).toNat) (hbl : (b.length : Int) + leavesN k ≤ 256) (hrl : r.length ≤ 128) (hadd : (r.length : Int) + addsF k ≤ 128) :
    Good3 (actF k b x r m).1 (actF k b x r m).2.1 (actF k b x r m).2.2 ∧ (actF k b x r m).2.2.tones.length ≤ m.tones.length + 3 := by
  have h0 := hx.getD 0
  have h1 := hx.getD 1
  have h2 := hx.getD 2
  match k, hk with
  | 0, _ => have hb' : (b.length : Int) + 0 ≤ 256 := hbl; exact ⟨⟨hb, hr, (show b.length ≤ 256 by omega), hrl, hm, hR⟩, Nat.le_add_right _ _⟩
  | 1, _ => have hb' : (b.length : Int) + 0 ≤ 256 := hbl; exact ⟨⟨hb, hr, (show b.length ≤ 256 by omega), hrl, hm, hR⟩, Nat.le_add_right _ _⟩
  | 2, _ => have hb' : (b.length : Int) + 1 ≤ 256 := hbl; exact ⟨⟨hb, hr, (show b.length ≤ 256 by omega), hrl, hm, hR⟩, Nat.le_add_right _ _⟩
  | 3, _ => have hb' : (b.length : Int) + 1 ≤ 256 := hbl; exact ⟨⟨hb, hr, (show b.length ≤ 256 by omega), hrl, hm, hR⟩, Nat.le_add_right _ _⟩
  | 4, _ => have hb' : (b.length : Int) + 0 ≤ 256 := hbl; exact ⟨⟨hb, hr, (show b.length ≤ 256 by omega), hrl, hm, hR⟩, Nat.le_add_right _ _⟩
  | 5, _ => have hb' : (b.length : Int) + 0 ≤ 256 := hbl; exact ⟨⟨hb, hr, (show b.length ≤ 256 by omega), hrl, hm, hR⟩, Nat.le_add_right _ _⟩
  | 6, _ => have ha' : (r.length : Int) + 2 ≤ 128 := hadd; have hb' : (b.length : Int) + 0 ≤ 256 := hbl; exact ⟨⟨hb, hr.append (R16.two h0 h1), (show b.length ≤ 256 by omega), (show (r ++ [((2 : Int), x.getD 0 0), (3, x.getD 1 0)]).length ≤ 128 by simp; omega), hm, hR⟩, Nat.le_add_right _ _⟩
  | 7, _ => have hb' : (b.length : Int) + 0 ≤ 256 := hbl; exact ⟨⟨hb, hr, (show b.length ≤ 256 by omega), hrl, hm, hR⟩, Nat.le_add_right _ _⟩
  | 8, _ => have hb' : (b.length : Int) + 0 ≤ 256 := hbl; exact ⟨⟨hb, hr, (show b.length ≤ 256 by omega), hrl, hm, hR⟩, Nat.le_add_right _ _⟩
  | 9, _ => have hb' : (b.length : Int) + 0 ≤ 256 := hbl; exact ⟨⟨hb, hr, (show b.length ≤ 256 by omega), hrl, hm, hR⟩, Nat.le_add_right _ _⟩
  | 10, _ => have hb' : (b.length : Int) + 0 ≤ 256 := hbl; exact ⟨⟨hb, hr, (show b.length ≤ 256 by omega), hrl, hm, hR⟩, Nat.le_add_right _ _⟩
  | 11, _ => have hb' : (b.length : Int) + 0 ≤ 256 := hbl; exact ⟨⟨hb, hr, (show b.length ≤ 256 by omega), hrl, hm, hR⟩, Nat.le_add_right _ _⟩
  | 12, _ => have hb' : (b.length : Int) + 2 ≤ 256 := hbl; exact ⟨good_push hb (picks_rng hx _) hr hrl hm hR (by simp [picks, shufP]; omega), Nat.le_add_right _ _⟩
  | 13, _ => have hb' : (b.length : Int) + 0 ≤ 256 := hbl; exact ⟨good_push hb (picks_rng hx _) hr hrl hm hR (by simp [picks, shufP]; omega), Nat.le_add_right _ _⟩
  | 14, _ => have hb' : (b.length : Int) + 2 ≤ 256 := hbl; exact ⟨good_push hb (picks_rng hx _) hr hrl hm hR (by simp [picks, shufP]; omega), Nat.le_add_right _ _⟩
  | 15, _ => have hb' : (b.length : Int) + 3 ≤ 256 := hbl; exact ⟨good_push hb (picks_rng hx _) hr hrl hm hR (by simp [picks, shufP]; omega), Nat.le_add_right _ _⟩
  | 16, _ => have hb' : (b.length : Int) + 3 ≤ 256 := hbl; exact ⟨good_push hb (picks_rng hx _) hr hrl hm hR (by simp [picks, shufP]; omega), Nat.le_add_right _ _⟩
  | 17, _ => have hb' : (b.length : Int) + 1 ≤ 256 := hbl; exact ⟨good_push hb (picks_rng hx _) hr hrl hm hR (by simp [picks, shufP]; omega), Nat.le_add_right _ _⟩
  | 18, _ => have hb' : (b.length : Int) + 3 ≤ 256 := hbl; exact ⟨good_push hb (picks_rng hx _) hr hrl hm hR (by simp [picks, shufP]; omega), Nat.le_add_right _ _⟩
  | 19, _ => have hb' : (b.length : Int) + 4 ≤ 256 := hbl; exact ⟨good_push hb (picks_rng hx _) hr hrl hm hR (by simp [picks, shufP]; omega), Nat.le_add_right _ _⟩
  | 20, _ => have hb' : (b.length : Int) + 0 ≤ 256 := hbl; exact ⟨good_push hb (picks_rng hx _) hr hrl hm hR (by simp [picks, shufP]; omega), Nat.le_add_right _ _⟩
  | 21, _ => have hb' : (b.length : Int) + 1 ≤ 256 := hbl; exact ⟨good_push hb (D16.one (binF_rng 21 _ _ h0.1 h0.2 h1.1 h1.2)) hr hrl hm hR (by simp; omega), Nat.le_add_right _ _⟩
  | 22, _ => have hb' : (b.length : Int) + 1 ≤ 256 := hbl; exact ⟨good_push hb (D16.one (binF_rng 22 _ _ h0.1 h0.2 h1.1 h1.2)) hr hrl hm hR (by simp; omega), Nat.le_add_right _ _⟩
  | 23, _ => have hb' : (b.length : Int) + 1 ≤ 256 := hbl; exact ⟨good_push hb (D16.one (binF_rng 23 _ _ h0.1 h0.2 h1.1 h1.2)) hr hrl hm hR (by simp; omega), Nat.le_add_right _ _⟩
  | 24, _ => have hb' : (b.length : Int) + 1 ≤ 256 := hbl; exact ⟨good_push hb (D16.one (binF_rng 24 _ _ h0.1 h0.2 h1.1 h1.2)) hr hrl hm hR (by simp; omega), Nat.le_add_right _ _⟩
  | 25, _ => have hb' : (b.length : Int) + 1 ≤ 256 := hbl; exact ⟨good_push hb (D16.one (binF_rng 25 _ _ h0.1 h0.2 h1.1 h1.2)) hr hrl hm hR (by simp; omega), Nat.le_add_right _ _⟩
  | 26, _ => have hb' : (b.length : Int) + 1 ≤ 256 := hbl; exact ⟨good_push hb (D16.one (binF_rng 26 _ _ h0.1 h0.2 h1.1 h1.2)) hr hrl hm hR (by simp; omega), Nat.le_add_right _ _⟩
  | 27, _ => have hb' : (b.length : Int) + 1 ≤ 256 := hbl; exact ⟨good_push hb (D16.one (binF_rng 27 _ _ h0.1 h0.2 h1.1 h1.2)) hr hrl hm hR (by simp; omega), Nat.le_add_right _ _⟩
  | 28, _ => have hb' : (b.length : Int) + 1 ≤ 256 := hbl; exact ⟨good_push hb (D16.one (unF_rng 28 _ h0.1 h0.2)) hr hrl hm hR (by simp; omega), Nat.le_add_right _ _⟩
  | 29, _ => have hb' : (b.length : Int) + 1 ≤ 256 := hbl; exact ⟨good_push hb (D16.one (unF_rng 29 _ h0.1 h0.2)) hr hrl hm hR (by simp; omega), Nat.le_add_right _ _⟩
  | 30, _ => have hb' : (b.length : Int) + 1 ≤ 256 := hbl; exact ⟨good_push hb (D16.one (binF_rng 30 _ _ h0.1 h0.2 h1.1 h1.2)) hr hrl hm hR (by simp; omega), Nat.le_add_right _ _⟩
  | 31, _ => have hb' : (b.length : Int) + 1 ≤ 256 := hbl; exact ⟨good_push hb (D16.one (binF_rng 31 _ _ h0.1 h0.2 h1.1 h1.2)) hr hrl hm hR (by simp; omega), Nat.le_add_right _ _⟩
  | 32, _ => have hb' : (b.length : Int) + 1 ≤ 256 := hbl; exact ⟨good_push hb (D16.one (unF_rng 32 _ h0.1 h0.2)) hr hrl hm hR (by simp; omega), Nat.le_add_right _ _⟩
  | 33, _ => have hb' : (b.length : Int) + 1 ≤ 256 := hbl; exact ⟨good_push hb (D16.one (unF_rng 33 _ h0.1 h0.2)) hr hrl hm hR (by simp; omega), Nat.le_add_right _ _⟩
  | 34, _ => have hb' : (b.length : Int) + 1 ≤ 256 := hbl; exact ⟨good_push hb (D16.one (unF_rng 34 _ h0.1 h0.2)) hr hrl hm hR (by simp; omega), Nat.le_add_right _ _⟩
  | 35, _ => have hb' : (b.length : Int) + 1 ≤ 256 := hbl; exact ⟨good_push hb (D16.one (unF_rng 35 _ h0.1 h0.2)) hr hrl hm hR (by simp; omega), Nat.le_add_right _ _⟩
  | 36, _ => have hb' : (b.length : Int) + 1 ≤ 256 := hbl; exact ⟨good_push hb (D16.one (binF_rng 36 _ _ h0.1 h0.2 h1.1 h1.2)) hr hrl hm hR (by simp; omega), Nat.le_add_right _ _⟩
  | 37, _ => have hb' : (b.length : Int) + 1 ≤ 256 := hbl; exact ⟨good_push hb (D16.one (binF_rng 37 _ _ h0.1 h0.2 h1.1 h1.2)) hr hrl hm hR (by simp; omega), Nat.le_add_right _ _⟩
  | 38, _ => have hb' : (b.length : Int) + 1 ≤ 256 := hbl; exact ⟨good_push hb (D16.one (binF_rng 38 _ _ h0.1 h0.2 h1.1 h1.2)) hr hrl hm hR (by simp; omega), Nat.le_add_right _ _⟩
  | 39, _ => have hb' : (b.length : Int) + 1 ≤ 256 := hbl; exact ⟨good_push hb (D16.one (unF_rng 39 _ h0.1 h0.2)) hr hrl hm hR (by simp; omega), Nat.le_add_right _ _⟩
  | 40, _ => have hb' : (b.length : Int) + 1 ≤ 256 := hbl; exact ⟨good_push hb (D16.one (binF_rng 40 _ _ h0.1 h0.2 h1.1 h1.2)) hr hrl hm hR (by simp; omega), Nat.le_add_right _ _⟩
  | 41, _ => have hb' : (b.length : Int) + 1 ≤ 256 := hbl; exact ⟨good_push hb (D16.one (binF_rng 41 _ _ h0.1 h0.2 h1.1 h1.2)) hr hrl hm hR (by simp; omega), Nat.le_add_right _ _⟩
  | 42, _ => have hb' : (b.length : Int) + 1 ≤ 256 := hbl; exact ⟨good_push hb (D16.one (binF_rng 42 _ _ h0.1 h0.2 h1.1 h1.2)) hr hrl hm hR (by simp; omega), Nat.le_add_right _ _⟩
  | 43, _ => have hb' : (b.length : Int) + 1 ≤ 256 := hbl; exact ⟨good_push hb (D16.one (binF_rng 43 _ _ h0.1 h0.2 h1.1 h1.2)) hr hrl hm hR (by simp; omega), Nat.le_add_right _ _⟩
  | 44, _ => have hb' : (b.length : Int) + 1 ≤ 256 := hbl; exact ⟨good_push hb (D16.one (binF_rng 44 _ _ h0.1 h0.2 h1.1 h1.2)) hr hrl hm hR (by simp; omega), Nat.le_add_right _ _⟩
  | 45, _ => have hb' : (b.length : Int) + 1 ≤ 256 := hbl; exact ⟨good_push hb (D16.one (binF_rng 45 _ _ h0.1 h0.2 h1.1 h1.2)) hr hrl hm hR (by simp; omega), Nat.le_add_right _ _⟩
  | 46, _ => have hb' : (b.length : Int) + 1 ≤ 256 := hbl; exact ⟨good_push hb (D16.one (binF_rng 46 _ _ h0.1 h0.2 h1.1 h1.2)) hr hrl hm hR (by simp; omega), Nat.le_add_right _ _⟩
  | 47, _ => have hb' : (b.length : Int) + 1 ≤ 256 := hbl; exact ⟨good_push hb (D16.one (binF_rng 47 _ _ h0.1 h0.2 h1.1 h1.2)) hr hrl hm hR (by simp; omega), Nat.le_add_right _ _⟩
  | 48, _ => have hb' : (b.length : Int) + 1 ≤ 256 := hbl; exact ⟨good_push hb (D16.one (unF_rng 48 _ h0.1 h0.2)) hr hrl hm hR (by simp; omega), Nat.le_add_right _ _⟩
  | 49, _ => have hb' : (b.length : Int) + 1 ≤ 256 := hbl; exact ⟨good_push hb (D16.one (unF_rng 49 _ h0.1 h0.2)) hr hrl hm hR (by simp; omega), Nat.le_add_right _ _⟩
  | 50, _ => have hb' : (b.length : Int) + 1 ≤ 256 := hbl; exact ⟨good_push hb (D16.one (cellF_rng m _)) hr hrl hm hR (by simp; omega), Nat.le_add_right _ _⟩
  | 51, _ => have hb' : (b.length : Int) + 0 ≤ 256 := hbl; exact ⟨⟨hb, hr, (show b.length ≤ 256 by omega), hrl, setCellF_ok hm _ _, setCellF_rng hR _ _⟩, (Nat.le_trans (setCellF_tones _ _ _) (by omega))⟩
  | 52, _ => have hb' : (b.length : Int) + 1 ≤ 256 := hbl; exact ⟨good_push hb (D16.one (⟨(loadF_rng hR _).1, by have := (loadF_rng hR (x.getD 0 0)).2; omega⟩)) hr hrl hm hR (by simp; omega), Nat.le_add_right _ _⟩
  | 53, _ => have hb' : (b.length : Int) + 0 ≤ 256 := hbl; exact ⟨⟨hb, hr, (show b.length ≤ 256 by omega), hrl, storeF_ok _ hm _ _, storeF_rng hR _ (byte_rng _)⟩, (Nat.le_trans (storeF_tones _ _ _) (by omega))⟩
  | 54, _ => have hb' : (b.length : Int) + 0 ≤ 256 := hbl; exact ⟨⟨hb, hr, (show b.length ≤ 256 by omega), hrl, setCellF_ok hm _ _, setCellF_rng hR _ _⟩, (Nat.le_trans (setCellF_tones _ _ _) (by omega))⟩
  | 55, _ => have ha' : (r.length : Int) + 1 ≤ 128 := hadd; have hb' : (b.length : Int) + 0 ≤ 256 := hbl; exact ⟨⟨hb, hr.append (R16.one h0), (show b.length ≤ 256 by omega), (show (r ++ [((4 : Int), x.getD 0 0)]).length ≤ 128 by simp; omega), hm, hR⟩, Nat.le_add_right _ _⟩
  | 56, _ => have hb' : (b.length : Int) + 1 ≤ 256 := hbl; exact ⟨good_push hb (D16.one (atV_rng hr 0 4)) hr.init (show r.dropLast.length ≤ 128 by rw [List.length_dropLast]; omega) hm hR (by simp; omega), Nat.le_add_right _ _⟩
  | 57, _ => have hb' : (b.length : Int) + 1 ≤ 256 := hbl; exact ⟨good_push hb (D16.one (atV_rng hr 0 4)) hr hrl hm hR (by simp; omega), Nat.le_add_right _ _⟩
  | 58, _ => have hb' : (b.length : Int) + 1 ≤ 256 := hbl; exact ⟨good_push hb (D16.one (atV_rng hr 0 3)) hr hrl hm hR (by simp; omega), Nat.le_add_right _ _⟩
  | 59, _ => have hb' : (b.length : Int) + 1 ≤ 256 := hbl; exact ⟨good_push hb (D16.one (atV_rng hr 2 3)) hr hrl hm hR (by simp; omega), Nat.le_add_right _ _⟩
  | 60, _ => have hb' : (b.length : Int) + 0 ≤ 256 := hbl; exact ⟨⟨hb, hr, (show b.length ≤ 256 by omega), hrl, plotF_ok hm _ _ _, plotF_rng hR _ _ _⟩, (Nat.le_trans (plotF_tones _ _ _ _) (by omega))⟩
  | 61, _ => have hb' : (b.length : Int) + 1 ≤ 256 := hbl; exact ⟨good_push hb (D16.one (⟨hR.pad.1, by have := hR.pad.2; omega⟩)) hr hrl hm hR (by simp; omega), Nat.le_add_right _ _⟩
  | 62, _ => have hb' : (b.length : Int) + 0 ≤ 256 := hbl; exact ⟨⟨hb, hr, (show b.length ≤ 256 by omega), hrl, playF_ok hm _ _, playF_rng hR _ (byte_rng _)⟩, (playF_tones _ _ _)⟩
  | 63, _ => have hb' : (b.length : Int) + 0 ≤ 256 := hbl; exact ⟨⟨hb, hr, (show b.length ≤ 256 by omega), hrl, storeF_ok _ hm 65280 (x.getD 0 0 % 256), storeF_rng hR 65280 (byte_rng (x.getD 0 0))⟩, (Nat.le_trans (storeF_tones m 65280 (x.getD 0 0 % 256)) (by omega))⟩
  | k + 64, hk => exact absurd hk (by omega)
theorem doF_good (k : Nat) (hk : k < 64) {d : List Int} {r : List (Int × Int)} {m : MemS} (h : Good3 d r m) : Good3 (doF k d r m).1 (doF k d r m).2.1 (doF k d r m).2.2 ∧ (doF k d r m).2.2.tones.length ≤ m.tones.length + 3 := by
  by_cases hf : faultF k d r = 0
  · have e : doF k d r m = actF k (d.take (d.length - (takesN k).toNat)) (d.drop (d.length - (takesN k).toNat)) r m := by unfold doF; rw [if_neg (by simpa using hf)]
    rw [e]
    by_cases h1 : needF d.length (takesN k) (leavesN k) = 0
    · have hl := takes_len hk h1
      have h3 : ¬ 128 < (r.length : Int) + addsF k := by
        intro h3
        unfold faultF at hf
        rw [if_neg (by simpa using h1)] at hf
        by_cases h2 : looksF k r = 0
        · rw [if_neg (by simpa using h2), if_pos h3] at hf; exact absurd hf (by decide)
        · rw [if_pos h2] at hf; exact h2 hf
      exact act_good k hk _ _ r m (h.d16.take _) (h.d16.drop _) h.r16 h.mo h.mr hl.1 hl.2 h.rl (by omega)
    · unfold faultF at hf
      rw [if_pos h1] at hf; exact absurd hf h1
  · have e : doF k d r m = (d, r, m) := by unfold doF; rw [if_pos hf]
    rw [e]; exact ⟨h, by simp⟩
/-- Do, told by what it comes to. -/
theorem do_at (k : Nat) (hk : k < 64) (hpl : plainB k = true) {G : Nat → Nat} {i j q D R M : Nat} {d d' : List Int} {r r' : List (Int × Int)} {m m' : MemS} (o : Own3 i j q) (hg : Good3 d r m) (hn : m.tones.length ≤ 99999) {w : World} (ht : Tabs w G) (h : Trio w G i j q D R M d r m)
    (hf : faultF k d r = 0) (he : doF k d r m = (d', r', m')) :
    Calls Tryd.prog 21 #[.int .i64 k, .pointer (some ⟨D, 0, none⟩), .pointer (some ⟨R, 0, none⟩), .pointer (some ⟨M, 0, none⟩)] w (Left3 i j q D R M w G d' r' m' (.int .i64 0)) := by
  have h1 := do_any k hk hpl G i j q D R M d r m o hg hn w ht h
  rw [hf, he] at h1
  exact h1
end Go.Proofs.YtdnalhjdmlkbmaaDoor
namespace Go.Proofs.YtdnalhjdmlkbmaaDoor
open Go.RowKit

/-- A row that was made from nothing may be given to whomever. -/
theorem fresh_row {e size : Nat} {w w' : World} {Gx : Nat → Nat} {v : Value} {n : Nat} {xs : List Value} (ha : Adv (fun o => o = 9) w (fun _ => 0) w' Gx) (hr : Row e size w' Gx 9 v n xs) (G : Nat → Nat) (p : Nat) :
    Adv (fun _ => False) w G w' (newTo w G p) ∧ Row e size w' (newTo w G p) p v n xs := by
  refine ⟨ha.relabel (fun _ _ => by decide) (fun _ hb => newTo_old hb), hr.row, fun b hb => ?_⟩
  have h9 := hr.own b hb
  refine newTo_new ?_
  apply Nat.le_of_not_lt
  intro hlt
  rw [ha.own b hlt] at h9
  exact absurd h9 (by decide)
theorem tonesC_length (l : List (Int × Int × Int)) : (tonesC l).length = l.length * 3 := by
  induction l with
  | nil => rfl
  | cons a l ih => simp only [tonesC, List.flatMap_cons, List.length_append, List.length_cons, List.length_nil] at ih ⊢; omega
theorem tonesC_one (l : List (Int × Int × Int)) : ∀ u ∈ tonesC l, u.oneCell' = true := by
  intro u hu
  simp only [tonesC, List.mem_flatMap] at hu
  obtain ⟨t, _, ht⟩ := hu
  simp at ht
  rcases ht with rfl | rfl | rfl <;> rfl
/-- Tones in new memory. -/
def NewTones (w : World) (G : Nat → Nat) (p n : Nat) (l : List (Int × Int × Int)) (e : Ending) (w' : World) : Prop := ∃ ta' c' G', e = .returned (.slice ta' n c') ∧ Adv (fun _ => False) w G w' G' ∧ Row 68 3 w' G' p (.slice ta' n c') n (tonesC l)
set_option maxRecDepth 100000 in
set_option maxHeartbeats 400000 in
theorem clone_tones (G : Nat → Nat) (q p : Nat) (ta : Option Addr) (n c : Nat) (l : List (Int × Int × Int)) (hn : n ≤ 1000000) (w : World) (hl : l.length = n) (hr : Row 68 3 w G q (.slice ta n c) n (tonesC l)) :
    Calls Tryd.prog 66 #[.slice ta n c] w (NewTones w G p n l) := by
  obtain ⟨i0, hi, hz0, hz1, hz2⟩ := info_parts Tryd.info68
  have hE := fun (w : World) (a : Option Addr) (l c : Nat) => Lib.run_eql_slice_nil (P := Tryd.prog) w 65 68 a l c 0 0 Tryd.underlying65
  rcases hr.row.2 with ⟨e, e2⟩ | ⟨g, cap, cur, e, _⟩
  · cases e
    obtain rfl := List.eq_nil_of_length_eq_zero hl
    clear e2
    go_enter Tryd.func66, Tryd.ntmps66
    go_wp2
    go_ret
    exact ⟨none, 0, G, rfl, Adv.refl _ _ _, Row.nil _ _ _ _ _⟩
  · cases e
    have HX := Lib.hid (hr.reads.alloc (.cells #[] 68))
    have HA0 := Lib.hid ((Adv.refl (fun b => b = 9) w (fun _ => 0)).alloc (.cells #[] 68) 9)
    have HR0 := Lib.hid (Row.new w (fun _ => 0) 68 3 9 0 [] (Nat.zero_le _) rfl)
    have HL := Lib.hid hl
    clear hr hl
    go_enter Tryd.func66, Tryd.ntmps66
    go_wp2_with (at_builtin; refine wpList_append_reads rfl (.tmp 5) (.tmp 6) 65 rfl 68 i0 (.agg #[.int .i64 0, .int .u16 0, .int .u8 0]) 3 16 Tryd.underlying65 hi hz0 hz1 hz2 rfl (by decide) _ 9 (some ⟨w.heap.size, 0, none⟩) 0 0 [] rfl HR0.out (some ⟨g, 0, none⟩) n c (tonesC l) rfl (by rw [tonesC_length, HL.out]) HX.out (tonesC_one l) (by unfold maxLen; omega) (by omega) ?_; intro va1 vc1 w1 G1 h1 h2; rw [Nat.zero_add, List.nil_append] at h1; rw [Nat.zero_add]; have HR1 := Lib.hid h1; have HA1 := Lib.hid (HA0.out.trans h2); clear h1 h2)
    go_ret
    exact ⟨va1, vc1, _, rfl, fresh_row HA1.out HR1.out G p⟩
/-- Tones. -/
theorem tones_any (G : Nat → Nat) (q p M : Nat) (m : MemS) (hm : MemOk m) (hn : m.tones.length ≤ 1000000) (w : World) (hp : PM w G q M m) :
    Calls Tryd.prog 31 #[.pointer (some ⟨M, 0, none⟩)] w (NewTones w G p m.tones.length m.tones) := by
  obtain ⟨B, bs, tv, hp⟩ := hp
  obtain ⟨_, _, _, _, _, _, c6⟩ := hp.ports hm
  obtain ⟨ta, c, rfl, _⟩ := hp.tones.slice
  have HR := Lib.hid hp.tones
  clear hp
  go_enter Tryd.func31, Tryd.ntmps31
  go_wp2_with fail
  refine (clone_tones G q p ta _ c m.tones hn _ rfl HR.out).mono ?_
  rintro e w' ⟨ta', c', G', rfl, ha, hr⟩
  have H := Lib.hid (And.intro ha hr)
  clear ha hr
  go_wp2_with fail
  go_ret
  exact ⟨ta', c', G', rfl, H.out.1, H.out.2⟩
set_option maxHeartbeats 400000 in
theorem sameL_any (a b : Option Addr) (n c m d : Nat) (l k : List Int) (w : World) (hl : l.length = n) (hk : k.length = m) (hn : n ≤ 9223372036854775807) (hm : m ≤ 9223372036854775807) (ha : Reads w a (cellsU l)) (hb : Reads w b (cellsU k)) :
    Calls Tryd.prog 27 #[.slice a n c, .slice b m d] w fun e w' => e = .returned (.bool (decide (l = k))) ∧ ∃ q, w' = w.drewN q := by
  have HL := Lib.hid hl
  have HK := Lib.hid hk
  have HA := Lib.hid ha
  have HB := Lib.hid hb
  clear hl hk ha hb
  by_cases hnm : n = m
  · subst hnm
    go_enter Tryd.func27, Tryd.ntmps27
    go_wp2
    go_loopw [5] (fun s5 wr => ∃ j : Nat, j ≤ n ∧ s5 = .int .i64 j ∧ l.take j = k.take j ∧ ∃ q, wr = w.drewN q) (fun s5 _ => n - (intOf s5).toNat)
    case atStart => exact ⟨0, by omega, rfl, rfl, 0, rfl⟩
    case round =>
      obtain ⟨j, hj, rfl, htk, q, rfl⟩ := hrel
      have HT := Lib.hid htk
      clear htk
      by_cases hlt : j < n
      · obtain ⟨x, hx⟩ : ∃ x, l[j]? = some x := ⟨l[j]'(by rw [HL.out]; omega), by simp⟩
        obtain ⟨y, hy⟩ : ∃ y, k[j]? = some y := ⟨k[j]'(by rw [HK.out]; omega), by simp⟩
        obtain ⟨ab, ao, rfl, hx1, _⟩ := HA.out.atU j x hx
        obtain ⟨bb, bo, rfl, hy1, _⟩ := HB.out.atU j y hy
        have HX := Lib.hid hx
        have HY := Lib.hid hy
        have hj0 : (0 : Int) ≤ (j : Int) := Int.natCast_nonneg _
        have hj1 : (j : Int) < (n : Int) := by omega
        clear hx hy
        by_cases hxy : x = y
        · subst hxy
          go_wp2_with fail
          go_quiet (fail)
          go_wp2
          go_roundw
          case rel => exact ⟨j + 1, by omega, by go_num, take_ext HT.out HX.out HY.out rfl, _, rfl⟩
          case measure => simp [intOf]; omega
        · have hb : (x != y) = true := by simpa using hxy
          have hb2 : (x == y) = false := by simpa using hxy
          have hne : l ≠ k := by
            intro e
            have h1 := HX.out
            have h2 := HY.out
            rw [e, h2] at h1
            exact hxy (by simpa using h1.symm)
          have HNE := Lib.hid hne
          clear hne
          go_wp2_with fail
          go_quiet (fail)
          go_wp2
          go_ret
          exact ⟨by rw [decide_eq_false HNE.out]; rfl, q + nq, by simp⟩
      · have heq : l = k := by
          have h := HT.out
          rwa [List.take_of_length_le (by rw [HL.out]; omega), List.take_of_length_le (by rw [HK.out]; omega)] at h
        have HEQ := Lib.hid heq
        clear heq
        go_wp2
        go_ret
        exact ⟨by rw [decide_eq_true HEQ.out]; rfl, _, rfl⟩
  · have hne : l ≠ k := by
      intro e
      have h1 := HL.out
      rw [e, HK.out] at h1
      exact hnm h1.symm
    have HNE := Lib.hid hne
    have hb : ((n : Int) == (m : Int)) = false := by simp; omega
    have hb2 : ((n : Int) != (m : Int)) = true := by simp; omega
    clear hne
    go_enter Tryd.func27, Tryd.ntmps27
    go_wp2
    go_ret
    exact ⟨by rw [decide_eq_false HNE.out]; rfl, 0, rfl⟩

end Go.Proofs.YtdnalhjdmlkbmaaDoor
namespace Go.Proofs.YtdnalhjdmlkbmaaDoor
open Go.RowKit

theorem wf_u16_of {n : Int} (h : (Lit.int .u16 n).wf = true) : 0 ≤ n ∧ n < 65536 := by
  simp [Lit.wf, IntKind.min, IntKind.max, IntKind.signed, IntKind.bits] at h
  omega
theorem wf_u8_of {n : Int} (h : (Lit.int .u8 n).wf = true) : 0 ≤ n ∧ n < 256 := by
  simp [Lit.wf, IntKind.min, IntKind.max, IntKind.signed, IntKind.bits] at h
  omega
theorem own123 : Own3 1 2 3 := ⟨by decide, by decide, by decide, by decide, by decide, by decide⟩
theorem B8.replicate (n : Nat) : B8 (List.replicate n 0) := fun x hx => by rw [List.eq_of_mem_replicate hx]; decide
theorem B8.append {l m : List Int} (h : B8 l) (k : B8 m) : B8 (l ++ m) := fun x hx => by
  rcases List.mem_append.1 hx with h1 | h1
  · exact h x h1
  · exact k x h1
theorem newM_rng (l : List (Int × List Int)) (h : ∀ p ∈ l, B8 p.2) : MemR (newM l) := by
  refine ⟨fun p hp => ?_, B8.replicate _, B8.replicate _, (show (0 : Int) ≤ 0 ∧ (0 : Int) < 16 from by decide), (show (0 : Int) ≤ 0 ∧ (0 : Int) < 256 from by decide), (show (0 : Int) ≤ 0 ∧ (0 : Int) < 256 from by decide), (show (0 : Int) ≤ 0 ∧ (0 : Int) < 65536 from by decide), (show (0 : Int) ≤ 0 ∧ (0 : Int) < 65536 from by decide)⟩
  have hp' : p ∈ l.map fun p => (p.1, p.2 ++ List.replicate (16384 - p.2.length) 0) := hp
  simp only [List.mem_map] at hp'
  obtain ⟨q, hq, rfl⟩ := hp'
  exact (h q hq).append (B8.replicate _)
theorem banks2_ok : MemOk (newM banks2) := newM_ok _ (by decide)
theorem banks2_rng : MemR (newM banks2) := newM_rng _ (by intro p hp; simp [banks2] at hp; rcases hp with rfl | rfl <;> (intro x hx; simp at hx; omega))
/-- The law's world: block K holds the pointers; all is well. -/
structure W6 (w : World) (G : Nat → Nat) (K D R M : Nat) (d : List Int) (r : List (Int × Int)) (m : MemS) : Prop where
  wl : Wld w G K D R M
  tr : Trio w G 1 2 3 D R M d r m
  tb : Tabs w G
  gd : Good3 d r m
section
variable {w w' : World} {G G' : Nat → Nat} {K D R M : Nat} {d d' : List Int} {r r' : List (Int × Int)} {m m' : MemS}
theorem W6.cells (h : W6 w G K D R M d r m) : w.cell? ⟨K, 0, none⟩ = some (.pointer (some ⟨D, 0, none⟩)) ∧ w.cell? ⟨K, 1, none⟩ = some (.pointer (some ⟨R, 0, none⟩)) ∧ w.cell? ⟨K, 2, none⟩ = some (.pointer (some ⟨M, 0, none⟩)) := by
  obtain ⟨x, y, z, h1, _⟩ := h.wl
  exact ⟨block_cell h1 0 _ rfl, block_cell h1 1 _ rfl, block_cell h1 2 _ rfl⟩
theorem W6.still (h : W6 w G K D R M d r m) (ha : Adv (fun _ => False) w G w' G') : W6 w' G' K D R M d r m := by
  obtain ⟨x, y, z, h1, h2⟩ := h.wl
  have hl : K < w.heap.size := (Array.getElem?_eq_some_iff.1 h1).1
  exact ⟨⟨x, y, z, (ha.keep K hl id).trans h1, (ha.own K hl).trans h2⟩, h.tr.still ha, h.tb.adv ha id, h.gd⟩
theorem W6.drew (h : W6 w G K D R M d r m) : W6 w.drew G K D R M d r m := h.still (Adv.refl _ w G).drew
theorem W6.alloc (h : W6 w G K D R M d r m) (o : Obj) (k : Nat) : W6 (w.alloc o) (own1 w G k) K D R M d r m := h.still ((Adv.refl _ w G).alloc o k)
theorem W6.next (h : W6 w G K D R M d r m) (ha : Adv (S3 1 2 3) w G w' G') (ht : Trio w' G' 1 2 3 D R M d' r' m') (hg : Good3 d' r' m') : W6 w' G' K D R M d' r' m' := by
  obtain ⟨x, y, z, h1, h2⟩ := h.wl
  have hl : K < w.heap.size := (Array.getElem?_eq_some_iff.1 h1).1
  exact ⟨⟨x, y, z, (ha.keep K hl (by rw [h2]; exact own123.zero)).trans h1, (ha.own K hl).trans h2⟩, ht, h.tb.adv ha own123.zero, hg⟩
/-- What a call leaves of the law's world. -/
def Left6 (K D R M : Nat) (w : World) (G : Nat → Nat) (d : List Int) (r : List (Int × Int)) (m : MemS) (v : Value) (e : Ending) (w' : World) : Prop :=
  e = .returned v ∧ ∃ G', Adv (S3 1 2 3) w G w' G' ∧ W6 w' G' K D R M d r m
theorem W6.left (h : W6 w G K D R M d r m) (hg : Good3 d' r' m') {v : Value} {e : Ending} (hl : Left3 1 2 3 D R M w G d' r' m' v e w') : Left6 K D R M w G d' r' m' v e w' := by
  obtain ⟨h1, G', h2, h3⟩ := hl
  exact ⟨h1, G', h2, h.next h2 h3 hg⟩
theorem W6.do (k : Nat) (hk : k < 64) (hpl : plainB k = true) (h : W6 w G K D R M d r m) (hn : m.tones.length ≤ 99999) (hf : faultF k d r = 0) (he : doF k d r m = (d', r', m')) :
    Calls Tryd.prog 21 #[.int .i64 k, .pointer (some ⟨D, 0, none⟩), .pointer (some ⟨R, 0, none⟩), .pointer (some ⟨M, 0, none⟩)] w (Left6 K D R M w G d' r' m' (.int .i64 0)) := by
  refine (do_at k hk hpl own123 h.gd hn h.tb h.tr hf he).mono fun e w' hl => h.left ?_ hl
  have hg := (doF_good k hk h.gd).1
  rw [he] at hg
  exact hg
theorem W6.push (l : List Int) (h : W6 w G K D R M d r m) (hl : D16 l) (n : Nat) (hn : l.length = n) (hroom : d.length + n ≤ 256) :
    Calls Tryd.prog 30 #[.pointer (some ⟨D, 0, none⟩), .slice (some ⟨w.heap.size, 0, none⟩) n n] (w.alloc (.cells (cellsU l).toArray 41)) (Left6 K D R M (w.alloc (.cells (cellsU l).toArray 41)) (own1 w G 0) (d ++ l) r m (.int .i64 0)) := by
  have h1 := h.alloc (.cells (cellsU l).toArray 41) 0
  exact (h1.tr.push own123 (some ⟨w.heap.size, 0, none⟩) n n hn hroom (Reads.new w (cellsU l) 41)).mono fun e w' k => h1.left ⟨h.gd.d16.append hl, h.gd.r16, by rw [List.length_append]; omega, h.gd.rl, h.gd.mo, h.gd.mr⟩ k
theorem W6.pop {x : Int} (h : W6 w G K D R M (d ++ [x]) r m) : Calls Tryd.prog 24 #[.pointer (some ⟨D, 0, none⟩)] w (Left6 K D R M w G d r m (.int .u16 x)) :=
  (h.tr.pop own123).mono fun e w' k => h.left ⟨h.gd.d16.left, h.gd.r16, by have := h.gd.dl; rw [List.length_append] at this; omega, h.gd.rl, h.gd.mo, h.gd.mr⟩ k
/-- Cells of the data stack in new memory. -/
def NewCells (w : World) (G : Nat → Nat) (l : List Int) (e : Ending) (w' : World) : Prop := ∃ b c G', e = .returned (.slice b l.length c) ∧ Adv (fun _ => False) w G w' G' ∧ Reads w' b (cellsU l) ∧ (∀ ad, b = some ad → G' ad.block = 0 ∧ ad.block < w'.heap.size ∧ w.heap.size ≤ ad.block)
theorem newCells (G : Nat → Nat) (i D : Nat) (l : List Int) (w : World) (hp : PU w G i D l) (h1 : l.length ≤ 256) : Calls Tryd.prog 26 #[.pointer (some ⟨D, 0, none⟩)] w (NewCells w G l) := by
  by_cases h0 : l = []
  · subst h0
    refine (cellsPU_nil G i D w hp).mono fun e w' k => ?_
    obtain ⟨k1, rfl⟩ := k
    exact ⟨none, 0, G, k1, Adv.refl _ _ _, .inl rfl, fun ad h => by cases h⟩
  · refine (cellsPU G i D l w hp h0 (by omega)).mono fun e w' k => ?_
    obtain ⟨k1, rfl⟩ := k
    exact ⟨_, _, own1 w G 0, k1, (Adv.refl _ w G).alloc _ 0, Reads.new w (cellsU l) 41, fun ad h => by cases h; exact ⟨own1_new _ _ _, by simp, Nat.le_refl _⟩⟩
end
theorem born6 (G : Nat → Nat) (xa : Option Addr) (n c : Nat) (l : List Int) (w : World) (hl : l.length = n) (hm : n ≤ 256) (hr : Reads w xa (cellsU l)) (hcap : n ≤ c) (hc2 : c ≤ 100000000000000) (hd : D16 l) (ht : Tabs w G) :
    Calls Tryd.prog 20 #[.slice xa n c, .slice none 0 0] w fun e w' => ∃ K D R M G', e = .returned (.pointer (some ⟨K, 0, none⟩)) ∧ Adv (fun _ => False) w G w' G' ∧ W6 w' G' K D R M l [] (newM banks2) :=
  (born0 G xa n c l w hl hm hr hcap hc2).mono fun e w' k => by
    obtain ⟨K, D, R, M, G', k1, k2, k3, k4, k5, k6⟩ := k
    exact ⟨K, D, R, M, G', k1, k2, k3, ⟨k4, k5, k6⟩, ht.adv k2 id, ⟨hd, (fun x hx => by cases hx), by omega, by simp, banks2_ok, banks2_rng⟩⟩
/-- What pushed answers. -/
def PushedIs (w : World) (G : Nat → Nat) (l : List Int) (e : Ending) (w' : World) : Prop := ∃ b c G', e = .returned (.tuple #[.slice b l.length c, .bool true]) ∧ Adv (fun _ => False) w G w' G' ∧ Reads w' b (cellsU l) ∧ (∀ ad, b = some ad → G' ad.block = 0 ∧ ad.block < w'.heap.size)
set_option maxRecDepth 100000 in
set_option maxHeartbeats 1000000 in
theorem pushed_any (G : Nat → Nat) (k : Nat) (hk : k < 64) (hpl : plainB k = true) (xa : Option Addr) (n c : Nat) (l l' : List Int) (r' : List (Int × Int)) (m' : MemS) (w : World) (hl : l.length = n) (hm : n ≤ 256) (hr : Reads w xa (cellsU l)) (hcap : n ≤ c) (hc2 : c ≤ 100000000000000) (hd : D16 l) (ht : Tabs w G)
    (hf : faultF k l [] = 0) (he : doF k l [] (newM banks2) = (l', r', m')) :
    Calls Tryd.prog 29 #[.int .i64 k, .slice xa n c] w (PushedIs w G l') := by
  have HT := Lib.hid (ht.relabel (H := fun _ => 0) fun _ _ _ => rfl)
  have HL := Lib.hid hl
  have HR := Lib.hid hr
  have HF := Lib.hid hf
  have HE := Lib.hid he
  clear ht hl hr hf he
  go_enter Tryd.func29, Tryd.ntmps29
  go_wp2_with fail
  refine (born6 (fun _ => 0) xa n c l _ HL.out hm HR.out hcap hc2 hd HT.out).mono ?_
  rintro e w1 ⟨K, D, R, M, G1, rfl, a1, h1⟩
  have A1 := Lib.hid (a1.mono (T := S3 1 2 3) fun _ h => h.elim)
  have H1 := Lib.hid h1
  have HD := Lib.hid h1.drew
  obtain ⟨cD, cR, cM⟩ := h1.cells
  clear a1 h1
  go_upto_region 4 with fail
  go_region_held3 (fun w' => w'.cell? ⟨K, 0, none⟩ = some (.pointer (some ⟨D, 0, none⟩)) ∧ w'.cell? ⟨K, 1, none⟩ = some (.pointer (some ⟨R, 0, none⟩)) ∧ w'.cell? ⟨K, 2, none⟩ = some (.pointer (some ⟨M, 0, none⟩))) (first | exact ⟨cD, cR, cM⟩ | exact Q2.out)
    ((go_at_call 21; refine (HD.out.do k hk hpl (by exact Nat.zero_le _) HF.out HE.out).mono ?_; rintro e w2 ⟨rfl, G2, a2, h2⟩; have A2 := Lib.hid (A1.out.drew.trans a2); have Q2 := Lib.hid h2.cells; have H2 := Lib.hid h2; clear a2 h2))
  clear cD cR cM
  obtain ⟨cD, cR, cM⟩ := Q2.out
  go_wp2_with fail
  refine (newCells G2 1 D l' _ H2.out.tr.pu H2.out.gd.dl).mono ?_
  rintro e w3 ⟨b, c3, G3, rfl, a3, r3, o3⟩
  have H3 := Lib.hid (And.intro (A2.out.trans (a3.mono fun _ h => h.elim)) (And.intro r3 o3))
  clear a3 r3 o3
  go_wp2_with fail
  go_ret2
  obtain ⟨a3, r3, o3⟩ := H3.out
  refine ⟨b, c3, newTo w G 0, rfl, a3.relabel (fun _ _ => own123.zero) (fun _ hb => newTo_old hb), r3, fun ad h => ⟨newTo_new ?_, (o3 ad h).2.1⟩⟩
  exact Nat.le_trans A2.out.size (o3 ad h).2.2
end Go.Proofs.YtdnalhjdmlkbmaaDoor
namespace Go.Proofs.YtdnalhjdmlkbmaaDoor
open Go.RowKit

theorem bits_hi (p : Nat) (h : p < 65536) : bits BinOp.and .u16 (p : Int) 65280 = ((p / 256 * 256 : Nat) : Int) := by
  show IntKind.wrap .u16 ((BitVec.ofInt 16 (p : Int) &&& BitVec.ofInt 16 ((65280 : Nat) : Int)).toNat : Nat) = _
  rw [BitVec.toNat_and, ofInt16 _ h, ofInt16 65280 (by omega)]
  have e : p &&& 65280 = p / 256 * 256 := by
    apply Nat.eq_of_testBit_eq
    intro j
    rw [Nat.testBit_and, show (65280 : Nat) = (2 ^ 8 - 1) * 2 ^ 8 from rfl, show (256 : Nat) = 2 ^ 8 from rfl, Nat.testBit_mul_two_pow, Nat.testBit_mul_two_pow, Nat.testBit_two_pow_sub_one, Nat.testBit_div_two_pow]
    by_cases h8 : 8 ≤ j
    · by_cases h16 : j < 16
      · simp [h8, show j - 8 < 8 from by omega]
      · have hz : p.testBit j = false := Nat.testBit_lt_two_pow (Nat.lt_of_lt_of_le h (Nat.pow_le_pow_right (n := 2) (by decide) (show 16 ≤ j by omega)))
        simp [show j - 8 + 8 = j from by omega, h8, hz]
    · simp [h8]
  rw [e]
  exact wrap_u16_id _ (by omega) (by omega)
theorem bits_lo (p : Nat) (h : p < 65536) : bits BinOp.and .u16 (p : Int) 255 = ((p % 256 : Nat) : Int) := by
  show IntKind.wrap .u16 ((BitVec.ofInt 16 (p : Int) &&& BitVec.ofInt 16 ((255 : Nat) : Int)).toNat : Nat) = _
  rw [BitVec.toNat_and, ofInt16 _ h, ofInt16 255 (by omega), show (255 : Nat) = 2 ^ 8 - 1 from rfl, Nat.and_two_pow_sub_one_eq_mod]
  exact wrap_u16_id _ (by omega) (by omega)
theorem bits_or_comm (x y : Int) : bits BinOp.or .u16 x y = bits BinOp.or .u16 y x := by
  show IntKind.wrap .u16 ((BitVec.ofInt 16 x ||| BitVec.ofInt 16 y).toNat : Nat) = IntKind.wrap .u16 ((BitVec.ofInt 16 y ||| BitVec.ofInt 16 x).toNat : Nat)
  rw [BitVec.or_comm]
/-- The low byte of the pitch, the high one. -/
theorem pitch_lo (p x : Int) (p0 : 0 ≤ p) (p1 : p < 65536) (x0 : 0 ≤ x) (x1 : x < 256) : bits BinOp.or .u16 (bits BinOp.and .u16 p 65280) (IntKind.wrap .u16 x) = p / 256 * 256 + x := by
  obtain ⟨n, rfl⟩ : ∃ n : Nat, p = n := ⟨p.toNat, by omega⟩
  obtain ⟨k, rfl⟩ : ∃ k : Nat, x = k := ⟨x.toNat, by omega⟩
  rw [bits_hi n (by omega), wrap_u16_id _ (by omega) (by omega), bits_or_comm, show ((n / 256 * 256 : Nat) : Int) = ((n / 256 : Nat) : Int) * 256 from by omega, bits_or_nat k (n / 256) (by omega) (by omega)]
  omega
theorem pitch_hi (p x : Int) (p0 : 0 ≤ p) (p1 : p < 65536) (x0 : 0 ≤ x) (x1 : x < 256) : bits BinOp.or .u16 (bits BinOp.and .u16 p 255) (IntKind.wrap .u16 (IntKind.wrap .u16 x * 256)) = x * 256 + p % 256 := by
  obtain ⟨n, rfl⟩ : ∃ n : Nat, p = n := ⟨p.toNat, by omega⟩
  obtain ⟨k, rfl⟩ : ∃ k : Nat, x = k := ⟨x.toNat, by omega⟩
  rw [bits_lo n (by omega), wrap_u16_id (k : Int) (by omega) (by omega), wrap_u16_id _ (by omega) (by omega), bits_or_nat (n % 256) k (by omega) (by omega)]
  omega
theorem nextA_eq (a : Int) (h0 : 0 ≤ a) (h : a < 65535) : nextA a = a + 1 := by unfold nextA; exact wrap_u16_id _ (by omega) (by omega)
theorem store_ram_eq (m : MemS) (k : Nat) (h : k < 16384) (x : Int) : storeF m (32768 + (k : Int)) x = { m with ram := m.ram.set k x } := by
  unfold storeF
  rw [if_neg (by omega), if_neg (by omega), if_pos (by omega), show (32768 + (k : Int) - 32768).toNat = k from by omega]
theorem load_ram_eq (m : MemS) (k : Nat) (h : k < 16384) : loadF m (32768 + (k : Int)) = m.ram.getD k 0 := by
  unfold loadF
  rw [if_neg (by omega), if_neg (by omega), if_pos (by omega), show (32768 + (k : Int) - 32768).toNat = k from by omega]
/-- What is stored as a cell is read again. -/
theorem cell_set (m : MemS) (hm : MemOk m) (a v : Int) (a0 : 32768 ≤ a) (a1 : a < 49151) (v0 : 0 ≤ v) (v1 : v < 65536) : cellF (setCellF m a v) a = v ∧ (setCellF m a v).tones = m.tones ∧ (setCellF m a v).cycle = m.cycle ∧ (setCellF m a v).pitch = m.pitch := by
  obtain ⟨k, rfl⟩ : ∃ k : Nat, a = 32768 + (k : Int) := ⟨(a - 32768).toNat, by omega⟩
  have hk : k + 1 < 16384 := by omega
  have hl := hm.ram
  have e : setCellF m (32768 + (k : Int)) v = { m with ram := (m.ram.set k (v % 256)).set (k + 1) (v / 256 % 256) } := by
    unfold setCellF
    rw [nextA_eq _ (by omega) (by omega), store_ram_eq m k (by omega), show (32768 + (k : Int) + 1) = 32768 + ((k + 1 : Nat) : Int) from by omega, store_ram_eq _ (k + 1) (by omega)]
  rw [e]
  refine ⟨?_, rfl, rfl, rfl⟩
  rw [cellF_pair, nextA_eq _ (by omega) (by omega), load_ram_eq _ k (by omega), show (32768 + (k : Int) + 1) = 32768 + ((k + 1 : Nat) : Int) from by omega, load_ram_eq _ (k + 1) (by omega)]
  have g1 : ((m.ram.set k (v % 256)).set (k + 1) (v / 256 % 256)).getD k 0 = v % 256 := by
    rw [List.getD_eq_getElem?_getD, List.getElem?_set_ne (by omega), List.getElem?_set_self (by omega)]; rfl
  have g2 : ((m.ram.set k (v % 256)).set (k + 1) (v / 256 % 256)).getD (k + 1) 0 = v / 256 % 256 := by
    rw [List.getD_eq_getElem?_getD, List.getElem?_set_self (by simp; omega)]; rfl
  show pairF (((m.ram.set k (v % 256)).set (k + 1) (v / 256 % 256)).getD k 0) (((m.ram.set k (v % 256)).set (k + 1) (v / 256 % 256)).getD (k + 1) 0) = v
  rw [g1, g2, pairF_eq _ _ (by omega) (by omega) (by omega) (by omega)]
  omega
/-- A pixel is plotted where it is read. -/
theorem plot_read (m : MemS) (hm : MemOk m) (x y c : Int) (x0 : 0 ≤ x) (x1 : x < 64) (y0 : 0 ≤ y) (y1 : y < 48) : loadF (plotF m x y c) (49152 + 64 * y + x) = c % 256 ∧ (plotF m x y c).tones = m.tones ∧ (plotF m x y c).cycle = m.cycle ∧ (plotF m x y c).pitch = m.pitch := by
  obtain ⟨k, hk⟩ : ∃ k : Nat, 64 * y + x = k := ⟨(64 * y + x).toNat, by omega⟩
  have hk2 : k < 3072 := by omega
  have ea : 49152 + 64 * y + x = 49152 + (k : Int) := by omega
  have hl := hm.screen
  have e : plotF m x y c = { m with screen := m.screen.set k (c % 256) } := by
    unfold plotF
    rw [if_pos ⟨x1, y1⟩, ea]
    unfold storeF
    rw [if_neg (by omega), if_neg (by omega), if_neg (by omega), if_pos (by omega), show (49152 + (k : Int) - 49152).toNat = k from by omega]
  rw [e]
  refine ⟨?_, rfl, rfl, rfl⟩
  rw [ea]
  unfold loadF
  rw [if_neg (by omega), if_neg (by omega), if_neg (by omega), if_pos (by omega), show (49152 + (k : Int) - 49152).toNat = k from by omega]
  show (m.screen.set k (c % 256)).getD k 0 = c % 256
  rw [List.getD_eq_getElem?_getD, List.getElem?_set_self (by omega)]; rfl
/-- A tone is heard as it was played. -/
theorem play_tones (m : MemS) (hm : MemR m) (p v : Int) (p0 : 0 ≤ p) (p1 : p < 65536) : (playF m p v).tones = m.tones ++ [(m.cycle, p, v)] := by
  unfold playF
  rw [nextA_eq _ (by decide) (by decide)]
  have e1 : storeF m 65284 (p % 256) = { m with pitch := m.pitch / 256 * 256 + p % 256 } := by
    rw [← pitch_lo m.pitch (p % 256) hm.pitch.1 hm.pitch.2 (by omega) (by omega)]; rfl
  have hq := hm.pitch
  have e2 : storeF { m with pitch := m.pitch / 256 * 256 + p % 256 } (65284 + 1) (p / 256 % 256) = { m with pitch := p } := by
    have h := pitch_hi (m.pitch / 256 * 256 + p % 256) (p / 256 % 256) (by omega) (by omega) (by omega) (by omega)
    have h2 : p / 256 % 256 * 256 + (m.pitch / 256 * 256 + p % 256) % 256 = p := by omega
    rw [h2] at h
    show ({ m with pitch := bits BinOp.or .u16 (bits BinOp.and .u16 (m.pitch / 256 * 256 + p % 256) 255) (IntKind.wrap .u16 (IntKind.wrap .u16 (p / 256 % 256) * 256)) } : MemS) = _
    rw [h]
  rw [e1, e2]; rfl
end Go.Proofs.YtdnalhjdmlkbmaaDoor
namespace Go.Proofs.YtdnalhjdmlkbmaaDoor
open Go.RowKit

def rotd (x y z : Int) (k : Nat) : List Int :=
  match k with
  | 0 => [x, y, z]
  | 1 => [y, z, x]
  | 2 => [z, x, y]
  | _ => [x, y, z]
theorem rot_step (x y z : Int) (m : MemS) (k : Nat) (h : k < 3) : faultF 16 (rotd x y z k) [] = 0 ∧ doF 16 (rotd x y z k) [] m = (rotd x y z (k + 1), [], m) := by
  match k, h with
  | 0, _ => exact ⟨rfl, rfl⟩
  | 1, _ => exact ⟨rfl, rfl⟩
  | 2, _ => exact ⟨rfl, rfl⟩
theorem Tryd.stood68 : Tryd.prog.stoodInHeld 68 = false := by kernel_rfl
theorem eqlTone (a b c a' b' c' : Int) (w : World) : (Op.equalIn 10000 68 (.agg #[.int .i64 a, .int .u16 b, .int .u8 c]) (.agg #[.int .i64 a', .int .u16 b', .int .u8 c'])).run Tryd.prog w = .ok (a == a' && (b == b' && c == c')) w := by
  have ht : Tryd.prog.underlying 68 = some (.struct (Tryd.prog.fieldsOf 68)) := by simp only [Program.fieldsOf, Tryd.underlying68]
  rw [show (10000 : Nat) = 9998 + 1 + 1 from rfl, run_equalIn_struct w (9998 + 1) 68 _ _ ht Tryd.stood68]
  simp only [Program.fieldsOf, Tryd.underlying68]
  cases e1 : a == a' with
  | false => simp [Op.eqFields, go_sem, e1]
  | true =>
    cases e2 : b == b' with
    | false => simp [Op.eqFields, go_sem, e1, e2]
    | true => by_cases e3 : c = c' <;> simp [Op.eqFields, go_sem, e1, e2, e3]

set_option maxRecDepth 100000 in
set_option maxHeartbeats 4000000 in
theorem back_any (G : Nat → Nat) (x y z a : Int) (x0 : 0 ≤ x) (x1 : x < 65536) (y0 : 0 ≤ y) (y1 : y < 65536) (z0 : 0 ≤ z) (z1 : z < 65536) (t0 : 0 ≤ a) (t1 : a < 65536) (w : World) (ht : Tabs w (fun _ => 0)) :
    Calls Tryd.prog 6 #[.int .u16 x, .int .u16 y, .int .u16 z, .int .u16 a] w fun e w' => e = .returned (.bool true) ∧ ∃ G', Adv (fun _ => False) w G w' G' := by
  have HT0 := Lib.hid ht
  have d3 : D16 [x, y, z] := (D16.one ⟨x0, x1⟩).append ((D16.one ⟨y0, y1⟩).append (D16.one ⟨z0, z1⟩))
  have D3 := Lib.hid d3
  obtain ⟨m0, hm0⟩ : ∃ m, m = newM banks2 := ⟨_, rfl⟩
  have hz0 : m0.tones = [] ∧ m0.cycle = 0 := by rw [hm0]; exact ⟨rfl, rfl⟩
  have Z0 := Lib.hid hz0
  have M0 := Lib.hid hm0
  clear ht d3 hm0 hz0
  have HX := Lib.hid (Reads.new w (cellsU [x, y, z]) 41)
  have HAx := Lib.hid ((Adv.refl (fun _ => False) w (fun _ => 0)).alloc (.cells (cellsU [x, y, z]).toArray 41) 0)
  go_enter Tryd.func6, Tryd.ntmps6
  go_wp2_with fail
  refine (born6 (own1 w (fun _ => 0) 0) _ 3 3 [x, y, z] _ rfl (by decide) HX.out (by decide) (by decide) D3.out (HT0.out.adv HAx.out id)).mono ?_
  rintro e wb ⟨K, D, R, M, Gb, rfl, ab, hb⟩
  rw [← M0.out] at hb
  have AB := Lib.hid ((HAx.out.trans ab).mono (T := S3 1 2 3) fun _ h => h.elim)
  have HB := Lib.hid hb
  have HTB := Lib.hid (hb.tb.relabel (H := fun _ => 0) fun _ _ _ => rfl)
  clear ab hb
  go_wp2_with fail
  refine (fixed_any Gb _ HTB.out).mono ?_
  rintro e w0 ⟨rfl, G0, a0⟩
  have A0 := Lib.hid (AB.out.trans (a0.mono fun _ h => h.elim))
  have H0 := Lib.hid (HB.out.still a0)
  clear a0
  go_wp2_with fail
  go_loopw [10] (fun v wr => ∃ k : Nat, k ≤ 3 ∧ v = .int .i64 k ∧ ∃ Gr, Adv (S3 1 2 3) w (fun _ => 0) wr Gr ∧ W6 wr Gr K D R M (rotd x y z k) [] m0) (fun v _ => 3 - (intOf v).toNat)
  case atStart => exact ⟨0, by omega, rfl, G0, A0.out, H0.out⟩
  case round =>
    obtain ⟨k, hk, rfl, Gr, ar, hr⟩ := hrel
    by_cases hlt : k < 3
    · have RS := Lib.hid (rot_step x y z m0 k hlt)
      have HR := Lib.hid hr
      have HD := Lib.hid hr.drew
      have AR := Lib.hid ar
      obtain ⟨cD, cR, cM⟩ := hr.cells
      clear ar hr
      go_upto_region 7 with fail
      go_region_held3 (fun w' => w'.cell? ⟨K, 0, none⟩ = some (.pointer (some ⟨D, 0, none⟩)) ∧ w'.cell? ⟨K, 1, none⟩ = some (.pointer (some ⟨R, 0, none⟩)) ∧ w'.cell? ⟨K, 2, none⟩ = some (.pointer (some ⟨M, 0, none⟩))) (first | exact ⟨cD, cR, cM⟩ | exact Q1.out)
        ((go_at_call 21; refine (HD.out.do 16 (by decide) (by decide) (by rw [Z0.out.1]; exact Nat.zero_le _) RS.out.1 RS.out.2).mono ?_; rintro e w1 ⟨rfl, G1, a1, h1⟩; have A1 := Lib.hid (AR.out.drew.trans a1); have Q1 := Lib.hid h1.cells; have H1 := Lib.hid h1; clear a1 h1))
      clear cD cR cM
      go_wp2
      go_roundw
      case rel => exact ⟨k + 1, by omega, by go_num, G1, A1.out, H1.out⟩
      case measure => simp [intOf]; omega
    · obtain rfl : k = 3 := by omega
      have A0 := Lib.hid ar
      have H0 := Lib.hid (show W6 wr Gr K D R M [x, y, z] [] m0 from hr)
      clear ar hr hk hlt
      have HD1 := Lib.hid H0.out.drew
      obtain ⟨cD, cR, cM⟩ := H0.out.cells
      go_upto_region 10 with fail
      go_region_held3 (fun w' => w'.cell? ⟨K, 0, none⟩ = some (.pointer (some ⟨D, 0, none⟩)) ∧ w'.cell? ⟨K, 1, none⟩ = some (.pointer (some ⟨R, 0, none⟩)) ∧ w'.cell? ⟨K, 2, none⟩ = some (.pointer (some ⟨M, 0, none⟩))) (first | exact ⟨cD, cR, cM⟩ | exact Q1.out)
        ((go_at_call 21; refine (HD1.out.do 55 (by decide) (by decide) (by rw [Z0.out.1]; exact Nat.zero_le _) rfl (d' := [x, y]) (r' := [(4, z)]) (m' := m0) rfl).mono ?_; rintro e w1 ⟨rfl, G1, a1, h1⟩; have A1 := Lib.hid (A0.out.drew.trans a1); have Q1 := Lib.hid h1.cells; have H1 := Lib.hid h1; clear a1 h1))
      clear cD cR cM
      have HD2 := Lib.hid H1.out.drew
      obtain ⟨cD, cR, cM⟩ := H1.out.cells
      go_upto_region 11 with fail
      go_region_held3 (fun w' => w'.cell? ⟨K, 0, none⟩ = some (.pointer (some ⟨D, 0, none⟩)) ∧ w'.cell? ⟨K, 1, none⟩ = some (.pointer (some ⟨R, 0, none⟩)) ∧ w'.cell? ⟨K, 2, none⟩ = some (.pointer (some ⟨M, 0, none⟩))) (first | exact ⟨cD, cR, cM⟩ | exact Q2.out)
        ((go_at_call 21; refine (HD2.out.do 14 (by decide) (by decide) (by rw [Z0.out.1]; exact Nat.zero_le _) rfl (d' := [y, x]) (r' := [(4, z)]) (m' := m0) rfl).mono ?_; rintro e w2 ⟨rfl, G2, a2, h2⟩; have A2 := Lib.hid (A1.out.drew.trans a2); have Q2 := Lib.hid h2.cells; have H2 := Lib.hid h2; clear a2 h2))
      clear cD cR cM
      have HD3 := Lib.hid H2.out.drew
      obtain ⟨cD, cR, cM⟩ := H2.out.cells
      go_upto_region 12 with fail
      go_region_held3 (fun w' => w'.cell? ⟨K, 0, none⟩ = some (.pointer (some ⟨D, 0, none⟩)) ∧ w'.cell? ⟨K, 1, none⟩ = some (.pointer (some ⟨R, 0, none⟩)) ∧ w'.cell? ⟨K, 2, none⟩ = some (.pointer (some ⟨M, 0, none⟩))) (first | exact ⟨cD, cR, cM⟩ | exact Q3.out)
        ((go_at_call 21; refine (HD3.out.do 14 (by decide) (by decide) (by rw [Z0.out.1]; exact Nat.zero_le _) rfl (d' := [x, y]) (r' := [(4, z)]) (m' := m0) rfl).mono ?_; rintro e w3 ⟨rfl, G3, a3, h3⟩; have A3 := Lib.hid (A2.out.drew.trans a3); have Q3 := Lib.hid h3.cells; have H3 := Lib.hid h3; clear a3 h3))
      clear cD cR cM
      have HD4 := Lib.hid H3.out.drew
      obtain ⟨cD, cR, cM⟩ := H3.out.cells
      go_upto_region 13 with fail
      go_region_held3 (fun w' => w'.cell? ⟨K, 0, none⟩ = some (.pointer (some ⟨D, 0, none⟩)) ∧ w'.cell? ⟨K, 1, none⟩ = some (.pointer (some ⟨R, 0, none⟩)) ∧ w'.cell? ⟨K, 2, none⟩ = some (.pointer (some ⟨M, 0, none⟩))) (first | exact ⟨cD, cR, cM⟩ | exact Q4.out)
        ((go_at_call 21; refine (HD4.out.do 56 (by decide) (by decide) (by rw [Z0.out.1]; exact Nat.zero_le _) rfl (d' := [x, y, z]) (r' := []) (m' := m0) rfl).mono ?_; rintro e w4 ⟨rfl, G4, a4, h4⟩; have A4 := Lib.hid (A3.out.drew.trans a4); have Q4 := Lib.hid h4.cells; have H4 := Lib.hid h4; clear a4 h4))
      clear cD cR cM
      obtain ⟨cD, cR, cM⟩ := H4.out.cells
      go_wp2_with fail
      refine (newCells G4 1 D [x, y, z] _ H4.out.tr.pu (by simp)).mono ?_
      rintro e w5 ⟨b5, c5, G5, rfl, a5, r5, o5⟩
      have A5 := Lib.hid (A4.out.trans (a5.mono fun _ h => h.elim))
      have H5 := Lib.hid (H4.out.still a5)
      have R5 := Lib.hid (r5.alloc (.cells (cellsU [x, y, z]).toArray 41))
      clear a5 r5 o5 cD cR cM
      go_wp2_with fail
      refine (sameL_any b5 _ 3 c5 3 3 [x, y, z] [x, y, z] _ rfl rfl (by decide) (by decide) R5.out (Reads.new w5 (cellsU [x, y, z]) 41)).mono ?_
      rintro e wd ⟨rfl, q5, rfl⟩
      rw [decide_eq_true (rfl : [x, y, z] = [x, y, z])]
      have A6 := Lib.hid ((A5.out.alloc (.cells (cellsU [x, y, z]).toArray 41) 0).drewN q5)
      have H6 := Lib.hid (H5.out.still (((Adv.refl (fun _ => False) w5 G5).alloc (.cells (cellsU [x, y, z]).toArray 41) 0).drewN q5))
      obtain ⟨w6, hw6⟩ : ∃ v, v = (w5.alloc (.cells (cellsU [x, y, z]).toArray 41)).drewN q5 := ⟨_, rfl⟩
      obtain ⟨G6, hG6⟩ : ∃ g, g = own1 w5 G5 0 := ⟨_, rfl⟩
      rw [← hw6, ← hG6] at A6 H6
      rw [← hw6]
      clear hw6 hG6
      obtain ⟨cD, cR, cM⟩ := H6.out.cells
      go_wp2_with fail
      refine (lenPR G6 2 R [] _ H6.out.tr.pr).mono ?_
      rintro e w' ⟨rfl, rfl⟩
      clear cD cR cM
      have X7 := Lib.hid (Reads.new w6 (cellsU [x, y]) 41)
      have B7 := Lib.hid (H6.out.alloc (.cells (cellsU [x, y]).toArray 41) 0)
      go_wp2_with fail
      refine (pushed_any (own1 w6 G6 0) 18 (by decide) (by decide) _ 2 2 [x, y] [y, x, y] [] (newM banks2) _ rfl (by decide) X7.out (by decide) (by decide) ((D16.one ⟨x0, x1⟩).append (D16.one ⟨y0, y1⟩)) B7.out.tb rfl rfl).mono ?_
      rintro e w7 ⟨b7, c7, G7, rfl, a7, r7, o7⟩
      have A7 := Lib.hid ((A6.out.alloc (.cells (cellsU [x, y]).toArray 41) 0).trans (a7.mono fun _ h => h.elim))
      have H7 := Lib.hid (B7.out.still a7)
      have N7 := Lib.hid a7
      have R7 := Lib.hid r7
      clear a7 r7 o7 X7
      have X8 := Lib.hid (Reads.new w7 (cellsU [x, y]) 41)
      have B8 := Lib.hid (H7.out.alloc (.cells (cellsU [x, y]).toArray 41) 0)
      go_wp2_with fail
      refine (pushed_any (own1 w7 G7 0) 17 (by decide) (by decide) _ 2 2 [x, y] [y] [] (newM banks2) _ rfl (by decide) X8.out (by decide) (by decide) ((D16.one ⟨x0, x1⟩).append (D16.one ⟨y0, y1⟩)) B8.out.tb rfl rfl).mono ?_
      rintro e w8 ⟨b8, c8, G8, rfl, a8, r8, o8⟩
      have A8 := Lib.hid ((A7.out.alloc (.cells (cellsU [x, y]).toArray 41) 0).trans (a8.mono fun _ h => h.elim))
      have H8 := Lib.hid (B8.out.still a8)
      have N8 := Lib.hid a8
      have R8 := Lib.hid r8
      clear a8 r8 o8 X8
      have X9 := Lib.hid (Reads.new w8 (cellsU [x, y]) 41)
      have B9 := Lib.hid (H8.out.alloc (.cells (cellsU [x, y]).toArray 41) 0)
      go_wp2_with fail
      refine (pushed_any (own1 w8 G8 0) 19 (by decide) (by decide) _ 2 2 [x, y] [x, y, x, y] [] (newM banks2) _ rfl (by decide) X9.out (by decide) (by decide) ((D16.one ⟨x0, x1⟩).append (D16.one ⟨y0, y1⟩)) B9.out.tb rfl rfl).mono ?_
      rintro e w9 ⟨b9, c9, G9, rfl, a9, r9, o9⟩
      have A9 := Lib.hid ((A8.out.alloc (.cells (cellsU [x, y]).toArray 41) 0).trans (a9.mono fun _ h => h.elim))
      have H9 := Lib.hid (B9.out.still a9)
      have N9 := Lib.hid a9
      have R9 := Lib.hid r9
      clear a9 r9 o9 X9
      have X10 := Lib.hid (Reads.new w9 (cellsU [x, y]) 41)
      have B10 := Lib.hid (H9.out.alloc (.cells (cellsU [x, y]).toArray 41) 0)
      go_wp2_with fail
      refine (pushed_any (own1 w9 G9 0) 22 (by decide) (by decide) _ 2 2 [x, y] [binF 22 x y] [] (newM banks2) _ rfl (by decide) X10.out (by decide) (by decide) ((D16.one ⟨x0, x1⟩).append (D16.one ⟨y0, y1⟩)) B10.out.tb rfl rfl).mono ?_
      rintro e w10 ⟨b10, c10, G10, rfl, a10, r10, o10⟩
      have A10 := Lib.hid ((A9.out.alloc (.cells (cellsU [x, y]).toArray 41) 0).trans (a10.mono fun _ h => h.elim))
      have H10 := Lib.hid (B10.out.still a10)
      have N10 := Lib.hid a10
      have R10 := Lib.hid r10
      clear a10 r10 o10 X10
      have V7 := Lib.hid ((((((R7.out.alloc (.cells (cellsU [x, y]).toArray 41)).adv N8.out (fun _ _ => id)).alloc (.cells (cellsU [x, y]).toArray 41)).adv N9.out (fun _ _ => id)).alloc (.cells (cellsU [x, y]).toArray 41)).adv N10.out (fun _ _ => id))
      have V8 := Lib.hid ((((R8.out.alloc (.cells (cellsU [x, y]).toArray 41)).adv N9.out (fun _ _ => id)).alloc (.cells (cellsU [x, y]).toArray 41)).adv N10.out (fun _ _ => id))
      have V9 := Lib.hid ((R9.out.alloc (.cells (cellsU [x, y]).toArray 41)).adv N10.out (fun _ _ => id))
      have V10 := Lib.hid R10.out
      have hsub : IntKind.u16.wrap (x - y) = binF 22 x y := by rw [wrap_u16_mod]; show (x - y) % 65536 = (x + -y % 65536) % 65536; omega
      have HSUB := Lib.hid hsub
      clear hsub
      have V7a := Lib.hid (V7.out.alloc (.cells (cellsU [y, x, y]).toArray 41))
      go_wp2_with fail
      refine (sameL_any b7 _ 3 c7 3 3 [y, x, y] [y, x, y] _ rfl rfl (by decide) (by decide) V7a.out (Reads.new w10 (cellsU [y, x, y]) 41)).mono ?_
      rintro e wd ⟨rfl, q11, rfl⟩
      rw [decide_eq_true (rfl : [y, x, y] = [y, x, y])]
      have A11 := Lib.hid ((A10.out.alloc (.cells (cellsU [y, x, y]).toArray 41) 0).drewN q11)
      have N11 := Lib.hid (((Adv.refl (fun _ => False) w10 G10).alloc (.cells (cellsU [y, x, y]).toArray 41) 0).drewN q11)
      have H11 := Lib.hid (H10.out.still N11.out)
      replace V8 := Lib.hid (V8.out.adv N11.out (fun _ _ => id))
      replace V9 := Lib.hid (V9.out.adv N11.out (fun _ _ => id))
      replace V10 := Lib.hid (V10.out.adv N11.out (fun _ _ => id))
      obtain ⟨w11, hw⟩ : ∃ v, v = (w10.alloc (.cells (cellsU [y, x, y]).toArray 41)).drewN q11 := ⟨_, rfl⟩
      obtain ⟨G11, hG⟩ : ∃ g, g = own1 w10 G10 0 := ⟨_, rfl⟩
      rw [← hw, ← hG] at A11 H11
      rw [← hw] at V8
      rw [← hw] at V9
      rw [← hw] at V10
      rw [← hw]
      clear hw hG N11 V7 V7a
      have V8a := Lib.hid (V8.out.alloc (.cells (cellsU [y]).toArray 41))
      go_wp2_with fail
      refine (sameL_any b8 _ 1 c8 1 1 [y] [y] _ rfl rfl (by decide) (by decide) V8a.out (Reads.new w11 (cellsU [y]) 41)).mono ?_
      rintro e wd ⟨rfl, q12, rfl⟩
      rw [decide_eq_true (rfl : [y] = [y])]
      have A12 := Lib.hid ((A11.out.alloc (.cells (cellsU [y]).toArray 41) 0).drewN q12)
      have N12 := Lib.hid (((Adv.refl (fun _ => False) w11 G11).alloc (.cells (cellsU [y]).toArray 41) 0).drewN q12)
      have H12 := Lib.hid (H11.out.still N12.out)
      replace V9 := Lib.hid (V9.out.adv N12.out (fun _ _ => id))
      replace V10 := Lib.hid (V10.out.adv N12.out (fun _ _ => id))
      obtain ⟨w12, hw⟩ : ∃ v, v = (w11.alloc (.cells (cellsU [y]).toArray 41)).drewN q12 := ⟨_, rfl⟩
      obtain ⟨G12, hG⟩ : ∃ g, g = own1 w11 G11 0 := ⟨_, rfl⟩
      rw [← hw, ← hG] at A12 H12
      rw [← hw] at V9
      rw [← hw] at V10
      rw [← hw]
      clear hw hG N12 V8 V8a
      have V9a := Lib.hid (V9.out.alloc (.cells (cellsU [x, y, x, y]).toArray 41))
      go_wp2_with fail
      refine (sameL_any b9 _ 4 c9 4 4 [x, y, x, y] [x, y, x, y] _ rfl rfl (by decide) (by decide) V9a.out (Reads.new w12 (cellsU [x, y, x, y]) 41)).mono ?_
      rintro e wd ⟨rfl, q13, rfl⟩
      rw [decide_eq_true (rfl : [x, y, x, y] = [x, y, x, y])]
      have A13 := Lib.hid ((A12.out.alloc (.cells (cellsU [x, y, x, y]).toArray 41) 0).drewN q13)
      have N13 := Lib.hid (((Adv.refl (fun _ => False) w12 G12).alloc (.cells (cellsU [x, y, x, y]).toArray 41) 0).drewN q13)
      have H13 := Lib.hid (H12.out.still N13.out)
      replace V10 := Lib.hid (V10.out.adv N13.out (fun _ _ => id))
      obtain ⟨w13, hw⟩ : ∃ v, v = (w12.alloc (.cells (cellsU [x, y, x, y]).toArray 41)).drewN q13 := ⟨_, rfl⟩
      obtain ⟨G13, hG⟩ : ∃ g, g = own1 w12 G12 0 := ⟨_, rfl⟩
      rw [← hw, ← hG] at A13 H13
      rw [← hw] at V10
      rw [← hw]
      clear hw hG N13 V9 V9a
      have V10a := Lib.hid (V10.out.alloc (.cells (cellsU [binF 22 x y]).toArray 41))
      go_wp2_with fail
      rw [HSUB.out]
      refine (sameL_any b10 _ 1 c10 1 1 [binF 22 x y] [binF 22 x y] _ rfl rfl (by decide) (by decide) V10a.out (Reads.new w13 (cellsU [binF 22 x y]) 41)).mono ?_
      rintro e wd ⟨rfl, q14, rfl⟩
      rw [decide_eq_true (rfl : [binF 22 x y] = [binF 22 x y])]
      have A14 := Lib.hid ((A13.out.alloc (.cells (cellsU [binF 22 x y]).toArray 41) 0).drewN q14)
      have N14 := Lib.hid (((Adv.refl (fun _ => False) w13 G13).alloc (.cells (cellsU [binF 22 x y]).toArray 41) 0).drewN q14)
      have H14 := Lib.hid (H13.out.still N14.out)
      obtain ⟨w14, hw⟩ : ∃ v, v = (w13.alloc (.cells (cellsU [binF 22 x y]).toArray 41)).drewN q14 := ⟨_, rfl⟩
      obtain ⟨G14, hG⟩ : ∃ g, g = own1 w13 G13 0 := ⟨_, rfl⟩
      rw [← hw, ← hG] at A14 H14
      rw [← hw]
      clear hw hG N14 V10 V10a
      have hp0 : 0 ≤ a % 16382 := by omega
      have hp1 : a % 16382 < 16382 := by omega
      have K0 := Lib.hid H14.out.gd.mo
      obtain ⟨cD, cR, cM⟩ := H14.out.cells
      go_wp2_with fail
      refine (H14.out.push [x, (32768 + a % 16382)] ((D16.one ⟨x0, x1⟩).append (D16.one ⟨by omega, by omega⟩)) 2 rfl (by simp)).mono ?_
      rintro e w15 ⟨rfl, G15, a15, h15⟩
      have A15 := Lib.hid ((A14.out.alloc (.cells (cellsU [x, (32768 + a % 16382)]).toArray 41) 0).trans a15)
      have H15 := Lib.hid h15
      clear a15 h15 cD cR cM
      have HD16 := Lib.hid H15.out.drew
      obtain ⟨cD, cR, cM⟩ := H15.out.cells
      go_upto_region 25 with fail
      go_region_held3 (fun w' => w'.cell? ⟨K, 0, none⟩ = some (.pointer (some ⟨D, 0, none⟩)) ∧ w'.cell? ⟨K, 1, none⟩ = some (.pointer (some ⟨R, 0, none⟩)) ∧ w'.cell? ⟨K, 2, none⟩ = some (.pointer (some ⟨M, 0, none⟩))) (first | exact ⟨cD, cR, cM⟩ | exact Q16.out)
        ((go_at_call 21; refine (HD16.out.do 51 (by decide) (by decide) (by rw [Z0.out.1]; exact Nat.zero_le _) rfl (d' := [x, y, z]) (r' := []) (m' := setCellF m0 (32768 + a % 16382) x) rfl).mono ?_; rintro e w16 ⟨rfl, G16, a16, h16⟩; have A16 := Lib.hid (A15.out.drew.trans a16); have Q16 := Lib.hid h16.cells; have H16 := Lib.hid h16; clear a16 h16))
      clear cD cR cM
      have hc := cell_set m0 K0.out (32768 + a % 16382) x (by omega) (by omega) x0 x1
      obtain ⟨m1, hm⟩ : ∃ m, m = setCellF m0 (32768 + a % 16382) x := ⟨_, rfl⟩
      rw [← hm] at H16 hc
      have Z1 := Lib.hid (And.intro (hc.2.1.trans Z0.out.1) (And.intro (hc.2.2.1.trans Z0.out.2) hc.1))
      have K1 := Lib.hid H16.out.gd.mo
      clear hm hc
      obtain ⟨cD, cR, cM⟩ := H16.out.cells
      go_wp2_with fail
      refine (H16.out.push [y, (32768 + a % 16382)] ((D16.one ⟨y0, y1⟩).append (D16.one ⟨by omega, by omega⟩)) 2 rfl (by simp)).mono ?_
      rintro e w17 ⟨rfl, G17, a17, h17⟩
      have A17 := Lib.hid ((A16.out.alloc (.cells (cellsU [y, (32768 + a % 16382)]).toArray 41) 0).trans a17)
      have H17 := Lib.hid h17
      clear a17 h17 cD cR cM
      have HD18 := Lib.hid H17.out.drew
      obtain ⟨cD, cR, cM⟩ := H17.out.cells
      go_upto_region 27 with fail
      go_region_held3 (fun w' => w'.cell? ⟨K, 0, none⟩ = some (.pointer (some ⟨D, 0, none⟩)) ∧ w'.cell? ⟨K, 1, none⟩ = some (.pointer (some ⟨R, 0, none⟩)) ∧ w'.cell? ⟨K, 2, none⟩ = some (.pointer (some ⟨M, 0, none⟩))) (first | exact ⟨cD, cR, cM⟩ | exact Q18.out)
        ((go_at_call 21; refine (HD18.out.do 54 (by decide) (by decide) (by rw [Z1.out.1]; exact Nat.zero_le _) rfl (d' := [x, y, z]) (r' := []) (m' := setCellF m1 (32768 + a % 16382) ((cellF m1 (32768 + a % 16382) + y) % 65536)) rfl).mono ?_; rintro e w18 ⟨rfl, G18, a18, h18⟩; have A18 := Lib.hid (A17.out.drew.trans a18); have Q18 := Lib.hid h18.cells; have H18 := Lib.hid h18; clear a18 h18))
      clear cD cR cM
      have hc := cell_set m1 K1.out (32768 + a % 16382) ((cellF m1 (32768 + a % 16382) + y) % 65536) (by omega) (by omega) (by omega) (by omega)
      obtain ⟨m2, hm⟩ : ∃ m, m = setCellF m1 (32768 + a % 16382) ((cellF m1 (32768 + a % 16382) + y) % 65536) := ⟨_, rfl⟩
      rw [← hm] at H18 hc
      have Z2 := Lib.hid (And.intro (hc.2.1.trans Z1.out.1) (And.intro (hc.2.2.1.trans Z1.out.2.1) (show cellF m2 (32768 + a % 16382) = IntKind.u16.wrap (x + y) by rw [hc.1, Z1.out.2.2, wrap_u16_mod])))
      have K2 := Lib.hid H18.out.gd.mo
      clear hm hc
      obtain ⟨cD, cR, cM⟩ := H18.out.cells
      go_wp2_with fail
      refine (H18.out.push [(32768 + a % 16382)] (D16.one ⟨by omega, by omega⟩) 1 rfl (by simp)).mono ?_
      rintro e w19 ⟨rfl, G19, a19, h19⟩
      have A19 := Lib.hid ((A18.out.alloc (.cells (cellsU [(32768 + a % 16382)]).toArray 41) 0).trans a19)
      have H19 := Lib.hid h19
      clear a19 h19 cD cR cM
      have HD20 := Lib.hid H19.out.drew
      obtain ⟨cD, cR, cM⟩ := H19.out.cells
      go_upto_region 29 with fail
      go_region_held3 (fun w' => w'.cell? ⟨K, 0, none⟩ = some (.pointer (some ⟨D, 0, none⟩)) ∧ w'.cell? ⟨K, 1, none⟩ = some (.pointer (some ⟨R, 0, none⟩)) ∧ w'.cell? ⟨K, 2, none⟩ = some (.pointer (some ⟨M, 0, none⟩))) (first | exact ⟨cD, cR, cM⟩ | exact Q20.out)
        ((go_at_call 21; refine (HD20.out.do 50 (by decide) (by decide) (by rw [Z2.out.1]; exact Nat.zero_le _) rfl (d' := [x, y, z, cellF m2 (32768 + a % 16382)]) (r' := []) (m' := m2) rfl).mono ?_; rintro e w20 ⟨rfl, G20, a20, h20⟩; have A20 := Lib.hid (A19.out.drew.trans a20); have Q20 := Lib.hid h20.cells; have H20 := Lib.hid h20; clear a20 h20))
      clear cD cR cM
      rw [Z2.out.2.2] at H20
      obtain ⟨cD, cR, cM⟩ := H20.out.cells
      go_wp2_with fail
      refine (W6.pop (d := [x, y, z]) (x := IntKind.u16.wrap (x + y)) (by exact H20.out)).mono ?_
      rintro e w21 ⟨rfl, G21, a21, h21⟩
      have A21 := Lib.hid (A20.out.trans a21)
      have H21 := Lib.hid h21
      clear a21 h21 cD cR cM
      have c0 : 0 ≤ x % 64 := by omega
      have c1 : x % 64 < 64 := by omega
      have d0 : 0 ≤ y % 48 := by omega
      have d1 : y % 48 < 48 := by omega
      obtain ⟨cD, cR, cM⟩ := H21.out.cells
      go_wp2_with fail
      refine (H21.out.push [x % 64, y % 48, z] ((D16.one ⟨by omega, by omega⟩).append ((D16.one ⟨by omega, by omega⟩).append (D16.one ⟨z0, z1⟩))) 3 rfl (by simp)).mono ?_
      rintro e w22 ⟨rfl, G22, a22, h22⟩
      have A22 := Lib.hid ((A21.out.alloc (.cells (cellsU [x % 64, y % 48, z]).toArray 41) 0).trans a22)
      have H22 := Lib.hid h22
      clear a22 h22 cD cR cM
      have HD23 := Lib.hid H22.out.drew
      obtain ⟨cD, cR, cM⟩ := H22.out.cells
      go_upto_region 34 with fail
      go_region_held3 (fun w' => w'.cell? ⟨K, 0, none⟩ = some (.pointer (some ⟨D, 0, none⟩)) ∧ w'.cell? ⟨K, 1, none⟩ = some (.pointer (some ⟨R, 0, none⟩)) ∧ w'.cell? ⟨K, 2, none⟩ = some (.pointer (some ⟨M, 0, none⟩))) (first | exact ⟨cD, cR, cM⟩ | exact Q23.out)
        ((go_at_call 21; refine (HD23.out.do 60 (by decide) (by decide) (by rw [Z2.out.1]; exact Nat.zero_le _) rfl (d' := [x, y, z]) (r' := []) (m' := plotF m2 (x % 64) (y % 48) z) rfl).mono ?_; rintro e w23 ⟨rfl, G23, a23, h23⟩; have A23 := Lib.hid (A22.out.drew.trans a23); have Q23 := Lib.hid h23.cells; have H23 := Lib.hid h23; clear a23 h23))
      clear cD cR cM
      have hc := plot_read m2 K2.out (x % 64) (y % 48) z c0 c1 d0 d1
      obtain ⟨m3, hm⟩ : ∃ m, m = plotF m2 (x % 64) (y % 48) z := ⟨_, rfl⟩
      rw [← hm] at H23 hc
      have Z3 := Lib.hid (And.intro (hc.2.1.trans Z2.out.1) (And.intro (hc.2.2.1.trans Z2.out.2.1) hc.1))
      have K3 := Lib.hid H23.out.gd.mr
      clear hm hc
      obtain ⟨cD, cR, cM⟩ := H23.out.cells
      go_wp2_with fail
      refine (H23.out.push [(49152 + 64 * (y % 48) + x % 64)] (D16.one ⟨by omega, by omega⟩) 1 rfl (by simp)).mono ?_
      rintro e w24 ⟨rfl, G24, a24, h24⟩
      have A24 := Lib.hid ((A23.out.alloc (.cells (cellsU [(49152 + 64 * (y % 48) + x % 64)]).toArray 41) 0).trans a24)
      have H24 := Lib.hid h24
      clear a24 h24 cD cR cM
      have HD25 := Lib.hid H24.out.drew
      obtain ⟨cD, cR, cM⟩ := H24.out.cells
      go_upto_region 36 with fail
      go_region_held3 (fun w' => w'.cell? ⟨K, 0, none⟩ = some (.pointer (some ⟨D, 0, none⟩)) ∧ w'.cell? ⟨K, 1, none⟩ = some (.pointer (some ⟨R, 0, none⟩)) ∧ w'.cell? ⟨K, 2, none⟩ = some (.pointer (some ⟨M, 0, none⟩))) (first | exact ⟨cD, cR, cM⟩ | exact Q25.out)
        ((go_at_call 21; refine (HD25.out.do 52 (by decide) (by decide) (by rw [Z3.out.1]; exact Nat.zero_le _) rfl (d' := [x, y, z, loadF m3 (49152 + 64 * (y % 48) + x % 64)]) (r' := []) (m' := m3) rfl).mono ?_; rintro e w25 ⟨rfl, G25, a25, h25⟩; have A25 := Lib.hid (A24.out.drew.trans a25); have Q25 := Lib.hid h25.cells; have H25 := Lib.hid h25; clear a25 h25))
      clear cD cR cM
      rw [Z3.out.2.2] at H25
      obtain ⟨cD, cR, cM⟩ := H25.out.cells
      go_wp2_with fail
      refine (W6.pop (d := [x, y, z]) (x := z % 256) (by exact H25.out)).mono ?_
      rintro e w26 ⟨rfl, G26, a26, h26⟩
      have A26 := Lib.hid (A25.out.trans a26)
      have H26 := Lib.hid h26
      clear a26 h26 cD cR cM
      obtain ⟨cD, cR, cM⟩ := H26.out.cells
      go_wp2_with fail
      refine (H26.out.push [x, y] ((D16.one ⟨x0, x1⟩).append (D16.one ⟨y0, y1⟩)) 2 rfl (by simp)).mono ?_
      rintro e w27 ⟨rfl, G27, a27, h27⟩
      have A27 := Lib.hid ((A26.out.alloc (.cells (cellsU [x, y]).toArray 41) 0).trans a27)
      have H27 := Lib.hid h27
      clear a27 h27 cD cR cM
      have HD28 := Lib.hid H27.out.drew
      obtain ⟨cD, cR, cM⟩ := H27.out.cells
      go_upto_region 40 with fail
      go_region_held3 (fun w' => w'.cell? ⟨K, 0, none⟩ = some (.pointer (some ⟨D, 0, none⟩)) ∧ w'.cell? ⟨K, 1, none⟩ = some (.pointer (some ⟨R, 0, none⟩)) ∧ w'.cell? ⟨K, 2, none⟩ = some (.pointer (some ⟨M, 0, none⟩))) (first | exact ⟨cD, cR, cM⟩ | exact Q28.out)
        ((go_at_call 21; refine (HD28.out.do 62 (by decide) (by decide) (by rw [Z3.out.1]; exact Nat.zero_le _) rfl (d' := [x, y, z]) (r' := []) (m' := playF m3 x (y % 256)) rfl).mono ?_; rintro e w28 ⟨rfl, G28, a28, h28⟩; have A28 := Lib.hid (A27.out.drew.trans a28); have Q28 := Lib.hid h28.cells; have H28 := Lib.hid h28; clear a28 h28))
      clear cD cR cM
      have hc := play_tones m3 K3.out x (y % 256) x0 x1
      rw [Z3.out.1, Z3.out.2.1, List.nil_append] at hc
      obtain ⟨m4, hm⟩ : ∃ m, m = playF m3 x (y % 256) := ⟨_, rfl⟩
      rw [← hm] at H28 hc
      have Z4 := Lib.hid hc
      clear hm hc
      obtain ⟨cD, cR, cM⟩ := H28.out.cells
      go_wp2_with fail
      refine (tones_any G28 3 0 M m4 H28.out.gd.mo (by rw [Z4.out]; simp) _ H28.out.tr.pm).mono ?_
      rw [Z4.out]
      rintro e w29 ⟨ta, tc, G29, rfl, a29, r29⟩
      obtain ⟨tb, rfl⟩ : ∃ g, ta = some ⟨g, 0, none⟩ := by
        obtain ⟨a', c', e1, _, _, h⟩ := r29.slice
        cases e1; exact h (by simp)
      have A29 := Lib.hid (A28.out.trans (a29.mono fun _ h => h.elim))
      have hcc := (r29.at (by simp)).2.2.2
      have e0 := hcc 0 _ rfl
      have e1 := hcc 1 _ rfl
      have e2 := hcc 2 _ rfl
      have hE := eqlTone
      have hy := wrap_u8_mod y
      have HY := Lib.hid hy
      clear a29 r29 hcc cD cR cM hy
      rw [show ([((0 : Int), x, y % 256)] : List (Int × Int × Int)).length = 1 from rfl]
      go_wp2_with fail
      go_ret
      exact ⟨rfl, _, joined_adv (S := S3 1 2 3) (G := G) A29.out own123.zero⟩
end Go.Proofs.YtdnalhjdmlkbmaaDoor
namespace Go.Proofs.YtdnalhjdmlkbmaaDoor.primBack
open Go.RowKit Go.ChangeShapes Go.WideShapes
set_option linter.unusedVariables false
set_option maxRecDepth 100000 in
theorem primBack_open {H : Type} {enc : TypeId × Value → H} (W : World) (base : Nat) (v0 : Value) (d0 : DataW H) (p0 : List MemPlace) (h0 : DataW.Trod enc Tryd.prog W 0 (fun _ => true) true 41 v0 d0 p0) (o0 : Value.okWide Tryd.prog W .any base 41 v0)
    (v1 : Value) (d1 : DataW H) (p1 : List MemPlace) (h1 : DataW.Trod enc Tryd.prog W 0 (fun _ => true) true 41 v1 d1 p1) (o1 : Value.okWide Tryd.prog W .any base 41 v1)
    (v2 : Value) (d2 : DataW H) (p2 : List MemPlace) (h2 : DataW.Trod enc Tryd.prog W 0 (fun _ => true) true 41 v2 d2 p2) (o2 : Value.okWide Tryd.prog W .any base 41 v2)
    (v3 : Value) (d3 : DataW H) (p3 : List MemPlace) (h3 : DataW.Trod enc Tryd.prog W 0 (fun _ => true) true 41 v3 d3 p3) (o3 : Value.okWide Tryd.prog W .any base 41 v3)
    (hsz : (DataW.weightsEach Tryd.prog ([41, 41, 41, 41] ++ []) ([d0, d1, d2, d3] ++ [])).all (· ≤ reachBytes) = true) (hL : laidMetH Tryd.prog laid4 W) :
    Calls Tryd.prog 6 #[v0, v1, v2, v3] W fun e w' => e = .returned (.bool true) ∧ Below W.heap.size W w' := by
  obtain ⟨x, rfl, _, _, hx⟩ := open_int Tryd.underlying41 o0 h0
  obtain ⟨y, rfl, _, _, hy⟩ := open_int Tryd.underlying41 o1 h1
  obtain ⟨z, rfl, _, _, hz⟩ := open_int Tryd.underlying41 o2 h2
  obtain ⟨a, rfl, _, _, ha⟩ := open_int Tryd.underlying41 o3 h3
  have hx := wf_u16_of hx
  have hy := wf_u16_of hy
  have hz := wf_u16_of hz
  have ha := wf_u16_of ha
  refine (back_any (fun _ => 0) x y z a hx.1 hx.2 hy.1 hy.2 hz.1 hz.2 ha.1 ha.2 W (of_laid hL)).mono ?_
  rintro e w' ⟨rfl, G', ha⟩
  exact ⟨rfl, ha.below (Nat.le_refl _) fun _ _ => id⟩
end Go.Proofs.YtdnalhjdmlkbmaaDoor.primBack
