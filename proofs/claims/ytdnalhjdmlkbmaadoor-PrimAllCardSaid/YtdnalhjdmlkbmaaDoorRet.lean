/- What the methods of stack.Return do. -/
import Derived.Test.YtdnalhjdmlkbmaaDoorPileR
namespace Go.Proofs.YtdnalhjdmlkbmaaDoor
open Go.RowKit

theorem lenR_any (D : Nat) (a : Option Addr) (n cap : Nat) (w : World) (hc : w.cell? ⟨D, 0, none⟩ = some (.slice a n cap)) :
    Calls Tryd.prog 28 #[.pointer (some ⟨D, 0, none⟩)] w fun e w' => e = .returned (.int .i64 n) ∧ w = w' := by
  go_enter Tryd.func28, Tryd.ntmps28
  go_wp2_with (first | (go_at_call 58; refine (innerR_any D _).mono ?_; rintro e w' ⟨rfl, rfl⟩) | (go_at_call 64; refine (sizeR_any D a n cap _ hc).mono ?_; rintro e w' ⟨rfl, rfl⟩))
  go_ret
  exact ⟨rfl, rfl⟩
theorem lenR_nil (w : World) : Calls Tryd.prog 28 #[.pointer none] w fun e w' => e = .returned (.int .i64 0) ∧ w = w' := by
  go_enter Tryd.func28, Tryd.ntmps28
  go_wp2_with (first | (go_at_call 58; refine (innerR_nil _).mono ?_; rintro e w' ⟨rfl, rfl⟩) | (go_at_call 64; refine (sizeR_nil _).mono ?_; rintro e w' ⟨rfl, rfl⟩))
  go_ret
  exact ⟨rfl, rfl⟩

theorem pushR_nil (xa : Option Addr) (m c : Nat) (w : World) (hpos : 0 < m) :
    Calls Tryd.prog 76 #[.pointer none, .slice xa m c] w fun e w' => e = .returned (.int .i64 4) ∧ w = w' := by
  go_enter Tryd.func76, Tryd.ntmps76
  go_wp2_with (first | (go_at_call 58; refine (innerR_nil _).mono ?_; rintro e w' ⟨rfl, rfl⟩) | (go_at_call 85; refine (putR_nil _ xa m c _ hpos).mono ?_; rintro e w' ⟨rfl, rfl⟩))
  go_ret
  exact ⟨rfl, rfl⟩
theorem pushR_nil0 (xa : Option Addr) (c : Nat) (w : World) :
    Calls Tryd.prog 76 #[.pointer none, .slice xa 0 c] w fun e w' => e = .returned (.int .i64 0) ∧ w = w' := by
  go_enter Tryd.func76, Tryd.ntmps76
  go_wp2_with (first | (go_at_call 58; refine (innerR_nil _).mono ?_; rintro e w' ⟨rfl, rfl⟩) | (go_at_call 85; refine (putR_none _ _ xa c _).mono ?_; rintro e w' ⟨rfl, rfl⟩))
  go_ret
  exact ⟨rfl, rfl⟩
theorem pushR_none (D : Nat) (xa : Option Addr) (c : Nat) (w : World) :
    Calls Tryd.prog 76 #[.pointer (some ⟨D, 0, none⟩), .slice xa 0 c] w fun e w' => e = .returned (.int .i64 0) ∧ w = w' := by
  go_enter Tryd.func76, Tryd.ntmps76
  go_wp2_with (first | (go_at_call 58; refine (innerR_any D _).mono ?_; rintro e w' ⟨rfl, rfl⟩) | (go_at_call 85; refine (putR_none _ _ xa c _).mono ?_; rintro e w' ⟨rfl, rfl⟩))
  go_ret
  exact ⟨rfl, rfl⟩
theorem pushR_full (D : Nat) (a : Option Addr) (n cap : Nat) (xa : Option Addr) (m c : Nat) (w : World) (hc : w.cell? ⟨D, 0, none⟩ = some (.slice a n cap)) (hn : n ≤ 9223372036854775807) (hm : m ≤ 9223372036854775807)
    (hpos : 0 < m) (hfull : 128 < (n : Int) + m) :
    Calls Tryd.prog 76 #[.pointer (some ⟨D, 0, none⟩), .slice xa m c] w fun e w' => e = .returned (.int .i64 4) ∧ w = w' := by
  go_enter Tryd.func76, Tryd.ntmps76
  go_wp2_with (first | (go_at_call 58; refine (innerR_any D _).mono ?_; rintro e w' ⟨rfl, rfl⟩) | (go_at_call 85; refine (putR_full D a n cap 128 xa m c _ hc hn hm (by omega) (by omega) hpos hfull).mono ?_; rintro e w' ⟨rfl, rfl⟩))
  go_ret
  exact ⟨rfl, rfl⟩
set_option maxHeartbeats 400000 in
theorem pushR_room (T : Nat) (G : Nat → Nat) (i D : Nat) (a : Option Addr) (n cap : Nat) (xs : List Value) (xa : Addr) (m c : Nat) (news : List Value) (w : World) (hp : Pile 59 T 2 w G i D (.slice a n cap) n xs)
    (hm : m ≤ 9223372036854775807) (hpos : 0 < m) (hroom : (n : Int) + m ≤ 128)
    (hl : news.length = m * 2) (hnews : ∀ j u, news[j]? = some u → w.cell? (xa.add j) = some u) (hone : ∀ u ∈ news, u.oneCell' = true) :
    Calls Tryd.prog 76 #[.pointer (some ⟨D, 0, none⟩), .slice (some xa) m c] w fun e w' => e = .returned (.int .i64 0) ∧
      ∃ G' v', Adv (· = i) w G w' G' ∧ Pile 59 T 2 w' G' i D v' (n + m) (xs ++ news) := by
  have HP := Lib.hid hp
  have HL := Lib.hid hl
  clear hp hl
  go_enter Tryd.func76, Tryd.ntmps76
  go_wp2_with (first | (go_at_call 58; refine (innerR_any D _).mono ?_; rintro e w' ⟨rfl, rfl⟩) | (go_at_call 85; refine (putR_room T G i D a n cap xs 128 xa m c news _ HP.out hm (by omega) (by omega) hpos hroom HL.out hnews hone).mono ?_; rintro e w' ⟨rfl, hr⟩))
  go_ret
  exact ⟨rfl, hr⟩

/-- At's answers. -/
def atV (l : List (Int × Int)) (n kind : Int) : Int := if 0 ≤ n ∧ n < l.length then (if (l.getD (l.length - 1 - n.toNat) (0, 0)).1 = kind then (l.getD (l.length - 1 - n.toNat) (0, 0)).2 else 0) else 0
def atE (l : List (Int × Int)) (n kind : Int) : Int := if 0 ≤ n ∧ n < l.length then (if (l.getD (l.length - 1 - n.toNat) (0, 0)).1 = kind then 0 else 5) else 3
theorem atV_in {l : List (Int × Int)} {j k : Nat} {kind : Int} {c : Int × Int} (h : j + k + 1 = l.length) (hc : l[k]? = some c) : atV l j kind = if c.1 = kind then c.2 else 0 := by
  unfold atV
  rw [if_pos (by omega), show l.length - 1 - ((j : Int)).toNat = k from by omega, List.getD, hc]; rfl
theorem atE_in {l : List (Int × Int)} {j k : Nat} {kind : Int} {c : Int × Int} (h : j + k + 1 = l.length) (hc : l[k]? = some c) : atE l j kind = if c.1 = kind then 0 else 5 := by
  unfold atE
  rw [if_pos (by omega), show l.length - 1 - ((j : Int)).toNat = k from by omega, List.getD, hc]; rfl
theorem at_out {l : List (Int × Int)} {n kind : Int} (h : n < 0 ∨ (l.length : Int) ≤ n) : atV l n kind = 0 ∧ atE l n kind = 3 := by
  unfold atV atE
  rw [if_neg (by omega), if_neg (by omega)]; exact ⟨rfl, rfl⟩

theorem atR_nil (n kind : Int) (w : World) : Calls Tryd.prog 80 #[.pointer none, .int .i64 n, .int .i64 kind] w fun e w' => e = .returned (.tuple #[.int .u16 0, .int .i64 3]) ∧ w = w' := by
  go_enter Tryd.func80, Tryd.ntmps80
  go_wp2_with (first | (go_at_call 58; refine (innerR_nil _).mono ?_; rintro e w' ⟨rfl, rfl⟩) | (go_at_call 93; refine (topR_nil _ _).mono ?_; rintro e w' ⟨rfl, rfl⟩))
  go_ret2
  exact ⟨rfl, rfl⟩
theorem atR_out (D : Nat) (a : Option Addr) (m cap : Nat) (n kind : Int) (w : World) (hc : w.cell? ⟨D, 0, none⟩ = some (.slice a m cap)) (hn : n < 0 ∨ (m : Int) ≤ n) :
    Calls Tryd.prog 80 #[.pointer (some ⟨D, 0, none⟩), .int .i64 n, .int .i64 kind] w fun e w' => e = .returned (.tuple #[.int .u16 0, .int .i64 3]) ∧ w = w' := by
  go_enter Tryd.func80, Tryd.ntmps80
  go_wp2_with (first | (go_at_call 58; refine (innerR_any D _).mono ?_; rintro e w' ⟨rfl, rfl⟩) | (go_at_call 93; refine (topR_out D a m cap n _ hc hn).mono ?_; rintro e w' ⟨rfl, rfl⟩))
  go_ret2
  exact ⟨rfl, rfl⟩
set_option maxHeartbeats 400000 in
theorem atR_same (D g : Nat) (m cap j k : Nat) (c1 c2 : Int) (w : World) (hc : w.cell? ⟨D, 0, none⟩ = some (.slice (some ⟨g, 0, none⟩) m cap)) (hm : m ≤ 100000) (hj : j + k + 1 = m)
    (h1 : w.cell? ⟨g, k * 2, none⟩ = some (.int .i64 c1)) (h2 : w.cell? ⟨g, k * 2 + 1, none⟩ = some (.int .u16 c2)) :
    Calls Tryd.prog 80 #[.pointer (some ⟨D, 0, none⟩), .int .i64 j, .int .i64 c1] w fun e w' => e = .returned (.tuple #[.int .u16 c2, .int .i64 0]) ∧ ∃ d, w' = w.drewN d := by
  have HJ := Lib.hid hj
  clear hj
  go_enter Tryd.func80, Tryd.ntmps80
  go_wp2_with (first | (go_at_call 58; refine (innerR_any D _).mono ?_; rintro e w' ⟨rfl, rfl⟩) | (go_at_call 93; refine (topR_any D m cap g k j _ hc hm HJ.out).mono ?_; rintro e w' ⟨rfl, d, rfl⟩))
  go_ret2
  exact ⟨rfl, d, rfl⟩
set_option maxHeartbeats 400000 in
theorem atR_other (D g : Nat) (m cap j k : Nat) (kind c1 c2 : Int) (hb : (c1 != kind) = true) (w : World) (hc : w.cell? ⟨D, 0, none⟩ = some (.slice (some ⟨g, 0, none⟩) m cap)) (hm : m ≤ 100000) (hj : j + k + 1 = m)
    (h1 : w.cell? ⟨g, k * 2, none⟩ = some (.int .i64 c1)) (_h2 : w.cell? ⟨g, k * 2 + 1, none⟩ = some (.int .u16 c2)) :
    Calls Tryd.prog 80 #[.pointer (some ⟨D, 0, none⟩), .int .i64 j, .int .i64 kind] w fun e w' => e = .returned (.tuple #[.int .u16 0, .int .i64 5]) ∧ ∃ d, w' = w.drewN d := by
  have HJ := Lib.hid hj
  clear hj
  have hk : ¬ c1 = kind := by simpa using hb
  go_enter Tryd.func80, Tryd.ntmps80
  go_wp2_with (first | (go_at_call 58; refine (innerR_any D _).mono ?_; rintro e w' ⟨rfl, rfl⟩) | (go_at_call 93; refine (topR_any D m cap g k j _ hc hm HJ.out).mono ?_; rintro e w' ⟨rfl, d, rfl⟩))
  go_ret2
  exact ⟨rfl, d, rfl⟩
/-- At, of whatever place and kind. -/
theorem atR_any (T : Nat) (G : Nat → Nat) (i D : Nat) (a : Option Addr) (m cap : Nat) (l : List (Int × Int)) (n kind : Int) (w : World) (hp : Pile 59 T 2 w G i D (.slice a m cap) m (cellsR l)) (hm : m ≤ 100000) :
    Calls Tryd.prog 80 #[.pointer (some ⟨D, 0, none⟩), .int .i64 n, .int .i64 kind] w fun e w' => e = .returned (.tuple #[.int .u16 (atV l n kind), .int .i64 (atE l n kind)]) ∧ ∃ d, w' = w.drewN d := by
  have hlen : l.length = m := by have := hp.nlen; rw [cellsR_length] at this; omega
  by_cases hn : 0 ≤ n ∧ n < m
  · obtain ⟨j, rfl⟩ : ∃ j : Nat, n = j := ⟨n.toNat, by omega⟩
    obtain ⟨k, hk⟩ : ∃ k : Nat, j + k + 1 = m := ⟨m - 1 - j, by omega⟩
    obtain ⟨c, hc⟩ : ∃ c, l[k]? = some c := ⟨l[k]'(by omega), by simp⟩
    obtain ⟨g, rfl, _, _, _, _, h1, h2, _, _⟩ := hp.atR k c hc
    rw [atV_in (by omega) hc, atE_in (by omega) hc]
    by_cases e : c.1 = kind
    · rw [if_pos e, if_pos e, ← e]
      exact atR_same D g m cap j k c.1 c.2 w hp.cell hm hk h1 h2
    · rw [if_neg e, if_neg e]
      exact atR_other D g m cap j k kind c.1 c.2 (by simpa using e) w hp.cell hm hk h1 h2
  · rw [(at_out (by omega)).1, (at_out (by omega)).2]
    exact (atR_out D a m cap n kind w hp.cell (by omega)).mono fun e w' h => ⟨h.1, 0, h.2.symm⟩

theorem setR_nil (x : Int) (w : World) : Calls Tryd.prog 94 #[.pointer none, .int .u16 x] w fun e w' => e = .returned (.tuple #[]) ∧ w = w' := by
  go_enter Tryd.func94, Tryd.ntmps94
  go_wp2_with (first | (go_at_call 58; refine (innerR_nil _).mono ?_; rintro e w' ⟨rfl, rfl⟩) | (go_at_call 93; refine (topR_nil _ _).mono ?_; rintro e w' ⟨rfl, rfl⟩))
  go_end0
  exact ⟨rfl, rfl⟩
theorem setR_none (D : Nat) (a : Option Addr) (cap : Nat) (x : Int) (w : World) (hc : w.cell? ⟨D, 0, none⟩ = some (.slice a 0 cap)) : Calls Tryd.prog 94 #[.pointer (some ⟨D, 0, none⟩), .int .u16 x] w fun e w' => e = .returned (.tuple #[]) ∧ w = w' := by
  go_enter Tryd.func94, Tryd.ntmps94
  go_wp2_with (first | (go_at_call 58; refine (innerR_any D _).mono ?_; rintro e w' ⟨rfl, rfl⟩) | (go_at_call 93; refine (topR_out D a 0 cap 0 _ hc (.inr (by omega))).mono ?_; rintro e w' ⟨rfl, rfl⟩))
  go_end0
  exact ⟨rfl, rfl⟩
theorem cellsR_set (l : List (Int × Int)) (c : Int × Int) (x : Int) : (cellsR (l ++ [c])).set (l.length * 2 + 1) (.int .u16 x) = cellsR (l ++ [(c.1, x)]) := by
  rw [cellsR_append, cellsR_append, ← cellsR_length, List.set_append_right _ _ (by omega)]
  congr 1
  rw [show (cellsR l).length + 1 - (cellsR l).length = 1 from by omega]; rfl
theorem Pile.drewN {e T size : Nat} {w : World} {G : Nat → Nat} {i D : Nat} {v : Value} {n : Nat} {xs : List Value} (h : Pile e T size w G i D v n xs) (d : Nat) : Pile e T size (w.drewN d) G i D v n xs :=
  h.adv (S := fun _ => False) ((Adv.refl _ w G).drewN d) id
set_option maxHeartbeats 400000 in
theorem setR_some (T : Nat) (G : Nat → Nat) (i D : Nat) (a : Option Addr) (m cap : Nat) (l : List (Int × Int)) (c : Int × Int) (x : Int) (hlm : l.length = m) (hm : m < 100000) (w : World) (hp : Pile 59 T 2 w G i D (.slice a (m + 1) cap) (m + 1) (cellsR (l ++ [c]))) :
    Calls Tryd.prog 94 #[.pointer (some ⟨D, 0, none⟩), .int .u16 x] w fun e w' => e = .returned (.tuple #[]) ∧ Adv (· = i) w G w' G ∧ Pile 59 T 2 w' G i D (.slice a (m + 1) cap) (m + 1) (cellsR (l ++ [(c.1, x)])) := by
  obtain ⟨g, rfl, hlc, hcap, hgl, hGg, c1, c2, f1, f2⟩ := hp.atR m c (by rw [← hlm]; simp)
  have hc := hp.cell
  have HP := Lib.hid hp
  have HL := Lib.hid hlm
  clear hp hcap hGg hlm
  go_enter Tryd.func94, Tryd.ntmps94
  go_wp2_with (first | (go_at_call 58; refine (innerR_any D _).mono ?_; rintro e w' ⟨rfl, rfl⟩) | (go_at_call 93; refine (topR_any D (m + 1) cap g m 0 _ hc (by omega) (by omega)).mono ?_; rintro e w' ⟨rfl, d, rfl⟩))
  go_end0
  have h := (HP.out.drewN d).store (m * 2 + 1) (by rw [cellsR_length]; simp; have := HL.out; omega) (.int .u16 x)
  rw [← HL.out, cellsR_set, HL.out] at h
  exact ⟨rfl, (((Adv.refl _ w G).drewN d).trans h.1), h.2⟩

theorem popR_nil (kind : Int) (w : World) : Calls Tryd.prog 84 #[.pointer none, .int .i64 kind] w fun e w' => e = .returned (.tuple #[.int .u16 0, .int .i64 3]) ∧ w = w' := by
  go_enter Tryd.func84, Tryd.ntmps84
  go_wp2_with (go_at_call 80; refine (atR_nil 0 kind _).mono ?_; rintro e w' ⟨rfl, rfl⟩)
  go_ret2
  exact ⟨rfl, rfl⟩
/-- Pop of what is not so: nothing is taken. -/
theorem popR_not (T : Nat) (G : Nat → Nat) (i D : Nat) (a : Option Addr) (m cap : Nat) (l : List (Int × Int)) (kind : Int) (w : World) (hp : Pile 59 T 2 w G i D (.slice a m cap) m (cellsR l)) (hm : m ≤ 100000) (hne : (atE l 0 kind == 0) = false) :
    Calls Tryd.prog 84 #[.pointer (some ⟨D, 0, none⟩), .int .i64 kind] w fun e w' => e = .returned (.tuple #[.int .u16 (atV l 0 kind), .int .i64 (atE l 0 kind)]) ∧ ∃ d, w' = w.drewN d := by
  have HP := Lib.hid hp
  clear hp
  go_enter Tryd.func84, Tryd.ntmps84
  go_wp2_with (go_at_call 80; refine (atR_any T G i D a m cap l 0 kind _ HP.out hm).mono ?_; rintro e w' ⟨rfl, d, rfl⟩)
  go_ret2
  exact ⟨rfl, d, rfl⟩
theorem popR_is (T : Nat) (G : Nat → Nat) (i D : Nat) (a : Option Addr) (m cap : Nat) (l : List (Int × Int)) (c : Int × Int) (w : World) (hlm : l.length = m) (hp : Pile 59 T 2 w G i D (.slice a (m + 1) cap) (m + 1) (cellsR (l ++ [c]))) (hm : m < 100000) :
    Calls Tryd.prog 84 #[.pointer (some ⟨D, 0, none⟩), .int .i64 c.1] w fun e w' => e = .returned (.tuple #[.int .u16 c.2, .int .i64 0]) ∧ ∃ G', Adv (· = i) w G w' G' ∧ Pile 59 T 2 w' G' i D (.slice a m cap) m (cellsR l) := by
  obtain ⟨g, rfl, _, _, _, _, h1, h2, _, _⟩ := hp.atR m c (by rw [← hlm]; simp)
  have hc := hp.cell
  have HP := Lib.hid hp
  have HL := Lib.hid hlm
  clear hp hlm
  go_enter Tryd.func84, Tryd.ntmps84
  go_wp2_with (first | (go_at_call 80; refine (atR_same D g (m + 1) cap 0 m c.1 c.2 _ hc (by omega) (by omega) h1 h2).mono ?_; rintro e w' ⟨rfl, d, rfl⟩) | (go_at_call 95; refine (takeR_any T G i D _ m cap l c HL.out _ (HP.out.drewN d)).mono ?_; rintro e w' ⟨rfl, hr⟩))
  go_ret2
  obtain ⟨G', hr1, hr2⟩ := hr
  exact ⟨rfl, G', ((Adv.refl _ w G).drewN d).trans hr1, hr2⟩

theorem cellsOR_nil (w : World) : Calls Tryd.prog 22 #[.pointer none] w fun e w' => e = .returned (.slice none 0 0) ∧ w = w' := by
  go_enter Tryd.func22, Tryd.ntmps22
  go_wp2_with (first | (go_at_call 58; refine (innerR_nil _).mono ?_; rintro e w' ⟨rfl, rfl⟩) | (go_at_call 59; refine (allR_nil _).mono ?_; rintro e w' ⟨rfl, rfl⟩))
  go_ret
  exact ⟨rfl, rfl⟩
theorem cellsOR_none (D : Nat) (a : Option Addr) (cap : Nat) (w : World) (hc : w.cell? ⟨D, 0, none⟩ = some (.slice a 0 cap)) :
    Calls Tryd.prog 22 #[.pointer (some ⟨D, 0, none⟩)] w fun e w' => e = .returned (.slice none 0 0) ∧ w = w' := by
  go_enter Tryd.func22, Tryd.ntmps22
  go_wp2_with (first | (go_at_call 58; refine (innerR_any D _).mono ?_; rintro e w' ⟨rfl, rfl⟩) | (go_at_call 59; refine (allR_none D a cap _ hc).mono ?_; rintro e w' ⟨rfl, rfl⟩))
  go_ret
  exact ⟨rfl, rfl⟩
set_option maxHeartbeats 400000 in
theorem cellsOR_some (D : Nat) (a : Addr) (n cap : Nat) (xs : List Value) (w : World) (hn0 : 0 < n) (hn1 : n ≤ 1000) (hl : xs.length = n * 2) (hone : ∀ u ∈ xs, u.oneCell' = true)
    (hc : w.cell? ⟨D, 0, none⟩ = some (.slice (some a) n cap)) (hx : ∀ j u, xs[j]? = some u → w.cell? (a.add j) = some u) (hb : a.block < w.heap.size) :
    Calls Tryd.prog 22 #[.pointer (some ⟨D, 0, none⟩)] w fun e w' => e = .returned (.slice (some ⟨w.heap.size, 0, none⟩) n n) ∧ w' = w.alloc (.cells xs.toArray 59) := by
  have HL := Lib.hid hl
  clear hl
  go_enter Tryd.func22, Tryd.ntmps22
  go_wp2_with (first | (go_at_call 58; refine (innerR_any D _).mono ?_; rintro e w' ⟨rfl, rfl⟩) | (go_at_call 59; refine (allR_some D a n cap xs _ hn0 hn1 HL.out hone hc hx hb).mono ?_; rintro e w' ⟨rfl, rfl⟩))
  go_ret
  exact ⟨rfl, rfl⟩
end Go.Proofs.YtdnalhjdmlkbmaaDoor
