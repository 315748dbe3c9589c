/- What the document's return stack does. -/
import Derived.Test.YtgpimonjdhbdmaaRef
import Derived.RegionTactic
import Derived.BigRegion
import Derived.ChangeAlike
import Derived.Deep.DeepCutAuto
namespace Go.Proofs.Ytgpimonjdhbdmaa
open Go.RowKit

theorem refPushR_no (G : Nat → Nat) (i D : Nat) (l : List (Int × Int)) (xa : Option Addr) (n c : Nat) (w : World) (hp : ER w G i D l) (hl : l.length ≤ 128) (hn : n ≤ 100000000000000) (hfull : 128 < l.length + n) :
    Calls Try.prog 41 #[.pointer (some ⟨D, 0, none⟩), .slice xa n c] w fun e w' => e = .returned (.int .i64 4) ∧ w = w' := by
  obtain ⟨v, h⟩ := hp
  obtain ⟨a, cap, rfl⟩ := h.slice
  obtain ⟨m, hm⟩ : ∃ m, m = l.length := ⟨_, rfl⟩
  have hc := h.cell
  rw [← hm] at hc hl hfull
  have hd : decide (128 < (m : Int) + n) = true := by simp; omega
  clear h hm
  go_enter Try.func41, Try.ntmps41
  go_wp2
  go_ret
  exact ⟨rfl, rfl⟩
set_option maxHeartbeats 1000000 in
theorem refPushR (G : Nat → Nat) (i D : Nat) (l m : List (Int × Int)) (xa : Option Addr) (n c : Nat) (w : World) (hp : ER w G i D l) (hn : m.length = n) (hroom : l.length + n ≤ 128) (hr : Reads w xa (cellsR m)) :
    Calls Try.prog 41 #[.pointer (some ⟨D, 0, none⟩), .slice xa n c] w fun e w' => e = .returned (.int .i64 0) ∧ ∃ G', Adv (· = i) w G w' G' ∧ ER w' G' i D (l ++ m) := by
  obtain ⟨v, h⟩ := hp
  obtain ⟨a, cap, rfl⟩ := h.slice
  obtain ⟨k, hk⟩ : ∃ k, k = l.length := ⟨_, rfl⟩
  rw [← hk] at h hroom
  have hc := h.cell
  have hf := h.frozen
  have hd : decide (128 < (k : Int) + n) = false := by simp; omega
  obtain ⟨i0, hi, hz0, hz1, hz2⟩ := info_parts Try.info43
  have HP := Lib.hid h
  have HK := Lib.hid hk
  have HN := Lib.hid hn
  have HR := Lib.hid hr
  have hD := h.lt
  have hrl := h.reads.1.alloc (.cells #[] 43)
  have hA0 := (Adv.refl (fun i => i = 1) w (fun _ => 0)).alloc (.cells #[] 43) 1
  have hR0 := Row.new w (fun _ => 0) 43 2 1 0 [] (Nat.zero_le _) rfl
  obtain ⟨G1, hG1⟩ : ∃ G1, G1 = own1 w (fun _ => 0) 1 := ⟨_, rfl⟩
  rw [← hG1] at hA0 hR0
  have HA0 := Lib.hid hA0
  have HR0 := Lib.hid hR0
  have HRL := Lib.hid hrl
  clear h hk hn hr hrl hA0 hR0 hG1
  have hk256 : k ≤ 128 := by omega
  go_enter Try.func41, Try.ntmps41
  go_wp2_with (first
    | (at_builtin; refine wpList_append_reads rfl (.tmp 15) (.tmp 19) 36 rfl 43 i0 (.agg #[.int .i64 0, .int .u16 0]) 2 16 Try.underlying36 hi hz0 hz1 hz2 rfl (by decide) G1 1 (some ⟨w.heap.size, 0, none⟩) 0 0 [] rfl HR0.out a k cap (cellsR l) rfl (by rw [cellsR_length, ← HK.out]) HRL.out (cellsR_one l) (by unfold maxLen; omega) (by omega) ?_; intro va1 vc1 w1 G2 h1 h2; rw [Nat.zero_add, List.nil_append] at h1; rw [Nat.zero_add]; have HR1 := Lib.hid h1; have HA1 := Lib.hid (HA0.out.trans h2); clear h1 h2)
    | (at_builtin; refine wpList_append_reads rfl (.tmp 20) (.tmp 21) 36 rfl 43 i0 (.agg #[.int .i64 0, .int .u16 0]) 2 16 Try.underlying36 hi hz0 hz1 hz2 rfl (by decide) G2 1 va1 k vc1 (cellsR l) rfl HR1.out xa n c (cellsR m) rfl (by rw [cellsR_length, HN.out]) (HR.out.adv HA1.out (fun _ _ => by omega)) (cellsR_one m) (by unfold maxLen; omega) (by omega) ?_; intro va2 vc2 w2 G3 h1 h2; have hc2 := (HA1.out.trans h2).cell_some hc (by show ¬ (0 = 1); omega); have hf2 : w2.frozen? ⟨D, 0, none⟩ = false := (World.frozen?_of_block ((HA1.out.trans h2).keep D hD (by show ¬ (0 = 1); omega))).trans hf; have HR2 := Lib.hid h1; have HA2 := Lib.hid (HA1.out.trans h2); clear h1 h2))
  go_ret
  have hne : (Value.slice va2 (k + n) vc2).ownBlock ≠ some D := by
    intro e
    have h1 := HR2.out.own D e
    rw [HA2.out.own D hD] at h1
    exact absurd h1 (by show ¬ (0 = 1); omega)
  have ha : Adv (fun _ => False) w G w2 (named w G G3 i 0) := HA2.out.relabel (fun _ _ => by omega) (fun _ hb => named_old hb)
  have hr : Row 43 2 w2 (named w G G3 i 0) i (.slice va2 (k + n) vc2) (k + n) (cellsR l ++ cellsR m) := ⟨HR2.out.row, fun b e => named_1 HA2.out b (HR2.out.row.lt b e).2 (HR2.out.own b e)⟩
  have hput := HP.out.put ha hr hne
  exact ⟨rfl, _, hput.1, _, by rw [List.length_append, cellsR_append, ← HK.out, HN.out]; exact hput.2⟩

theorem refAt_out (D : Nat) (a : Option Addr) (m cap : Nat) (n kind : Int) (w : World) (hc : w.cell? ⟨D, 0, none⟩ = some (.slice a m cap)) (hn : n < 0 ∨ (m : Int) ≤ n) :
    Calls Try.prog 43 #[.pointer (some ⟨D, 0, none⟩), .int .i64 n, .int .i64 kind] w fun e w' => e = .returned (.tuple #[.int .u16 0, .int .i64 3]) ∧ w = w' := by
  by_cases h1 : n < 0
  · have h2 : decide (n < 0) = true := by simpa using h1
    go_enter Try.func43, Try.ntmps43
    go_wp2
    go_ret2
    exact ⟨rfl, rfl⟩
  · have h2 : decide (n < 0) = false := by simpa using h1
    have h3 : decide ((m : Int) ≤ n) = true := by simp; omega
    go_enter Try.func43, Try.ntmps43
    go_wp2
    go_ret2
    exact ⟨rfl, rfl⟩
set_option maxHeartbeats 1000000 in
theorem refAt_same (D g : Nat) (m cap j k : Nat) (c1 c2 : Int) (w : World) (hc : w.cell? ⟨D, 0, none⟩ = some (.slice (some ⟨g, 0, none⟩) m cap)) (hm : m ≤ 100000) (hj : j + k + 1 = m)
    (h1 : w.cell? ⟨g, k * 2, none⟩ = some (.int .i64 c1)) (h2 : w.cell? ⟨g, k * 2 + 1, none⟩ = some (.int .u16 c2)) :
    Calls Try.prog 43 #[.pointer (some ⟨D, 0, none⟩), .int .i64 j, .int .i64 c1] w fun e w' => e = .returned (.tuple #[.int .u16 c2, .int .i64 0]) ∧ w' = (w.alloc (.cells #[.int .i64 c1, .int .u16 c2] 43)).drew := by
  have hd1 : decide ((j : Int) < 0) = false := by simp
  have hd2 : decide (m ≤ j) = false := by simp; omega
  have hw1 : IntKind.i64.wrap ((m : Int) - 1) = (m : Int) - 1 := IntWalk.i64_in _ (by omega)
  have hw2 : IntKind.i64.wrap ((m : Int) - 1 - (j : Int)) = (k : Int) := by
    rw [IntWalk.i64_in _ (by omega)]; omega
  have hk0 : (0 : Int) ≤ (k : Int) := Int.natCast_nonneg _
  have hk1 : (k : Int) < (m : Int) := by omega
  have hg := World.block_lt_of_cell? w _ h1
  have hD := World.block_lt_of_cell? w _ hc
  clear hj
  go_enter Try.func43, Try.ntmps43
  go_wp2_with fail
  go_region
  all_goals (go_wp2; go_ret2; exact ⟨rfl, rfl⟩)
set_option maxHeartbeats 1000000 in
theorem refAt_other (D g : Nat) (m cap j k : Nat) (kind c1 c2 : Int) (hb : (c1 != kind) = true) (w : World) (hc : w.cell? ⟨D, 0, none⟩ = some (.slice (some ⟨g, 0, none⟩) m cap)) (hm : m ≤ 100000) (hj : j + k + 1 = m)
    (h1 : w.cell? ⟨g, k * 2, none⟩ = some (.int .i64 c1)) (h2 : w.cell? ⟨g, k * 2 + 1, none⟩ = some (.int .u16 c2)) :
    Calls Try.prog 43 #[.pointer (some ⟨D, 0, none⟩), .int .i64 j, .int .i64 kind] w fun e w' => e = .returned (.tuple #[.int .u16 0, .int .i64 5]) ∧ w' = (w.alloc (.cells #[.int .i64 c1, .int .u16 c2] 43)).drew := by
  have hd1 : decide ((j : Int) < 0) = false := by simp
  have hd2 : decide (m ≤ j) = false := by simp; omega
  have hw1 : IntKind.i64.wrap ((m : Int) - 1) = (m : Int) - 1 := IntWalk.i64_in _ (by omega)
  have hw2 : IntKind.i64.wrap ((m : Int) - 1 - (j : Int)) = (k : Int) := by
    rw [IntWalk.i64_in _ (by omega)]; omega
  have hk0 : (0 : Int) ≤ (k : Int) := Int.natCast_nonneg _
  have hk1 : (k : Int) < (m : Int) := by omega
  have hg := World.block_lt_of_cell? w _ h1
  have hD := World.block_lt_of_cell? w _ hc
  have hk : ¬ c1 = kind := by simpa using hb
  clear hj
  go_enter Try.func43, Try.ntmps43
  go_wp2_with fail
  go_region
  all_goals (go_wp2; go_ret2; exact ⟨rfl, rfl⟩)

/-- At, as the document has it. -/
theorem refAt (G : Nat → Nat) (i D : Nat) (l : List (Int × Int)) (n kind : Int) (w : World) (hp : ER w G i D l) (hm : l.length ≤ 100000) :
    Calls Try.prog 43 #[.pointer (some ⟨D, 0, none⟩), .int .i64 n, .int .i64 kind] w fun e w' => e = .returned (.tuple #[.int .u16 (atV l n kind), .int .i64 (atE l n kind)]) ∧ ∃ G', Adv (fun _ => False) w G w' G' := by
  obtain ⟨v, h⟩ := hp
  obtain ⟨a, cap, rfl⟩ := h.slice
  by_cases hn : 0 ≤ n ∧ n < l.length
  · obtain ⟨j, rfl⟩ : ∃ j : Nat, n = j := ⟨n.toNat, by omega⟩
    obtain ⟨k, hk⟩ : ∃ k : Nat, j + k + 1 = l.length := ⟨l.length - 1 - j, by omega⟩
    obtain ⟨c, hc⟩ : ∃ c, l[k]? = some c := ⟨l[k]'(by omega), by simp⟩
    obtain ⟨g, rfl, _, _, _, _, h1, h2, _, _⟩ := h.atR k c hc
    rw [atV_in (by omega) hc, atE_in (by omega) hc]
    by_cases e : c.1 = kind
    · rw [if_pos e, if_pos e, ← e]
      refine (refAt_same D g l.length cap j k c.1 c.2 w h.cell hm hk h1 h2).mono ?_
      rintro e w' ⟨rfl, rfl⟩
      exact ⟨rfl, _, ((Adv.refl _ w G).alloc _ 0).drew⟩
    · rw [if_neg e, if_neg e]
      refine (refAt_other D g l.length cap j k kind c.1 c.2 (by simpa using e) w h.cell hm hk h1 h2).mono ?_
      rintro e w' ⟨rfl, rfl⟩
      exact ⟨rfl, _, ((Adv.refl _ w G).alloc _ 0).drew⟩
  · rw [(at_out (by omega)).1, (at_out (by omega)).2]
    refine (refAt_out D a l.length cap n kind w h.cell (by omega)).mono ?_
    rintro e w' ⟨rfl, rfl⟩
    exact ⟨rfl, G, Adv.refl _ _ _⟩

theorem refPopR_not (G : Nat → Nat) (i D : Nat) (l : List (Int × Int)) (kind : Int) (w : World) (hp : ER w G i D l) (hm : l.length ≤ 100000) (hne : (atE l 0 kind == 0) = false) :
    Calls Try.prog 42 #[.pointer (some ⟨D, 0, none⟩), .int .i64 kind] w fun e w' => e = .returned (.tuple #[.int .u16 (atV l 0 kind), .int .i64 (atE l 0 kind)]) ∧ ∃ G', Adv (fun _ => False) w G w' G' := by
  have HP := Lib.hid hp
  clear hp
  go_enter Try.func42, Try.ntmps42
  go_wp2_with (go_at_call 43; refine (refAt G i D l 0 kind _ HP.out hm).mono ?_; rintro e w' ⟨rfl, ha⟩; have HA := Lib.hid ha; clear ha)
  go_ret2
  exact ⟨rfl, HA.out⟩
set_option maxHeartbeats 1000000 in
theorem refPopR (G : Nat → Nat) (i D : Nat) (l : List (Int × Int)) (c : Int × Int) (w : World) (hp : ER w G i D (l ++ [c])) (hm : l.length < 1000) :
    Calls Try.prog 42 #[.pointer (some ⟨D, 0, none⟩), .int .i64 c.1] w fun e w' => e = .returned (.tuple #[.int .u16 c.2, .int .i64 0]) ∧ ∃ G', Adv (· = i) w G w' G' ∧ ER w' G' i D l := by
  have h0 : atV (l ++ [c]) 0 c.1 = c.2 := by
    have h := atV_in (l := l ++ [c]) (j := 0) (k := l.length) (kind := c.1) (c := c) (by simp) (by simp)
    simpa using h
  have h1 : atE (l ++ [c]) 0 c.1 = 0 := by
    have h := atE_in (l := l ++ [c]) (j := 0) (k := l.length) (kind := c.1) (c := c) (by simp) (by simp)
    simpa using h
  have HP := Lib.hid hp
  have H0 := Lib.hid h0
  have H1 := Lib.hid h1
  clear hp h0 h1
  go_enter Try.func42, Try.ntmps42
  go_wp2_with fail
  refine (refAt G i D (l ++ [c]) 0 c.1 _ HP.out (by simp; omega)).mono ?_
  rintro e w1 ⟨rfl, G1, ha⟩
  rw [H0.out, H1.out]
  obtain ⟨v, h⟩ := HP.out.adv ha id
  obtain ⟨a, cap, rfl⟩ := h.slice
  rw [List.length_append] at h
  obtain ⟨m, hm2⟩ : ∃ m, m = l.length := ⟨_, rfl⟩
  rw [← hm2] at h hm
  have hc := h.cell
  have hf := h.frozen
  rw [show m + [c].length = m + 1 from rfl] at hc
  obtain ⟨g, rfl, hlc, hcap, _⟩ := h.atR m c (by rw [hm2]; simp)
  have hmax : cap ≤ 9223372036854775807 := by unfold maxLen at hcap; omega
  have hlc2 : m + 1 ≤ cap := hlc
  have HA := Lib.hid ha
  have HPI := Lib.hid h
  have HM := Lib.hid hm2
  have hw1 : IntKind.i64.wrap ((m : Int) + 1 - 1) = (m : Int) := by rw [IntWalk.i64_in _ (by omega)]; omega
  clear ha h hm2 hcap hlc
  go_wp2_with fail
  go_region
  all_goals
    go_wp2
    go_ret2
    obtain ⟨h1, h2⟩ := HPI.out.cut (m := m) (by simp)
    have h3 := h2 (.inr rfl)
    rw [cellsR_append, List.take_left' (by rw [cellsR_length, HM.out])] at h3
    exact ⟨rfl, G1, ((HA.out.mono (fun _ h => h.elim)).trans h1).drew, _, by rw [← HM.out]; exact h3.drewN 1⟩

theorem refSet_nil (G : Nat → Nat) (i D : Nat) (x : Int) (w : World) (hp : ER w G i D []) : Calls Try.prog 44 #[.pointer (some ⟨D, 0, none⟩), .int .u16 x] w fun e w' => e = .returned (.tuple #[]) ∧ w = w' := by
  obtain ⟨v, h⟩ := hp
  obtain ⟨a, c, rfl⟩ := h.slice
  have hc := h.cell
  rw [List.length_nil] at hc
  clear h
  go_enter Try.func44, Try.ntmps44
  go_wp2
  go_end0
  exact ⟨rfl, rfl⟩
set_option maxHeartbeats 1000000 in
theorem refSet (G : Nat → Nat) (i D : Nat) (l : List (Int × Int)) (c : Int × Int) (x : Int) (w : World) (hp : ER w G i D (l ++ [c])) (hm : l.length < 1000) :
    Calls Try.prog 44 #[.pointer (some ⟨D, 0, none⟩), .int .u16 x] w fun e w' => e = .returned (.tuple #[]) ∧ ∃ G', Adv (· = i) w G w' G' ∧ ER w' G' i D (l ++ [(c.1, x)]) := by
  obtain ⟨v, h⟩ := hp
  obtain ⟨a, cap, rfl⟩ := h.slice
  obtain ⟨m, hm2⟩ : ∃ m, m = l.length := ⟨_, rfl⟩
  rw [List.length_append] at h
  rw [← hm2] at h hm
  rw [show m + [c].length = m + 1 from rfl] at h
  have hc := h.cell
  have hf := h.frozen
  obtain ⟨i0, hi, hz0, hz1, hz2⟩ := info_parts Try.info43
  have hD := h.lt
  have hpos : decide ((0 : Int) < (m : Int) + 1) = true := by simp only [decide_eq_true_eq]; omega
  have hrl := h.reads.1.alloc (.cells #[] 43)
  have hA0 := (Adv.refl (fun i => i = 1) w (fun _ => 0)).alloc (.cells #[] 43) 1
  have hR0 := Row.new w (fun _ => 0) 43 2 1 0 [] (Nat.zero_le _) rfl
  obtain ⟨G1, hG1⟩ : ∃ G1, G1 = own1 w (fun _ => 0) 1 := ⟨_, rfl⟩
  rw [← hG1] at hA0 hR0
  have HP := Lib.hid h
  have HM := Lib.hid hm2
  have HA0 := Lib.hid hA0
  have HR0 := Lib.hid hR0
  have HRL := Lib.hid hrl
  clear h hm2 hrl hA0 hR0 hG1
  go_enter Try.func44, Try.ntmps44
  go_upto_region 3 with (at_builtin; refine wpList_append_reads rfl (.tmp 13) (.tmp 17) 36 rfl 43 i0 (.agg #[.int .i64 0, .int .u16 0]) 2 16 Try.underlying36 hi hz0 hz1 hz2 rfl (by decide) G1 1 (some ⟨w.heap.size, 0, none⟩) 0 0 [] rfl HR0.out a (m + 1) cap (cellsR (l ++ [c])) rfl (by rw [cellsR_length, List.length_append, ← HM.out]; rfl) HRL.out (cellsR_one _) (by unfold maxLen; omega) (by omega) ?_; intro va1 vc1 w1 G2 h1 h2; rw [Nat.zero_add, List.nil_append] at h1; rw [Nat.zero_add]; have hc2 := (HA0.out.trans h2).cell_some hc (by show ¬ (0 = 1); omega); have hf2 : w1.frozen? ⟨D, 0, none⟩ = false := (World.frozen?_of_block ((HA0.out.trans h2).keep D hD (by show ¬ (0 = 1); omega))).trans hf; have HR1 := Lib.hid h1; have HA1 := Lib.hid (HA0.out.trans h2); clear h1 h2)
  have hne : (Value.slice va1 (m + 1) vc1).ownBlock ≠ some D := by
    intro e
    have h1 := HR1.out.own D e
    rw [HA1.out.own D hD] at h1
    exact absurd h1 (by show ¬ (0 = 1); omega)
  have ha : Adv (fun _ => False) w G w1 (named w G G2 i 0) := HA1.out.relabel (fun _ _ => by omega) (fun _ hb => named_old hb)
  have hr : Row 43 2 w1 (named w G G2 i 0) i (.slice va1 (m + 1) vc1) (m + 1) (cellsR (l ++ [c])) := ⟨HR1.out.row, fun b e => named_1 HA1.out b (HR1.out.row.lt b e).2 (HR1.out.own b e)⟩
  have hput := HP.out.put ha hr hne
  have hat := hput.2.atR m c (by rw [HM.out]; simp)
  obtain ⟨g, rfl, hlc, hcap, hgl, hgi, e1, e2, f1, f2⟩ := hat
  have hc3 := hput.2.cell
  have HPUT := Lib.hid hput
  have hmax : vc1 ≤ 9223372036854775807 := by unfold maxLen at hcap; omega
  have hm0 : (0 : Int) ≤ (m : Int) := Int.natCast_nonneg _
  clear hput hr ha hne hc2 hf2 hcap
  go_wp2
  go_end0
  have e := HM.out
  subst e
  have hst := HPUT.out.2.store (l.length * 2 + 1) (by rw [cellsR_length]; simp; omega) (.int .u16 x)
  rw [cellsR_set] at hst
  exact ⟨rfl, _, HPUT.out.1.trans hst.1, _, by rw [List.length_append]; exact hst.2⟩
end Go.Proofs.Ytgpimonjdhbdmaa
