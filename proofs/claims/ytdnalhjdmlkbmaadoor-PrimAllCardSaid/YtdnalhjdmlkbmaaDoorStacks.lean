/- Push and Cells of both stacks in one form each; Stacks. -/
import Derived.Test.YtdnalhjdmlkbmaaDoorRet
namespace Go.Proofs.YtdnalhjdmlkbmaaDoor
open Go.RowKit

theorem pushU_ok (T : Nat) (G : Nat → Nat) (i D : Nat) (v : Value) (n : Nat) (xs : List Value) (xa : Option Addr) (m c : Nat) (news : List Value) (w : World) (hp : Pile 41 T 1 w G i D v n xs)
    (hroom : n + m ≤ 256) (hl : news.length = m) (hnews : Reads w xa news) (hone : ∀ u ∈ news, u.oneCell' = true) :
    Calls Tryd.prog 30 #[.pointer (some ⟨D, 0, none⟩), .slice xa m c] w fun e w' => e = .returned (.int .i64 0) ∧
      ∃ G' v', Adv (· = i) w G w' G' ∧ Pile 41 T 1 w' G' i D v' (n + m) (xs ++ news) := by
  obtain ⟨a, cap, rfl⟩ := hp.slice
  rcases Nat.eq_zero_or_pos m with rfl | hpos
  · obtain rfl := List.eq_nil_of_length_eq_zero hl
    refine (pushU_none D xa c w).mono ?_
    rintro e w' ⟨rfl, rfl⟩
    exact ⟨rfl, G, _, Adv.refl _ _ _, by simpa using hp⟩
  · obtain ⟨b, o, rfl, hnews, _⟩ := hnews.some (by rintro rfl; simp at hl; omega)
    exact pushU_room T G i D a n cap xs _ m c news w hp (by omega) hpos (by omega) hl (Reads.add hnews) hone
theorem pushU_no (T : Nat) (G : Nat → Nat) (i D : Nat) (v : Value) (n : Nat) (xs : List Value) (xa : Option Addr) (m c : Nat) (w : World) (hp : Pile 41 T 1 w G i D v n xs)
    (hn : n ≤ 256) (hm : m ≤ 9223372036854775807) (hfull : 256 < n + m) :
    Calls Tryd.prog 30 #[.pointer (some ⟨D, 0, none⟩), .slice xa m c] w fun e w' => e = .returned (.int .i64 2) ∧ w = w' := by
  obtain ⟨a, cap, rfl⟩ := hp.slice
  exact pushU_full D a n cap xa m c w hp.cell (by omega) hm (by omega) (by omega)
theorem pushR_ok (T : Nat) (G : Nat → Nat) (i D : Nat) (v : Value) (n : Nat) (xs : List Value) (xa : Option Addr) (m c : Nat) (news : List Value) (w : World) (hp : Pile 59 T 2 w G i D v n xs)
    (hroom : n + m ≤ 128) (hl : news.length = m * 2) (hnews : Reads w xa news) (hone : ∀ u ∈ news, u.oneCell' = true) :
    Calls Tryd.prog 76 #[.pointer (some ⟨D, 0, none⟩), .slice xa m c] w fun e w' => e = .returned (.int .i64 0) ∧
      ∃ G' v', Adv (· = i) w G w' G' ∧ Pile 59 T 2 w' G' i D v' (n + m) (xs ++ news) := by
  obtain ⟨a, cap, rfl⟩ := hp.slice
  rcases Nat.eq_zero_or_pos m with rfl | hpos
  · obtain rfl := List.eq_nil_of_length_eq_zero hl
    refine (pushR_none D xa c w).mono ?_
    rintro e w' ⟨rfl, rfl⟩
    exact ⟨rfl, G, _, Adv.refl _ _ _, by simpa using hp⟩
  · obtain ⟨b, o, rfl, hnews, _⟩ := hnews.some (by rintro rfl; simp at hl; omega)
    exact pushR_room T G i D a n cap xs _ m c news w hp (by omega) hpos (by omega) hl (Reads.add hnews) hone
theorem pushR_no (T : Nat) (G : Nat → Nat) (i D : Nat) (v : Value) (n : Nat) (xs : List Value) (xa : Option Addr) (m c : Nat) (w : World) (hp : Pile 59 T 2 w G i D v n xs)
    (hn : n ≤ 128) (hm : m ≤ 9223372036854775807) (hfull : 128 < n + m) :
    Calls Tryd.prog 76 #[.pointer (some ⟨D, 0, none⟩), .slice xa m c] w fun e w' => e = .returned (.int .i64 4) ∧ w = w' := by
  obtain ⟨a, cap, rfl⟩ := hp.slice
  exact pushR_full D a n cap xa m c w hp.cell (by omega) hm (by omega) (by omega)

set_option maxHeartbeats 400000 in
theorem stacks_noU (G : Nat → Nat) (xa : Option Addr) (m c : Nat) (rv : Value) (w : World) (hm : m ≤ 9223372036854775807) (hbig : 256 < m) :
    Calls Tryd.prog 51 #[.slice xa m c, rv] w fun e w' => e = .returned (.tuple #[.pointer none, .pointer none, .int .i64 2]) ∧ ∃ G', Adv (fun _ => False) w G w' G' := by
  go_enter Tryd.func51, Tryd.ntmps51
  go_wp2_with (go_at_call 30; refine (pushU_no 140 (own1 (w.alloc (.cells #[.slice none 0 0] 140)) (own1 w G 1) 0) 1 w.heap.size (.slice none 0 0) 0 [] xa m c _ ((Pile.made w G 41 140 1 1).alloc _ 0) (by omega) hm (by omega)).mono ?_; rintro e w' ⟨rfl, rfl⟩)
  go_ret3
  exact ⟨rfl, _, ((Adv.refl _ w G).alloc _ 0).alloc _ 0⟩
/-- Two new stacks without cells. -/
theorem two_new (w : World) : ∃ G1, Adv (fun i => i = 1 ∨ i = 2) w (fun _ => 0) ((w.alloc (.cells #[.slice none 0 0] 140)).alloc (.cells #[.slice none 0 0] 144)) G1 ∧
    Pile 41 140 1 ((w.alloc (.cells #[.slice none 0 0] 140)).alloc (.cells #[.slice none 0 0] 144)) G1 1 w.heap.size (.slice none 0 0) 0 [] ∧
    Pile 59 144 2 ((w.alloc (.cells #[.slice none 0 0] 140)).alloc (.cells #[.slice none 0 0] 144)) G1 2 (w.heap.size + 1) (.slice none 0 0) 0 [] := by
  refine ⟨_, ((Adv.refl (fun i => i = 1 ∨ i = 2) w (fun _ => 0)).alloc (.cells #[.slice none 0 0] 140) 1).alloc (.cells #[.slice none 0 0] 144) 2, (Pile.made w (fun _ => 0) 41 140 1 1).alloc (.cells #[.slice none 0 0] 144) 2, ?_⟩
  have h := Pile.made (w.alloc (.cells #[.slice none 0 0] 140)) (own1 w (fun _ => 0) 1) 59 144 2 2
  rwa [show (w.alloc (.cells #[.slice none 0 0] 140)).heap.size = w.heap.size + 1 from by simp] at h

set_option maxHeartbeats 400000 in
theorem stacks_noR (G : Nat → Nat) (xa : Option Addr) (m c : Nat) (xs : List Value) (ya : Option Addr) (k c2 : Nat) (w : World) (hm : m ≤ 256) (hl : xs.length = m) (hx : Reads w xa xs) (hone : ∀ u ∈ xs, u.oneCell' = true)
    (hk : k ≤ 9223372036854775807) (hbig : 128 < k) :
    Calls Tryd.prog 51 #[.slice xa m c, .slice ya k c2] w fun e w' => e = .returned (.tuple #[.pointer none, .pointer none, .int .i64 2]) ∧ ∃ G', Adv (fun _ => False) w G w' G' := by
  obtain ⟨G1, hA, hU, hR⟩ := two_new w
  have hx1 := hx.adv hA (fun _ _ => by omega)
  have HX := Lib.hid hx1
  have HL := Lib.hid hl
  have HA := Lib.hid hA
  have HU := Lib.hid hU
  have HR := Lib.hid hR
  clear hl hA hU hR hx1 hx
  go_enter Tryd.func51, Tryd.ntmps51
  go_wp2_with fail
  refine (pushU_ok 140 G1 1 w.heap.size (.slice none 0 0) 0 [] xa m c xs _ HU.out (by omega) HL.out HX.out hone).mono ?_
  rintro e w' ⟨rfl, G2, v1, ha, hp⟩
  have hR := HR.out.adv ha (by omega)
  have HA2 := Lib.hid (HA.out.trans (ha.mono (fun _ h => .inl h)))
  have HR2 := Lib.hid hR
  clear ha hp hR
  go_wp2_with fail
  refine (pushR_no 144 G2 2 (w.heap.size + 1) (.slice none 0 0) 0 [] ya k c2 _ HR2.out (by omega) hk (by omega)).mono ?_
  rintro e w2 ⟨rfl, rfl⟩
  go_wp2_with fail
  go_ret3
  exact ⟨rfl, named w G G2 0 0, HA2.out.relabel (fun _ _ => by omega) (fun _ hb => named_old hb)⟩

set_option maxHeartbeats 400000 in
theorem stacks_ok (G : Nat → Nat) (i j : Nat) (xa : Option Addr) (m c : Nat) (xs : List Value) (ya : Option Addr) (k c2 : Nat) (l : List (Int × Int)) (w : World) (hm : m ≤ 256) (hl : xs.length = m) (hx : Reads w xa xs) (hone : ∀ u ∈ xs, u.oneCell' = true)
    (hk : k ≤ 128) (hlk : l.length = k) (hy : Reads w ya (cellsR l)) (hgood : ∀ c ∈ l, 1 ≤ c.1 ∧ c.1 ≤ 4) :
    Calls Tryd.prog 51 #[.slice xa m c, .slice ya k c2] w fun e w' => ∃ D R G' vd vr, e = .returned (.tuple #[.pointer (some ⟨D, 0, none⟩), .pointer (some ⟨R, 0, none⟩), .int .i64 0]) ∧ Adv (fun _ => False) w G w' G' ∧
      Pile 41 140 1 w' G' i D vd m xs ∧ Pile 59 144 2 w' G' j R vr k (cellsR l) := by
  obtain ⟨G1, hA, hU, hR⟩ := two_new w
  have hx1 := hx.adv hA (fun _ _ => by omega)
  have HX := Lib.hid hx1
  have HY0 := Lib.hid hy
  have HL := Lib.hid hl
  have HLK := Lib.hid hlk
  have HA := Lib.hid hA
  have HU := Lib.hid hU
  have HR := Lib.hid hR
  have HG := Lib.hid hgood
  clear hl hA hU hR hx1 hx hy hlk hgood
  go_enter Tryd.func51, Tryd.ntmps51
  go_wp2_with fail
  refine (pushU_ok 140 G1 1 w.heap.size (.slice none 0 0) 0 [] xa m c xs _ HU.out (by omega) HL.out HX.out hone).mono ?_
  rintro e w' ⟨rfl, G2, v1, ha, hp⟩
  have hR := HR.out.adv ha (by omega)
  have HA2 := Lib.hid (HA.out.trans (ha.mono (fun _ h => .inl h)))
  have HR2 := Lib.hid hR
  have HU2 := Lib.hid hp
  have HY2 := Lib.hid (HY0.out.adv HA2.out (fun _ _ => by omega))
  clear ha hp hR
  go_wp2_with fail
  refine (pushR_ok 144 G2 2 (w.heap.size + 1) (.slice none 0 0) 0 [] ya k c2 (cellsR l) _ HR2.out (by omega) (by rw [cellsR_length, HLK.out]) HY2.out (cellsR_one l)).mono ?_
  rintro e w2 ⟨rfl, G3, v2, ha, hp⟩
  have HA3 := Lib.hid (HA2.out.trans (ha.mono (fun _ h => .inr h)))
  have HU3 := Lib.hid (HU2.out.adv ha (by omega))
  have HR3 := Lib.hid hp
  have HY3 := Lib.hid (HY0.out.adv HA3.out (fun _ _ => by omega))
  clear ha hp
  go_wp2_with fail
  go_loopw [27] (fun i wr => ∃ n : Nat, n ≤ k ∧ i = .int .i64 n ∧ ∃ Gr, Adv (fun _ => False) w2 G3 wr Gr) (fun i _ => k - (intOf i).toNat)
  case atStart => exact ⟨0, by omega, rfl, G3, Adv.refl _ _ _⟩
  case round =>
    obtain ⟨n, hn, rfl, Gr, har⟩ := hrel
    by_cases hlt : n < k
    · obtain ⟨c, hc⟩ : ∃ c, l[n]? = some c := ⟨l[n]'(by rw [HLK.out]; exact hlt), by simp⟩
      obtain ⟨b, o, hya, hc1, hc2, hb⟩ := (HY0.out.adv (HA3.out.trans (har.mono (fun _ h => h.elim))) (fun _ _ => by omega)).atR n c hc
      have hg := HG.out c (List.mem_of_getElem? hc)
      have hg1 : decide (c.1 < 1) = false := by simp; omega
      have hg2 : decide (4 < c.1) = false := by simp; omega
      clear hc hg
      rw [hya]
      have HAR := Lib.hid har
      clear har
      go_wp2
      go_roundw
      case rel => exact ⟨n + 1, by omega, by go_num, _, HAR.out.alloc _ 0⟩
      case measure => simp [intOf]; omega
    · have hnk : n = k := by omega
      have HAR := Lib.hid har
      have HN := Lib.hid hnk
      clear har hnk
      go_wp2
      go_ret3
      refine ⟨w.heap.size, w.heap.size + 1, named w G Gr i j, v1, v2, rfl, ?_⟩
      have hA := HA3.out.trans (HAR.out.mono (fun _ h => h.elim))
      have hU := HU3.out.adv HAR.out id
      have hR := HR3.out.adv HAR.out id
      simp only [Nat.zero_add, List.nil_append] at hU hR
      exact ⟨hA.relabel (fun _ _ => by omega) (fun _ hb => named_old hb), hU.relabel (named_1 hA), hR.relabel (named_2 hA)⟩

theorem first_bad : ∀ (l : List (Int × Int)), (∃ c ∈ l, ¬ (1 ≤ c.1 ∧ c.1 ≤ 4)) → ∃ (n : Nat) (c : Int × Int), l[n]? = some c ∧ ¬ (1 ≤ c.1 ∧ c.1 ≤ 4) ∧ ∀ (j : Nat) (d : Int × Int), j < n → l[j]? = some d → 1 ≤ d.1 ∧ d.1 ≤ 4
  | [], h => by obtain ⟨c, h, _⟩ := h; simp at h
  | a :: l, h => by
    by_cases ha : 1 ≤ a.1 ∧ a.1 ≤ 4
    · obtain ⟨c, hc, hb⟩ := h
      have hcl : c ∈ l := by
        rcases List.mem_cons.1 hc with rfl | h
        · exact absurd ha hb
        · exact h
      obtain ⟨n, d, h1, h2, h3⟩ := first_bad l ⟨c, hcl, hb⟩
      refine ⟨n + 1, d, (List.getElem?_cons_succ).trans h1, h2, fun j e hj he => ?_⟩
      cases j with
      | zero => simp at he; subst he; exact ha
      | succ j => exact h3 j e (by omega) (by simpa using he)
    · exact ⟨0, a, rfl, ha, fun j d hj => by omega⟩

set_option maxHeartbeats 400000 in
theorem stacks_bad (G : Nat → Nat) (xa : Option Addr) (m c : Nat) (xs : List Value) (ya : Option Addr) (k c2 : Nat) (l : List (Int × Int)) (w : World) (hm : m ≤ 256) (hl : xs.length = m) (hx : Reads w xa xs) (hone : ∀ u ∈ xs, u.oneCell' = true)
    (hk : k ≤ 128) (hlk : l.length = k) (hy : Reads w ya (cellsR l)) (hbad : ∃ c ∈ l, ¬ (1 ≤ c.1 ∧ c.1 ≤ 4)) :
    Calls Tryd.prog 51 #[.slice xa m c, .slice ya k c2] w fun e w' => e = .returned (.tuple #[.pointer none, .pointer none, .int .i64 2]) ∧ ∃ G', Adv (fun _ => False) w G w' G' := by
  obtain ⟨n0, c0, hn0, hc0, hbef⟩ := first_bad l hbad
  have hn0k : n0 < k := by rw [← hlk]; exact (List.getElem?_eq_some_iff.1 hn0).1
  obtain ⟨G1, hA, hU, hR⟩ := two_new w
  have hx1 := hx.adv hA (fun _ _ => by omega)
  have HX := Lib.hid hx1
  have HY0 := Lib.hid hy
  have HL := Lib.hid hl
  have HLK := Lib.hid hlk
  have HA := Lib.hid hA
  have HU := Lib.hid hU
  have HR := Lib.hid hR
  have HN := Lib.hid hn0
  have HC := Lib.hid hc0
  have HB := Lib.hid hbef
  clear hl hA hU hR hx1 hx hy hlk hbad hn0 hc0 hbef
  go_enter Tryd.func51, Tryd.ntmps51
  go_wp2_with fail
  refine (pushU_ok 140 G1 1 w.heap.size (.slice none 0 0) 0 [] xa m c xs _ HU.out (by omega) HL.out HX.out hone).mono ?_
  rintro e w' ⟨rfl, G2, v1, ha, hp⟩
  have hR := HR.out.adv ha (by omega)
  have HA2 := Lib.hid (HA.out.trans (ha.mono (fun _ h => .inl h)))
  have HR2 := Lib.hid hR
  have HY2 := Lib.hid (HY0.out.adv HA2.out (fun _ _ => by omega))
  clear ha hp hR
  go_wp2_with fail
  refine (pushR_ok 144 G2 2 (w.heap.size + 1) (.slice none 0 0) 0 [] ya k c2 (cellsR l) _ HR2.out (by omega) (by rw [cellsR_length, HLK.out]) HY2.out (cellsR_one l)).mono ?_
  rintro e w2 ⟨rfl, G3, v2, ha, hp⟩
  have HA3 := Lib.hid (HA2.out.trans (ha.mono (fun _ h => .inr h)))
  clear ha hp
  go_wp2_with fail
  go_loopw [27] (fun i wr => ∃ n : Nat, n ≤ n0 ∧ i = .int .i64 n ∧ ∃ Gr, Adv (fun _ => False) w2 G3 wr Gr) (fun i _ => k - (intOf i).toNat)
  case atStart => exact ⟨0, by omega, rfl, G3, Adv.refl _ _ _⟩
  case round =>
    obtain ⟨n, hn, rfl, Gr, har⟩ := hrel
    have hlt : n < k := by omega
    obtain ⟨c, hc⟩ : ∃ c, l[n]? = some c := ⟨l[n]'(by rw [HLK.out]; exact hlt), by simp⟩
    obtain ⟨b, o, hya, hc1, hc2, hb⟩ := (HY0.out.adv (HA3.out.trans (har.mono (fun _ h => h.elim))) (fun _ _ => by omega)).atR n c hc
    rw [hya]
    have HAR := Lib.hid har
    have HCC := Lib.hid hc
    clear har hc
    by_cases hnn : n < n0
    · have hg := HB.out n c hnn HCC.out
      have hg1 : decide (c.1 < 1) = false := by simp; omega
      have hg2 : decide (4 < c.1) = false := by simp; omega
      clear hg
      go_wp2
      go_roundw
      case rel => exact ⟨n + 1, by omega, by go_num, _, HAR.out.alloc _ 0⟩
      case measure => simp [intOf]; omega
    · have hcc : c = c0 := by
        have h1 := HCC.out
        have h2 := HN.out
        rw [show n = n0 from by omega, h2] at h1
        simpa using h1.symm
      have hbb := HC.out
      rw [← hcc] at hbb
      clear hcc hn hnn
      by_cases hg1 : c.1 < 1
      · have hg1' : decide (c.1 < 1) = true := by simpa using hg1
        clear hbb
        go_wp2
        go_ret3
        exact ⟨rfl, named w G (own1 wr Gr 0) 0 0, (HA3.out.trans ((HAR.out.alloc _ 0).mono (fun _ h => h.elim))).relabel (fun _ _ => by omega) (fun _ hb => named_old hb)⟩
      · have hg1' : decide (c.1 < 1) = false := by simpa using hg1
        have hg2' : decide (4 < c.1) = true := by simp; omega
        clear hbb
        go_wp2
        go_ret3
        exact ⟨rfl, named w G (own1 wr Gr 0) 0 0, (HA3.out.trans ((HAR.out.alloc _ 0).mono (fun _ h => h.elim))).relabel (fun _ _ => by omega) (fun _ hb => named_old hb)⟩
end Go.Proofs.YtdnalhjdmlkbmaaDoor
