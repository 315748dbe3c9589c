/- Push and Cells of both stacks in one form each; Stacks; The two stacks as lists of numbers: contracts in one form; wisplaw06.born, of cells of the data stack alone: the program's side; wisplaw06.born, of cells of both stacks: the program's side; The desk that a primitive works on: taken, and what a shuffle does; The cells of a program's memory, one by one; Load; Cell; Store; Store into a bank; Store at the port that plays; Store, at every address; SetCell; SetCell; Plot, Play, Choose, Pad; Bytes and cells are within their ranges; two bytes make a cell; A desk over the two stacks and a memory, all at once; what each call leaves of it. -/
import Derived.Deep.RegionHeld3
import Derived.Deep.DeepCutAuto
import Derived.Test.YtdnalhjdmlkbmaaGreatDoorPrimPlaysU1
import Derived.Test.YtdnalhjdmlkbmaaGreatDoorPrimPlaysU2
set_option linter.unusedVariables false
set_option linter.unusedSimpArgs false
set_option linter.unnecessarySimpa false
namespace Go.Proofs.YtdnalhjdmlkbmaaGreatDoor
open Go.RowKit

theorem pushU_ok (T : Nat) (G : Nat → Nat) (i D : Nat) (v : Value) (n : Nat) (xs : List Value) (xa : Option Addr) (m c : Nat) (news : List Value) (w : World) (hp : Pile 31 T 1 w G i D v n xs)
    (hroom : n + m ≤ 256) (hl : news.length = m) (hnews : Reads w xa news) (hone : ∀ u ∈ news, u.oneCell' = true) :
    Calls Tryz.prog 39 #[.pointer (some ⟨D, 0, none⟩), .slice xa m c] w fun e w' => e = .returned (.int .i64 0) ∧
      ∃ G' v', Adv (· = i) w G w' G' ∧ Pile 31 T 1 w' G' i D v' (n + m) (xs ++ news) := by
  obtain ⟨a, cap, rfl⟩ := hp.slice
  rcases Nat.eq_zero_or_pos m with rfl | hpos
  · obtain rfl := List.eq_nil_of_length_eq_zero hl
    refine (pushU_none D xa c w).mono ?_
    rintro e w' ⟨rfl, rfl⟩
    exact ⟨rfl, G, _, Adv.refl _ _ _, by simpa using hp⟩
  · obtain ⟨b, o, rfl, hnews, _⟩ := hnews.some (by rintro rfl; simp at hl; omega)
    exact pushU_room T G i D a n cap xs _ m c news w hp (by omega) hpos (by omega) hl (Reads.add hnews) hone
theorem pushU_no (T : Nat) (G : Nat → Nat) (i D : Nat) (v : Value) (n : Nat) (xs : List Value) (xa : Option Addr) (m c : Nat) (w : World) (hp : Pile 31 T 1 w G i D v n xs)
    (hn : n ≤ 256) (hm : m ≤ 9223372036854775807) (hfull : 256 < n + m) :
    Calls Tryz.prog 39 #[.pointer (some ⟨D, 0, none⟩), .slice xa m c] w fun e w' => e = .returned (.int .i64 2) ∧ w = w' := by
  obtain ⟨a, cap, rfl⟩ := hp.slice
  exact pushU_full D a n cap xa m c w hp.cell (by omega) hm (by omega) (by omega)
theorem pushR_ok (T : Nat) (G : Nat → Nat) (i D : Nat) (v : Value) (n : Nat) (xs : List Value) (xa : Option Addr) (m c : Nat) (news : List Value) (w : World) (hp : Pile 111 T 2 w G i D v n xs)
    (hroom : n + m ≤ 128) (hl : news.length = m * 2) (hnews : Reads w xa news) (hone : ∀ u ∈ news, u.oneCell' = true) :
    Calls Tryz.prog 41 #[.pointer (some ⟨D, 0, none⟩), .slice xa m c] w fun e w' => e = .returned (.int .i64 0) ∧
      ∃ G' v', Adv (· = i) w G w' G' ∧ Pile 111 T 2 w' G' i D v' (n + m) (xs ++ news) := by
  obtain ⟨a, cap, rfl⟩ := hp.slice
  rcases Nat.eq_zero_or_pos m with rfl | hpos
  · obtain rfl := List.eq_nil_of_length_eq_zero hl
    refine (pushR_none D xa c w).mono ?_
    rintro e w' ⟨rfl, rfl⟩
    exact ⟨rfl, G, _, Adv.refl _ _ _, by simpa using hp⟩
  · obtain ⟨b, o, rfl, hnews, _⟩ := hnews.some (by rintro rfl; simp at hl; omega)
    exact pushR_room T G i D a n cap xs _ m c news w hp (by omega) hpos (by omega) hl (Reads.add hnews) hone
theorem pushR_no (T : Nat) (G : Nat → Nat) (i D : Nat) (v : Value) (n : Nat) (xs : List Value) (xa : Option Addr) (m c : Nat) (w : World) (hp : Pile 111 T 2 w G i D v n xs)
    (hn : n ≤ 128) (hm : m ≤ 9223372036854775807) (hfull : 128 < n + m) :
    Calls Tryz.prog 41 #[.pointer (some ⟨D, 0, none⟩), .slice xa m c] w fun e w' => e = .returned (.int .i64 4) ∧ w = w' := by
  obtain ⟨a, cap, rfl⟩ := hp.slice
  exact pushR_full D a n cap xa m c w hp.cell (by omega) hm (by omega) (by omega)

set_option maxHeartbeats 400000 in
theorem stacks_noU (G : Nat → Nat) (xa : Option Addr) (m c : Nat) (rv : Value) (w : World) (hm : m ≤ 9223372036854775807) (hbig : 256 < m) :
    Calls Tryz.prog 49 #[.slice xa m c, rv] w fun e w' => e = .returned (.tuple #[.pointer none, .pointer none, .int .i64 2]) ∧ ∃ G', Adv (fun _ => False) w G w' G' := by
  go_enter Tryz.func49, Tryz.ntmps49
  go_wp2_with (go_at_call 39; refine (pushU_no 128 (own1 (w.alloc (.cells #[.slice none 0 0] 128)) (own1 w G 1) 0) 1 w.heap.size (.slice none 0 0) 0 [] xa m c _ ((Pile.made w G 31 128 1 1).alloc _ 0) (by omega) hm (by omega)).mono ?_; rintro e w' ⟨rfl, rfl⟩)
  go_ret3
  exact ⟨rfl, _, ((Adv.refl _ w G).alloc _ 0).alloc _ 0⟩
/-- Two new stacks without cells. -/
theorem two_new (w : World) : ∃ G1, Adv (fun i => i = 1 ∨ i = 2) w (fun _ => 0) ((w.alloc (.cells #[.slice none 0 0] 128)).alloc (.cells #[.slice none 0 0] 132)) G1 ∧
    Pile 31 128 1 ((w.alloc (.cells #[.slice none 0 0] 128)).alloc (.cells #[.slice none 0 0] 132)) G1 1 w.heap.size (.slice none 0 0) 0 [] ∧
    Pile 111 132 2 ((w.alloc (.cells #[.slice none 0 0] 128)).alloc (.cells #[.slice none 0 0] 132)) G1 2 (w.heap.size + 1) (.slice none 0 0) 0 [] := by
  refine ⟨_, ((Adv.refl (fun i => i = 1 ∨ i = 2) w (fun _ => 0)).alloc (.cells #[.slice none 0 0] 128) 1).alloc (.cells #[.slice none 0 0] 132) 2, (Pile.made w (fun _ => 0) 31 128 1 1).alloc (.cells #[.slice none 0 0] 132) 2, ?_⟩
  have h := Pile.made (w.alloc (.cells #[.slice none 0 0] 128)) (own1 w (fun _ => 0) 1) 111 132 2 2
  rwa [show (w.alloc (.cells #[.slice none 0 0] 128)).heap.size = w.heap.size + 1 from by simp] at h

set_option maxHeartbeats 400000 in
theorem stacks_noR (G : Nat → Nat) (xa : Option Addr) (m c : Nat) (xs : List Value) (ya : Option Addr) (k c2 : Nat) (w : World) (hm : m ≤ 256) (hl : xs.length = m) (hx : Reads w xa xs) (hone : ∀ u ∈ xs, u.oneCell' = true)
    (hk : k ≤ 9223372036854775807) (hbig : 128 < k) :
    Calls Tryz.prog 49 #[.slice xa m c, .slice ya k c2] w fun e w' => e = .returned (.tuple #[.pointer none, .pointer none, .int .i64 2]) ∧ ∃ G', Adv (fun _ => False) w G w' G' := by
  obtain ⟨G1, hA, hU, hR⟩ := two_new w
  have hx1 := hx.adv hA (fun _ _ => by omega)
  have HX := Lib.hid hx1
  have HL := Lib.hid hl
  have HA := Lib.hid hA
  have HU := Lib.hid hU
  have HR := Lib.hid hR
  clear hl hA hU hR hx1 hx
  go_enter Tryz.func49, Tryz.ntmps49
  go_wp2_with fail
  refine (pushU_ok 128 G1 1 w.heap.size (.slice none 0 0) 0 [] xa m c xs _ HU.out (by omega) HL.out HX.out hone).mono ?_
  rintro e w' ⟨rfl, G2, v1, ha, hp⟩
  have hR := HR.out.adv ha (by omega)
  have HA2 := Lib.hid (HA.out.trans (ha.mono (fun _ h => .inl h)))
  have HR2 := Lib.hid hR
  clear ha hp hR
  go_wp2_with fail
  refine (pushR_no 132 G2 2 (w.heap.size + 1) (.slice none 0 0) 0 [] ya k c2 _ HR2.out (by omega) hk (by omega)).mono ?_
  rintro e w2 ⟨rfl, rfl⟩
  go_wp2_with fail
  go_ret3
  exact ⟨rfl, named w G G2 0 0, HA2.out.relabel (fun _ _ => by omega) (fun _ hb => named_old hb)⟩

set_option maxHeartbeats 400000 in
theorem stacks_ok (G : Nat → Nat) (i j : Nat) (xa : Option Addr) (m c : Nat) (xs : List Value) (ya : Option Addr) (k c2 : Nat) (l : List (Int × Int)) (w : World) (hm : m ≤ 256) (hl : xs.length = m) (hx : Reads w xa xs) (hone : ∀ u ∈ xs, u.oneCell' = true)
    (hk : k ≤ 128) (hlk : l.length = k) (hy : Reads w ya (cellsR l)) (hgood : ∀ c ∈ l, 1 ≤ c.1 ∧ c.1 ≤ 4) :
    Calls Tryz.prog 49 #[.slice xa m c, .slice ya k c2] w fun e w' => ∃ D R G' vd vr, e = .returned (.tuple #[.pointer (some ⟨D, 0, none⟩), .pointer (some ⟨R, 0, none⟩), .int .i64 0]) ∧ Adv (fun _ => False) w G w' G' ∧
      Pile 31 128 1 w' G' i D vd m xs ∧ Pile 111 132 2 w' G' j R vr k (cellsR l) := by
  obtain ⟨G1, hA, hU, hR⟩ := two_new w
  have hx1 := hx.adv hA (fun _ _ => by omega)
  have HX := Lib.hid hx1
  have HY0 := Lib.hid hy
  have HL := Lib.hid hl
  have HLK := Lib.hid hlk
  have HA := Lib.hid hA
  have HU := Lib.hid hU
  have HR := Lib.hid hR
  have HG := Lib.hid hgood
  clear hl hA hU hR hx1 hx hy hlk hgood
  go_enter Tryz.func49, Tryz.ntmps49
  go_wp2_with fail
  refine (pushU_ok 128 G1 1 w.heap.size (.slice none 0 0) 0 [] xa m c xs _ HU.out (by omega) HL.out HX.out hone).mono ?_
  rintro e w' ⟨rfl, G2, v1, ha, hp⟩
  have hR := HR.out.adv ha (by omega)
  have HA2 := Lib.hid (HA.out.trans (ha.mono (fun _ h => .inl h)))
  have HR2 := Lib.hid hR
  have HU2 := Lib.hid hp
  have HY2 := Lib.hid (HY0.out.adv HA2.out (fun _ _ => by omega))
  clear ha hp hR
  go_wp2_with fail
  refine (pushR_ok 132 G2 2 (w.heap.size + 1) (.slice none 0 0) 0 [] ya k c2 (cellsR l) _ HR2.out (by omega) (by rw [cellsR_length, HLK.out]) HY2.out (cellsR_one l)).mono ?_
  rintro e w2 ⟨rfl, G3, v2, ha, hp⟩
  have HA3 := Lib.hid (HA2.out.trans (ha.mono (fun _ h => .inr h)))
  have HU3 := Lib.hid (HU2.out.adv ha (by omega))
  have HR3 := Lib.hid hp
  have HY3 := Lib.hid (HY0.out.adv HA3.out (fun _ _ => by omega))
  clear ha hp
  go_wp2_with fail
  go_loopw [27] (fun i wr => ∃ n : Nat, n ≤ k ∧ i = .int .i64 n ∧ ∃ Gr, Adv (fun _ => False) w2 G3 wr Gr) (fun i _ => k - (intOf i).toNat)
  case atStart => exact ⟨0, by omega, rfl, G3, Adv.refl _ _ _⟩
  case round =>
    obtain ⟨n, hn, rfl, Gr, har⟩ := hrel
    by_cases hlt : n < k
    · obtain ⟨c, hc⟩ : ∃ c, l[n]? = some c := ⟨l[n]'(by rw [HLK.out]; exact hlt), by simp⟩
      obtain ⟨b, o, hya, hc1, hc2, hb⟩ := (HY0.out.adv (HA3.out.trans (har.mono (fun _ h => h.elim))) (fun _ _ => by omega)).atR n c hc
      have hg := HG.out c (List.mem_of_getElem? hc)
      have hg1 : decide (c.1 < 1) = false := by simp; omega
      have hg2 : decide (4 < c.1) = false := by simp; omega
      clear hc hg
      rw [hya]
      have HAR := Lib.hid har
      clear har
      go_wp2
      go_roundw
      case rel => exact ⟨n + 1, by omega, by go_num, _, HAR.out.alloc _ 0⟩
      case measure => simp [intOf]; omega
    · have hnk : n = k := by omega
      have HAR := Lib.hid har
      have HN := Lib.hid hnk
      clear har hnk
      go_wp2
      go_ret3
      refine ⟨w.heap.size, w.heap.size + 1, named w G Gr i j, v1, v2, rfl, ?_⟩
      have hA := HA3.out.trans (HAR.out.mono (fun _ h => h.elim))
      have hU := HU3.out.adv HAR.out id
      have hR := HR3.out.adv HAR.out id
      simp only [Nat.zero_add, List.nil_append] at hU hR
      exact ⟨hA.relabel (fun _ _ => by omega) (fun _ hb => named_old hb), hU.relabel (named_1 hA), hR.relabel (named_2 hA)⟩

theorem first_bad : ∀ (l : List (Int × Int)), (∃ c ∈ l, ¬ (1 ≤ c.1 ∧ c.1 ≤ 4)) → ∃ (n : Nat) (c : Int × Int), l[n]? = some c ∧ ¬ (1 ≤ c.1 ∧ c.1 ≤ 4) ∧ ∀ (j : Nat) (d : Int × Int), j < n → l[j]? = some d → 1 ≤ d.1 ∧ d.1 ≤ 4
  | [], h => by obtain ⟨c, h, _⟩ := h; simp at h
  | a :: l, h => by
    by_cases ha : 1 ≤ a.1 ∧ a.1 ≤ 4
    · obtain ⟨c, hc, hb⟩ := h
      have hcl : c ∈ l := by
        rcases List.mem_cons.1 hc with rfl | h
        · exact absurd ha hb
        · exact h
      obtain ⟨n, d, h1, h2, h3⟩ := first_bad l ⟨c, hcl, hb⟩
      refine ⟨n + 1, d, (List.getElem?_cons_succ).trans h1, h2, fun j e hj he => ?_⟩
      cases j with
      | zero => simp at he; subst he; exact ha
      | succ j => exact h3 j e (by omega) (by simpa using he)
    · exact ⟨0, a, rfl, ha, fun j d hj => by omega⟩

set_option maxHeartbeats 400000 in
theorem stacks_bad (G : Nat → Nat) (xa : Option Addr) (m c : Nat) (xs : List Value) (ya : Option Addr) (k c2 : Nat) (l : List (Int × Int)) (w : World) (hm : m ≤ 256) (hl : xs.length = m) (hx : Reads w xa xs) (hone : ∀ u ∈ xs, u.oneCell' = true)
    (hk : k ≤ 128) (hlk : l.length = k) (hy : Reads w ya (cellsR l)) (hbad : ∃ c ∈ l, ¬ (1 ≤ c.1 ∧ c.1 ≤ 4)) :
    Calls Tryz.prog 49 #[.slice xa m c, .slice ya k c2] w fun e w' => e = .returned (.tuple #[.pointer none, .pointer none, .int .i64 2]) ∧ ∃ G', Adv (fun _ => False) w G w' G' := by
  obtain ⟨n0, c0, hn0, hc0, hbef⟩ := first_bad l hbad
  have hn0k : n0 < k := by rw [← hlk]; exact (List.getElem?_eq_some_iff.1 hn0).1
  obtain ⟨G1, hA, hU, hR⟩ := two_new w
  have hx1 := hx.adv hA (fun _ _ => by omega)
  have HX := Lib.hid hx1
  have HY0 := Lib.hid hy
  have HL := Lib.hid hl
  have HLK := Lib.hid hlk
  have HA := Lib.hid hA
  have HU := Lib.hid hU
  have HR := Lib.hid hR
  have HN := Lib.hid hn0
  have HC := Lib.hid hc0
  have HB := Lib.hid hbef
  clear hl hA hU hR hx1 hx hy hlk hbad hn0 hc0 hbef
  go_enter Tryz.func49, Tryz.ntmps49
  go_wp2_with fail
  refine (pushU_ok 128 G1 1 w.heap.size (.slice none 0 0) 0 [] xa m c xs _ HU.out (by omega) HL.out HX.out hone).mono ?_
  rintro e w' ⟨rfl, G2, v1, ha, hp⟩
  have hR := HR.out.adv ha (by omega)
  have HA2 := Lib.hid (HA.out.trans (ha.mono (fun _ h => .inl h)))
  have HR2 := Lib.hid hR
  have HY2 := Lib.hid (HY0.out.adv HA2.out (fun _ _ => by omega))
  clear ha hp hR
  go_wp2_with fail
  refine (pushR_ok 132 G2 2 (w.heap.size + 1) (.slice none 0 0) 0 [] ya k c2 (cellsR l) _ HR2.out (by omega) (by rw [cellsR_length, HLK.out]) HY2.out (cellsR_one l)).mono ?_
  rintro e w2 ⟨rfl, G3, v2, ha, hp⟩
  have HA3 := Lib.hid (HA2.out.trans (ha.mono (fun _ h => .inr h)))
  clear ha hp
  go_wp2_with fail
  go_loopw [27] (fun i wr => ∃ n : Nat, n ≤ n0 ∧ i = .int .i64 n ∧ ∃ Gr, Adv (fun _ => False) w2 G3 wr Gr) (fun i _ => k - (intOf i).toNat)
  case atStart => exact ⟨0, by omega, rfl, G3, Adv.refl _ _ _⟩
  case round =>
    obtain ⟨n, hn, rfl, Gr, har⟩ := hrel
    have hlt : n < k := by omega
    obtain ⟨c, hc⟩ : ∃ c, l[n]? = some c := ⟨l[n]'(by rw [HLK.out]; exact hlt), by simp⟩
    obtain ⟨b, o, hya, hc1, hc2, hb⟩ := (HY0.out.adv (HA3.out.trans (har.mono (fun _ h => h.elim))) (fun _ _ => by omega)).atR n c hc
    rw [hya]
    have HAR := Lib.hid har
    have HCC := Lib.hid hc
    clear har hc
    by_cases hnn : n < n0
    · have hg := HB.out n c hnn HCC.out
      have hg1 : decide (c.1 < 1) = false := by simp; omega
      have hg2 : decide (4 < c.1) = false := by simp; omega
      clear hg
      go_wp2
      go_roundw
      case rel => exact ⟨n + 1, by omega, by go_num, _, HAR.out.alloc _ 0⟩
      case measure => simp [intOf]; omega
    · have hcc : c = c0 := by
        have h1 := HCC.out
        have h2 := HN.out
        rw [show n = n0 from by omega, h2] at h1
        simpa using h1.symm
      have hbb := HC.out
      rw [← hcc] at hbb
      clear hcc hn hnn
      by_cases hg1 : c.1 < 1
      · have hg1' : decide (c.1 < 1) = true := by simpa using hg1
        clear hbb
        go_wp2
        go_ret3
        exact ⟨rfl, named w G (own1 wr Gr 0) 0 0, (HA3.out.trans ((HAR.out.alloc _ 0).mono (fun _ h => h.elim))).relabel (fun _ _ => by omega) (fun _ hb => named_old hb)⟩
      · have hg1' : decide (c.1 < 1) = false := by simpa using hg1
        have hg2' : decide (4 < c.1) = true := by simp; omega
        clear hbb
        go_wp2
        go_ret3
        exact ⟨rfl, named w G (own1 wr Gr 0) 0 0, (HA3.out.trans ((HAR.out.alloc _ 0).mono (fun _ h => h.elim))).relabel (fun _ _ => by omega) (fun _ hb => named_old hb)⟩
end Go.Proofs.YtdnalhjdmlkbmaaGreatDoor
namespace Go.Proofs.YtdnalhjdmlkbmaaGreatDoor
open Go.RowKit

def cellsU (l : List Int) : List Value := l.map (.int .u16)
theorem cellsU_length (l : List Int) : (cellsU l).length = l.length := List.length_map _
theorem cellsU_append (l m : List Int) : cellsU (l ++ m) = cellsU l ++ cellsU m := List.map_append
theorem cellsU_one (l : List Int) : ∀ u ∈ cellsU l, u.oneCell' = true := by
  intro u hu
  simp only [cellsU, List.mem_map] at hu
  obtain ⟨x, _, rfl⟩ := hu; rfl
theorem cellsU_at (l : List Int) (k : Nat) (x : Int) (h : l[k]? = some x) : (cellsU l)[k]? = some (.int .u16 x) := by simp [cellsU, h]
theorem Reads.atU {w : World} {a : Option Addr} {l : List Int} (h : Reads w a (cellsU l)) (k : Nat) (x : Int) (hk : l[k]? = .some x) : ∃ b o, a = .some ⟨b, o, none⟩ ∧ w.cell? ⟨b, o + k, none⟩ = .some (.int .u16 x) ∧ b < w.heap.size := by
  have h1 := cellsU_at l k x hk
  obtain ⟨b, o, rfl, h, hb⟩ := h.some (by intro e; rw [e] at h1; simp at h1)
  exact ⟨b, o, rfl, h _ _ h1, hb⟩

theorem Reads.takeU {w : World} {a : Option Addr} {l : List Int} (h : Reads w a (cellsU l)) (n : Nat) : Reads w a (cellsU (l.take n)) := by
  by_cases he : cellsU (l.take n) = []
  · exact .inl he
  · obtain ⟨b, o, rfl, hr, _⟩ := h.some (fun e => he (by simp only [cellsU, List.map_eq_nil_iff] at e ⊢; rw [e]; simp))
    refine .inr ⟨b, o, rfl, fun j u hu => hr j u ?_⟩
    simp only [cellsU, List.map_take] at hu ⊢
    rw [List.getElem?_take] at hu
    split at hu
    · exact hu
    · cases hu
theorem needF_nat (n : Int) (p q : Int) : needF n p q = needF n p.toNat q.toNat := by
  unfold needF
  rw [show max ((p.toNat : Int)) 0 = max p 0 from by omega, show max ((q.toNat : Int)) 0 = max q 0 from by omega]
theorem madeU (n : Nat) : madeCells (Value.int .u16 0).cells n = (cellsU (List.replicate n 0)).toArray := by
  apply Array.ext
  · simp [madeCells, cellsU]
  · intro i h1 h2
    simp [madeCells, cellsU, Value.cells, Nat.mod_one]
theorem run_makeU (w : World) (n : Nat) (hn : n ≤ 100000000000000) : (Instr.makeSlice 22 (.int .i64 n) (.int .i64 n)).run Tryz.prog w = .ok (.slice (some ⟨w.heap.size, 0, none⟩) n n) (w.alloc (.cells (cellsU (List.replicate n 0)).toArray 31)) := by
  obtain ⟨i0, hi, hz0, hz1, hz2⟩ := info_parts Tryz.info31
  have h := run_make (P := Tryz.prog) w 22 31 i0 (.int .u16 0) Tryz.underlying22 hi hz0 .i64 .i64 n n (by omega) (by omega) (by rw [hz2]; omega) (by omega)
  rwa [hz1, Int.toNat_natCast, Nat.mul_one, madeU] at h
/-- A data stack that holds these numbers; a return stack that holds these cells. -/
def PU (w : World) (G : Nat → Nat) (i D : Nat) (l : List Int) : Prop := ∃ v, Pile 31 128 1 w G i D v l.length (cellsU l)
def PR (w : World) (G : Nat → Nat) (i D : Nat) (l : List (Int × Int)) : Prop := ∃ v, Pile 111 132 2 w G i D v l.length (cellsR l)
theorem PU.adv {w w' : World} {G G' : Nat → Nat} {i D : Nat} {l : List Int} {S : Nat → Prop} (h : PU w G i D l) (ha : Adv S w G w' G') (hs : ¬ S i) : PU w' G' i D l := h.imp fun _ h => h.adv ha hs
theorem PR.adv {w w' : World} {G G' : Nat → Nat} {i D : Nat} {l : List (Int × Int)} {S : Nat → Prop} (h : PR w G i D l) (ha : Adv S w G w' G') (hs : ¬ S i) : PR w' G' i D l := h.imp fun _ h => h.adv ha hs
theorem PU.drewN {w : World} {G : Nat → Nat} {i D : Nat} {l : List Int} (h : PU w G i D l) (d : Nat) : PU (w.drewN d) G i D l := h.imp fun _ h => h.drewN d
theorem PR.drewN {w : World} {G : Nat → Nat} {i D : Nat} {l : List (Int × Int)} (h : PR w G i D l) (d : Nat) : PR (w.drewN d) G i D l := h.imp fun _ h => h.drewN d
theorem PU.drew {w : World} {G : Nat → Nat} {i D : Nat} {l : List Int} (h : PU w G i D l) : PU w.drew G i D l := h.drewN 1
theorem PR.drew {w : World} {G : Nat → Nat} {i D : Nat} {l : List (Int × Int)} (h : PR w G i D l) : PR w.drew G i D l := h.drewN 1
theorem PU.alloc {w : World} {G : Nat → Nat} {i D : Nat} {l : List Int} (h : PU w G i D l) (o : Obj) (k : Nat) : PU (w.alloc o) (own1 w G k) i D l := h.imp fun _ h => h.alloc o k
theorem PR.alloc {w : World} {G : Nat → Nat} {i D : Nat} {l : List (Int × Int)} (h : PR w G i D l) (o : Obj) (k : Nat) : PR (w.alloc o) (own1 w G k) i D l := h.imp fun _ h => h.alloc o k
theorem PU.lt {w : World} {G : Nat → Nat} {i D : Nat} {l : List Int} (h : PU w G i D l) : D < w.heap.size := h.elim fun _ h => h.lt
theorem PR.lt {w : World} {G : Nat → Nat} {i D : Nat} {l : List (Int × Int)} (h : PR w G i D l) : D < w.heap.size := h.elim fun _ h => h.lt

theorem needPU (G : Nat → Nat) (i D : Nat) (l : List Int) (p q : Int) (w : World) (hp : PU w G i D l) (hn : l.length ≤ 100000) (h1 : p ≤ 9223372036854775807) (h2 : q ≤ 9223372036854775807) :
    Calls Tryz.prog 77 #[.pointer (some ⟨D, 0, none⟩), .int .i64 p, .int .i64 q] w fun e w' => e = .returned (.int .i64 (needF l.length p q)) ∧ w = w' := by
  obtain ⟨v, h⟩ := hp
  obtain ⟨a, c, rfl⟩ := h.slice
  exact needU_any D a _ c p q w h.cell hn h1 h2
theorem popPU (G : Nat → Nat) (i D : Nat) (l : List Int) (x : Int) (w : World) (hp : PU w G i D (l ++ [x])) :
    Calls Tryz.prog 147 #[.pointer (some ⟨D, 0, none⟩)] w fun e w' => e = .returned (.int .u16 x) ∧ Adv (· = i) w G w' G ∧ PU w' G i D l := by
  obtain ⟨v, h⟩ := hp
  obtain ⟨a, c, rfl⟩ := h.slice
  rw [List.length_append, cellsU_append] at h
  exact (popU_some 128 G i D a l.length c (cellsU l) x w h).mono fun e w' h => ⟨h.1, h.2.1, _, h.2.2⟩
theorem popPU_nil (G : Nat → Nat) (i D : Nat) (w : World) (hp : PU w G i D []) : Calls Tryz.prog 147 #[.pointer (some ⟨D, 0, none⟩)] w fun e w' => e = .returned (.int .u16 0) ∧ w = w' := by
  obtain ⟨v, h⟩ := hp
  obtain ⟨a, c, rfl⟩ := h.slice
  exact popU_none D a c w h.cell
theorem pushPU (G : Nat → Nat) (i D : Nat) (l m : List Int) (xa : Option Addr) (n c : Nat) (w : World) (hp : PU w G i D l) (hn : m.length = n) (hroom : l.length + n ≤ 256) (hr : Reads w xa (cellsU m)) :
    Calls Tryz.prog 39 #[.pointer (some ⟨D, 0, none⟩), .slice xa n c] w fun e w' => e = .returned (.int .i64 0) ∧ ∃ G', Adv (· = i) w G w' G' ∧ PU w' G' i D (l ++ m) := by
  obtain ⟨v, h⟩ := hp
  refine (pushU_ok 128 G i D v l.length (cellsU l) xa n c (cellsU m) w h hroom (by rw [cellsU_length, hn]) hr (cellsU_one m)).mono fun e w' h => ?_
  obtain ⟨h1, G', v', h2, h3⟩ := h
  exact ⟨h1, G', h2, v', by rw [List.length_append, cellsU_append, hn]; exact h3⟩
theorem pushPU_no (G : Nat → Nat) (i D : Nat) (l : List Int) (xa : Option Addr) (n c : Nat) (w : World) (hp : PU w G i D l) (hl : l.length ≤ 256) (hn : n ≤ 9223372036854775807) (hfull : 256 < l.length + n) :
    Calls Tryz.prog 39 #[.pointer (some ⟨D, 0, none⟩), .slice xa n c] w fun e w' => e = .returned (.int .i64 2) ∧ w = w' := by
  obtain ⟨v, h⟩ := hp
  exact pushU_no 128 G i D v l.length (cellsU l) xa n c w h hl hn hfull
/-- Cells: of no cells nil; else new memory. -/
theorem cellsPU_nil (G : Nat → Nat) (i D : Nat) (w : World) (hp : PU w G i D []) : Calls Tryz.prog 30 #[.pointer (some ⟨D, 0, none⟩)] w fun e w' => e = .returned (.slice none 0 0) ∧ w = w' := by
  obtain ⟨v, h⟩ := hp
  obtain ⟨a, c, rfl⟩ := h.slice
  exact cellsU_none D a c w h.cell
theorem cellsPU (G : Nat → Nat) (i D : Nat) (l : List Int) (w : World) (hp : PU w G i D l) (h0 : l ≠ []) (h1 : l.length ≤ 1000) :
    Calls Tryz.prog 30 #[.pointer (some ⟨D, 0, none⟩)] w fun e w' => e = .returned (.slice (some ⟨w.heap.size, 0, none⟩) l.length l.length) ∧ w' = w.alloc (.cells (cellsU l).toArray 31) := by
  obtain ⟨v, h⟩ := hp
  obtain ⟨a, c, rfl⟩ := h.slice
  obtain ⟨b, o, rfl, hr, hb⟩ := h.reads.1.some (by intro e; exact h0 (by simpa [cellsU] using e))
  exact cellsU_some D _ l.length c (cellsU l) w (List.length_pos_iff.2 h0) h1 (cellsU_length l) (cellsU_one l) h.cell (Reads.add hr) hb

theorem lenPR (G : Nat → Nat) (i D : Nat) (l : List (Int × Int)) (w : World) (hp : PR w G i D l) : Calls Tryz.prog 79 #[.pointer (some ⟨D, 0, none⟩)] w fun e w' => e = .returned (.int .i64 l.length) ∧ w = w' := by
  obtain ⟨v, h⟩ := hp
  obtain ⟨a, c, rfl⟩ := h.slice
  exact lenR_any D a _ c w h.cell
theorem atPR (G : Nat → Nat) (i D : Nat) (l : List (Int × Int)) (n kind : Int) (w : World) (hp : PR w G i D l) (hm : l.length ≤ 100000) :
    Calls Tryz.prog 125 #[.pointer (some ⟨D, 0, none⟩), .int .i64 n, .int .i64 kind] w fun e w' => e = .returned (.tuple #[.int .u16 (atV l n kind), .int .i64 (atE l n kind)]) ∧ ∃ d, w' = w.drewN d := by
  obtain ⟨v, h⟩ := hp
  obtain ⟨a, c, rfl⟩ := h.slice
  exact atR_any 132 G i D a l.length c l n kind w h hm
theorem popPR_not (G : Nat → Nat) (i D : Nat) (l : List (Int × Int)) (kind : Int) (w : World) (hp : PR w G i D l) (hm : l.length ≤ 100000) (hne : (atE l 0 kind == 0) = false) :
    Calls Tryz.prog 149 #[.pointer (some ⟨D, 0, none⟩), .int .i64 kind] w fun e w' => e = .returned (.tuple #[.int .u16 (atV l 0 kind), .int .i64 (atE l 0 kind)]) ∧ ∃ d, w' = w.drewN d := by
  obtain ⟨v, h⟩ := hp
  obtain ⟨a, c, rfl⟩ := h.slice
  exact popR_not 132 G i D a l.length c l kind w h hm hne
theorem popPR (G : Nat → Nat) (i D : Nat) (l : List (Int × Int)) (c : Int × Int) (w : World) (hp : PR w G i D (l ++ [c])) (hm : l.length < 100000) :
    Calls Tryz.prog 149 #[.pointer (some ⟨D, 0, none⟩), .int .i64 c.1] w fun e w' => e = .returned (.tuple #[.int .u16 c.2, .int .i64 0]) ∧ ∃ G', Adv (· = i) w G w' G' ∧ PR w' G' i D l := by
  obtain ⟨v, h⟩ := hp
  obtain ⟨a, cap, rfl⟩ := h.slice
  rw [List.length_append] at h
  refine (popR_is 132 G i D a l.length cap l c w rfl h hm).mono fun e w' h => ?_
  obtain ⟨h1, G', h2, h3⟩ := h
  exact ⟨h1, G', h2, _, h3⟩
theorem setPR_nil (G : Nat → Nat) (i D : Nat) (x : Int) (w : World) (hp : PR w G i D []) : Calls Tryz.prog 169 #[.pointer (some ⟨D, 0, none⟩), .int .u16 x] w fun e w' => e = .returned (.tuple #[]) ∧ w = w' := by
  obtain ⟨v, h⟩ := hp
  obtain ⟨a, c, rfl⟩ := h.slice
  exact setR_none D a c x w h.cell
theorem setPR (G : Nat → Nat) (i D : Nat) (l : List (Int × Int)) (c : Int × Int) (x : Int) (w : World) (hp : PR w G i D (l ++ [c])) (hm : l.length < 100000) :
    Calls Tryz.prog 169 #[.pointer (some ⟨D, 0, none⟩), .int .u16 x] w fun e w' => e = .returned (.tuple #[]) ∧ Adv (· = i) w G w' G ∧ PR w' G i D (l ++ [(c.1, x)]) := by
  obtain ⟨v, h⟩ := hp
  obtain ⟨a, cap, rfl⟩ := h.slice
  rw [List.length_append] at h
  refine (setR_some 132 G i D a l.length cap l c x rfl hm w h).mono fun e w' h => ⟨h.1, h.2.1, _, by rw [List.length_append]; exact h.2.2⟩
theorem pushPR (G : Nat → Nat) (i D : Nat) (l m : List (Int × Int)) (xa : Option Addr) (n c : Nat) (w : World) (hp : PR w G i D l) (hn : m.length = n) (hroom : l.length + n ≤ 128) (hr : Reads w xa (cellsR m)) :
    Calls Tryz.prog 41 #[.pointer (some ⟨D, 0, none⟩), .slice xa n c] w fun e w' => e = .returned (.int .i64 0) ∧ ∃ G', Adv (· = i) w G w' G' ∧ PR w' G' i D (l ++ m) := by
  obtain ⟨v, h⟩ := hp
  refine (pushR_ok 132 G i D v l.length (cellsR l) xa n c (cellsR m) w h hroom (by rw [cellsR_length, hn]) hr (cellsR_one m)).mono fun e w' h => ?_
  obtain ⟨h1, G', v', h2, h3⟩ := h
  exact ⟨h1, G', h2, v', by rw [List.length_append, cellsR_append, hn]; exact h3⟩
theorem pushPR_no (G : Nat → Nat) (i D : Nat) (l : List (Int × Int)) (xa : Option Addr) (n c : Nat) (w : World) (hp : PR w G i D l) (hl : l.length ≤ 128) (hn : n ≤ 9223372036854775807) (hfull : 128 < l.length + n) :
    Calls Tryz.prog 41 #[.pointer (some ⟨D, 0, none⟩), .slice xa n c] w fun e w' => e = .returned (.int .i64 4) ∧ w = w' := by
  obtain ⟨v, h⟩ := hp
  exact pushR_no 132 G i D v l.length (cellsR l) xa n c w h hl hn hfull
theorem cellsPR_nil (G : Nat → Nat) (i D : Nat) (w : World) (hp : PR w G i D []) : Calls Tryz.prog 31 #[.pointer (some ⟨D, 0, none⟩)] w fun e w' => e = .returned (.slice none 0 0) ∧ w = w' := by
  obtain ⟨v, h⟩ := hp
  obtain ⟨a, c, rfl⟩ := h.slice
  exact cellsOR_none D a c w h.cell
theorem cellsPR (G : Nat → Nat) (i D : Nat) (l : List (Int × Int)) (w : World) (hp : PR w G i D l) (h0 : l ≠ []) (h1 : l.length ≤ 1000) :
    Calls Tryz.prog 31 #[.pointer (some ⟨D, 0, none⟩)] w fun e w' => e = .returned (.slice (some ⟨w.heap.size, 0, none⟩) l.length l.length) ∧ w' = w.alloc (.cells (cellsR l).toArray 111) := by
  obtain ⟨v, h⟩ := hp
  obtain ⟨a, c, rfl⟩ := h.slice
  obtain ⟨b, o, rfl, hr, hb⟩ := h.reads.1.some (by intro e; have := congrArg List.length e; rw [cellsR_length] at this; exact h0 (List.eq_nil_of_length_eq_zero (by simp only [List.length_nil] at this; omega)))
  exact cellsOR_some D _ l.length c (cellsR l) w (List.length_pos_iff.2 h0) h1 (cellsR_length l) (cellsR_one l) h.cell (Reads.add hr) hb

/-- Stacks. -/
theorem stacksP (G : Nat → Nat) (i j : Nat) (xa : Option Addr) (m c : Nat) (xs : List Int) (ya : Option Addr) (k c2 : Nat) (l : List (Int × Int)) (w : World) (hl : xs.length = m) (hm : m ≤ 256) (hx : Reads w xa (cellsU xs))
    (hlk : l.length = k) (hk : k ≤ 128) (hy : Reads w ya (cellsR l)) (hgood : ∀ c ∈ l, 1 ≤ c.1 ∧ c.1 ≤ 4) :
    Calls Tryz.prog 49 #[.slice xa m c, .slice ya k c2] w fun e w' => ∃ D R G', e = .returned (.tuple #[.pointer (some ⟨D, 0, none⟩), .pointer (some ⟨R, 0, none⟩), .int .i64 0]) ∧ Adv (fun _ => False) w G w' G' ∧ PU w' G' i D xs ∧ PR w' G' j R l := by
  refine (stacks_ok G i j xa m c (cellsU xs) ya k c2 l w hm (by rw [cellsU_length, hl]) hx (cellsU_one xs) hk hlk hy hgood).mono ?_
  rintro e w' ⟨D, R, G', vd, vr, rfl, ha, hD, hR⟩
  exact ⟨D, R, G', rfl, ha, ⟨vd, by rw [hl]; exact hD⟩, vr, by rw [hlk]; exact hR⟩
theorem stacksP_no (G : Nat → Nat) (xa : Option Addr) (m c : Nat) (xs : List Int) (ya : Option Addr) (k c2 : Nat) (l : List (Int × Int)) (w : World) (hl : xs.length = m) (hm : m ≤ 9223372036854775807) (hx : Reads w xa (cellsU xs))
    (hlk : l.length = k) (hk : k ≤ 9223372036854775807) (hy : Reads w ya (cellsR l)) (hno : 256 < m ∨ 128 < k ∨ ∃ c ∈ l, ¬ (1 ≤ c.1 ∧ c.1 ≤ 4)) :
    Calls Tryz.prog 49 #[.slice xa m c, .slice ya k c2] w fun e w' => e = .returned (.tuple #[.pointer none, .pointer none, .int .i64 2]) ∧ ∃ G', Adv (fun _ => False) w G w' G' := by
  by_cases h1 : 256 < m
  · exact stacks_noU G xa m c _ w hm h1
  · by_cases h2 : 128 < k
    · exact stacks_noR G xa m c (cellsU xs) ya k c2 w (by omega) (by rw [cellsU_length, hl]) hx (cellsU_one xs) hk h2
    · rcases hno with h | h | h
      · exact absurd h h1
      · exact absurd h h2
      · exact stacks_bad G xa m c (cellsU xs) ya k c2 l w (by omega) (by rw [cellsU_length, hl]) hx (cellsU_one xs) (by omega) hlk hy h
end Go.Proofs.YtdnalhjdmlkbmaaGreatDoor
namespace Go.Proofs.YtdnalhjdmlkbmaaGreatDoor
open Go.RowKit
set_option linter.unusedVariables false

/-- Old blocks are whose they were, new ones whose they are. -/
def joined (w : World) (G Gx : Nat → Nat) : Nat → Nat := fun b => if b < w.heap.size then G b else Gx b
theorem joined_old {w : World} {G Gx : Nat → Nat} {b : Nat} (h : b < w.heap.size) : joined w G Gx b = G b := if_pos h
theorem joined_new {S : Nat → Prop} {w w' : World} {G Gx : Nat → Nat} {i : Nat} (h : Adv S w (fun _ => 0) w' Gx) (hi : i ≠ 0) : ∀ b, b < w'.heap.size → Gx b = i → joined w G Gx b = i := by
  intro b _ h1
  unfold joined
  rw [if_neg (fun hb => hi (by rw [← h1, h.own b hb])), h1]
theorem joined_adv {S : Nat → Prop} {w w' : World} {G Gx : Nat → Nat} (h : Adv S w (fun _ => 0) w' Gx) (h0 : ¬ S 0) : Adv (fun _ => False) w G w' (joined w G Gx) :=
  h.relabel (fun _ _ => h0) (fun _ hb => joined_old hb)
theorem PU.relabel {w : World} {G H : Nat → Nat} {i i' D : Nat} {l : List Int} (h : PU w G i D l) (hH : ∀ b, b < w.heap.size → G b = i → H b = i') : PU w H i' D l := h.imp fun _ h => h.relabel hH
theorem PR.relabel {w : World} {G H : Nat → Nat} {i i' D : Nat} {l : List (Int × Int)} (h : PR w G i D l) (hH : ∀ b, b < w.heap.size → G b = i → H b = i') : PR w H i' D l := h.imp fun _ h => h.relabel hH
theorem PMx.relabel {w : World} {G H : Nat → Nat} {i i' D B : Nat} {bs : List Nat} {tv : Value} {M : MemS} (h : PMx w G i D B bs tv M) (hH : ∀ b, b < w.heap.size → G b = i → H b = i') : PMx w H i' D B bs tv M :=
  ⟨h.head, hH _ h.lt h.hown, h.map, hH _ h.map.lt h.mown, h.blen, fun k p b hp hb => by
    obtain ⟨⟨C, h1, h2⟩, h3⟩ := h.bank k p b hp hb
    exact ⟨⟨C, h1, h2⟩, hH b (Array.getElem?_eq_some_iff.1 h1).1 h3⟩, ⟨h.tones.row, fun b e => hH b (h.tones.row.lt b e).2 (h.tones.own b e)⟩, h.nodup, h.ne, h.net, h.neb⟩
theorem PM.relabel {w : World} {G H : Nat → Nat} {i i' D : Nat} {M : MemS} (h : PM w G i D M) (hH : ∀ b, b < w.heap.size → G b = i → H b = i') : PM w H i' D M := by
  obtain ⟨B, bs, tv, h⟩ := h
  exact ⟨B, bs, tv, h.relabel hH⟩

def banks2 : List (Int × List Int) := [(0, [1, 2, 3]), (9, [4])]
def banksW (w : World) : World := ((w.alloc (.cells #[.int .u8 1, .int .u8 2, .int .u8 3] 5)).alloc (.cells #[.int .u8 4] 5)).alloc (.cells #[.int .i64 0, .slice (some ⟨w.heap.size, 0, none⟩) 3 3, .int .i64 9, .slice (some ⟨w.heap.size + 1, 0, none⟩) 1 1] 47)
theorem bankIn2 (w : World) (G : Nat → Nat) : ∀ (w' : World) (G' : Nat → Nat), Adv (fun _ => False) (banksW w) G w' G' → BankIn w' (some ⟨w.heap.size + 2, 0, none⟩) banks2 := by
  intro w' G' ha k p hp
  have h3 : (banksW w).heap[w.heap.size + 2]? = some (.cells #[.int .i64 0, .slice (some ⟨w.heap.size, 0, none⟩) 3 3, .int .i64 9, .slice (some ⟨w.heap.size + 1, 0, none⟩) 1 1] 47 (0, 0)) := heap_at _ _ _ (by simp)
  have r1 : Reads (banksW w) (some ⟨w.heap.size, 0, none⟩) (u8s [1, 2, 3]) := ((Reads.new w [.int .u8 1, .int .u8 2, .int .u8 3] 5).alloc _).alloc _
  have r2 : Reads (banksW w) (some ⟨w.heap.size + 1, 0, none⟩) (u8s [4]) := by
    have := (Reads.new (w.alloc (.cells #[.int .u8 1, .int .u8 2, .int .u8 3] 5)) [.int .u8 4] 5).alloc (.cells #[.int .i64 0, .slice (some ⟨w.heap.size, 0, none⟩) 3 3, .int .i64 9, .slice (some ⟨w.heap.size + 1, 0, none⟩) 1 1] 47)
    rw [show (w.alloc (.cells #[.int .u8 1, .int .u8 2, .int .u8 3] 5)).heap.size = w.heap.size + 1 from by simp] at this
    exact this
  match k, hp with
  | 0, hp =>
    cases hp
    exact ⟨_, 0, _, 3, rfl, ha.cell_some (block_cell h3 0 _ rfl) id, ha.cell_some (block_cell h3 1 _ rfl) id, r1.adv ha (fun _ _ => id)⟩
  | 1, hp =>
    cases hp
    exact ⟨_, 0, _, 1, rfl, ha.cell_some (block_cell h3 2 _ rfl) id, ha.cell_some (block_cell h3 3 _ rfl) id, r2.adv ha (fun _ _ => id)⟩
  | k + 2, hp => simp [banks2] at hp

/-- The six pointers of a world. -/
def Wld (w : World) (G : Nat → Nat) (K D R M : Nat) : Prop :=
  ∃ x y z, w.heap[K]? = some (.cells #[.pointer (some ⟨D, 0, none⟩), .pointer (some ⟨R, 0, none⟩), .pointer (some ⟨M, 0, none⟩), x, y, z] 82 (0, 0)) ∧ G K = 0

set_option maxRecDepth 100000 in
set_option maxHeartbeats 1000000 in
theorem born0 (G : Nat → Nat) (xa : Option Addr) (m c : Nat) (l : List Int) (w : World) (hl : l.length = m) (hm : m ≤ 256) (hr : Reads w xa (cellsU l)) (hcap : m ≤ c) (_hc2 : c ≤ 100000000000000) :
    Calls Tryz.prog 9 #[.slice xa m c, .slice none 0 0] w fun e w' => ∃ K D R M G', e = .returned (.pointer (some ⟨K, 0, none⟩)) ∧ Adv (fun _ => False) w G w' G' ∧ Wld w' G' K D R M ∧ PU w' G' 1 D l ∧ PR w' G' 2 R [] ∧ PM w' G' 3 M (newM banks2) := by
  obtain ⟨i0, hi, hz0, hz1, hz2⟩ := info_parts Tryz.info31
  obtain ⟨j0, hj, hy0, hy1, hy2⟩ := info_parts Tryz.info111
  have HL := Lib.hid hl
  have HX := Lib.hid (hr.alloc (.cells #[] 31))
  have HA0 := Lib.hid ((Adv.refl (fun b => b = 9) w (fun _ => 0)).alloc (.cells #[] 31) 9)
  have HR0 := Lib.hid (Row.new w (fun _ => 0) 31 1 9 0 [] (Nat.zero_le _) rfl)
  have hmin : min (m : Int) 256 = m := by omega
  clear hl hr
  go_enter Tryz.func9, Tryz.ntmps9
  go_wp2_with (first
    | (at_builtin; refine wpList_append_reads rfl (.tmp 14) (.tmp 19) 22 rfl 31 i0 (.int .u16 0) 1 2 Tryz.underlying22 hi hz0 hz1 hz2 rfl (by decide) _ 9 (some ⟨w.heap.size, 0, none⟩) 0 0 [] rfl HR0.out xa m c (cellsU l) rfl (by rw [cellsU_length, HL.out, Nat.mul_one]) HX.out (cellsU_one l) (by unfold maxLen; omega) (by omega) ?_; intro va1 vc1 w1 G1 h1 h2; rw [Nat.zero_add, List.nil_append] at h1; rw [Nat.zero_add]; have HR1 := Lib.hid h1; have HA1 := Lib.hid (HA0.out.trans h2); clear h1 h2))
  obtain ⟨wa, hwa⟩ : ∃ wa, wa = w1.alloc (.cells #[] 111) := ⟨_, rfl⟩
  have hA2 := HA1.out.alloc (.cells #[] 111) 9
  have hRd := HR1.out.adv (S := fun _ => False) ((Adv.refl (fun _ => False) w1 G1).alloc (.cells #[] 111) 9) id
  rw [← hwa] at hA2 hRd ⊢
  obtain ⟨Ga, hGa⟩ : ∃ Ga, Ga = own1 w1 G1 9 := ⟨_, rfl⟩
  rw [← hGa] at hA2 hRd
  have HA2 := Lib.hid hA2
  have HRd := Lib.hid hRd
  clear hA2 hRd hGa
  have hsz : w1.heap.size < wa.heap.size := by rw [hwa]; simp
  clear hwa
  have HA3 := Lib.hid (HA2.out.alloc (.cells #[] 31) 9)
  have HRe := Lib.hid (HRd.out.adv (S := fun _ => False) ((Adv.refl (fun _ => False) wa Ga).alloc (.cells #[] 31) 9) id)
  have HR3 := Lib.hid (Row.new wa Ga 31 1 9 0 [] (Nat.zero_le _) rfl)
  go_loop [5] (fun v => v = .int .i64 0) (fun _ => 0)
  case atStart => rfl
  case round =>
    obtain rfl := hrel
    go_wp2_with (first
      | (at_builtin; refine wpList_append_reads rfl (.tmp 48) (.tmp 49) 22 rfl 31 i0 (.int .u16 0) 1 2 Tryz.underlying22 hi hz0 hz1 hz2 rfl (by decide) _ 9 (some ⟨wa.heap.size, 0, none⟩) 0 0 [] rfl HR3.out va1 m vc1 (cellsU l) rfl (by rw [cellsU_length, HL.out, Nat.mul_one]) HRe.out.reads (cellsU_one l) (by unfold maxLen; omega) (by omega) ?_; intro va2 vc2 w2 G2 h1 h2; rw [Nat.zero_add, List.nil_append] at h1; rw [Nat.zero_add]; have HR4 := Lib.hid h1; have HA4 := Lib.hid (HA3.out.trans h2); clear h1 h2))
    have HA5 := Lib.hid (HA4.out.alloc (.cells #[] 111) 9)
    refine (stacksP (own1 w2 G2 9) 1 2 va2 m vc2 l _ 0 0 [] _ HL.out hm (HR4.out.reads.alloc _) rfl (by omega) (.inl rfl) (fun _ h => by cases h)).mono ?_
    rintro e w3 ⟨D, R, G3, rfl, ha3, hp3, hr3⟩
    have hb1 := ((Adv.refl (fun _ => False) w3 G3).alloc (.cells #[.int .u8 1, .int .u8 2, .int .u8 3] 5) 9).alloc (.cells #[.int .u8 4] 5) 9
    have hb2 := hb1.alloc (.cells #[.int .i64 0, .slice (some ⟨w3.heap.size, 0, none⟩) 3 3, .int .i64 9, .slice (some ⟨w3.heap.size + 1, 0, none⟩) 1 1] 47) 9
    obtain ⟨G4, hG4⟩ : ∃ G4, G4 = own1 ((w3.alloc (.cells #[.int .u8 1, .int .u8 2, .int .u8 3] 5)).alloc (.cells #[.int .u8 4] 5)) (own1 (w3.alloc (.cells #[.int .u8 1, .int .u8 2, .int .u8 3] 5)) (own1 w3 G3 9) 9) 9 := ⟨_, rfl⟩
    rw [← hG4] at hb2
    have HB2 := Lib.hid hb2
    have HA6 := Lib.hid ((HA5.out.trans (ha3.mono (T := fun b => b = 9) (fun _ h => h.elim))).trans (hb2.mono (T := fun b => b = 9) (fun _ h => h.elim)))
    have HP6 := Lib.hid (hp3.adv hb2 id)
    have HR6 := Lib.hid (hr3.adv hb2 id)
    clear ha3 hp3 hr3 hb1 hb2 hG4
    go_wp2_with fail
    refine (new_ok G4 3 (by omega) _ 2 2 banks2 rfl (by omega) (by decide) _ (bankIn2 w3 G4)).mono ?_
    rintro e w5 ⟨M, G5, rfl, ha5, hm5⟩
    have HA7 := Lib.hid (HA6.out.trans (ha5.mono (T := fun b => b = 9) (fun _ h => h.elim)))
    have HP7 := Lib.hid (HP6.out.adv ha5 id)
    have HR7 := Lib.hid (HR6.out.adv ha5 id)
    have HM7 := Lib.hid hm5
    have HI7 := Lib.hid (fun (w' : World) (G' : Nat → Nat) (h : Adv (fun _ => False) w5 G5 w' G') => bankIn2 w3 G4 w' G' (ha5.trans h))
    clear ha5 hm5
    go_wp2_with fail
    refine (refNew_any G5 _ 2 2 banks2 rfl (by omega) (by decide) _ HI7.out).mono ?_
    rintro e w6 ⟨Z, G6, rfl, ha6⟩
    have HA8 := Lib.hid (HA7.out.trans (ha6.mono (T := fun b => b = 9) (fun _ h => h.elim)))
    have HP8 := Lib.hid (HP7.out.adv ha6 id)
    have HR8 := Lib.hid (HR7.out.adv ha6 id)
    have HM8 := Lib.hid (HM7.out.adv ha6 id)
    clear ha6
    go_wp2_with fail
    go_ret
    have hx := (((HA8.out.alloc (.cells #[.slice va1 m vc1] 119) 9).alloc (.cells #[.slice (some ⟨w1.heap.size, 0, none⟩) 0 0] 121) 9).alloc (.cells #[.pointer (some ⟨D, 0, none⟩), .pointer (some ⟨R, 0, none⟩), .pointer (some ⟨M, 0, none⟩), .pointer (some ⟨w6.heap.size, 0, none⟩), .pointer (some ⟨w6.heap.size + 1, 0, none⟩), .pointer (some ⟨Z, 0, none⟩)] 82) 0)
    have hf := (((Adv.refl (fun _ => False) w6 G6).alloc (.cells #[.slice va1 m vc1] 119) 9).alloc (.cells #[.slice (some ⟨w1.heap.size, 0, none⟩) 0 0] 121) 9).alloc (.cells #[.pointer (some ⟨D, 0, none⟩), .pointer (some ⟨R, 0, none⟩), .pointer (some ⟨M, 0, none⟩), .pointer (some ⟨w6.heap.size, 0, none⟩), .pointer (some ⟨w6.heap.size + 1, 0, none⟩), .pointer (some ⟨Z, 0, none⟩)] 82) 0
    refine ⟨w6.heap.size + 1 + 1, D, R, M, _, rfl, joined_adv hx (by omega), ⟨_, _, _, heap_at _ _ _ (by simp), ?_⟩, (HP8.out.adv hf id).relabel (joined_new hx (by omega)), (HR8.out.adv hf id).relabel (joined_new hx (by omega)), (HM8.out.adv hf id).relabel (joined_new hx (by omega))⟩
    have hs := HA8.out.size
    unfold joined
    rw [if_neg (by omega)]
    simp [own1]
end Go.Proofs.YtdnalhjdmlkbmaaGreatDoor
namespace Go.Proofs.YtdnalhjdmlkbmaaGreatDoor
open Go.RowKit
set_option linter.unusedVariables false

/-- A cell of the return stack, its kind brought to 1 to 4. -/
def normR (c : Int × Int) : Int × Int := (1 + c.1 % 4, c.2)
theorem normR_good (l : List (Int × Int)) : ∀ c ∈ l.map normR, 1 ≤ c.1 ∧ c.1 ≤ 4 := by
  intro c hc
  obtain ⟨d, _, rfl⟩ := List.mem_map.1 hc
  simp only [normR]; omega
theorem Reads.left {w : World} {a : Option Addr} {xs ys : List Value} (h : Reads w a (xs ++ ys)) : Reads w a xs := by
  by_cases he : xs = []
  · exact .inl he
  · obtain ⟨b, o, rfl, hr, _⟩ := h.some (by simp [he])
    refine .inr ⟨b, o, rfl, fun j u hu => hr j u ?_⟩
    rw [List.getElem?_append_left (List.getElem?_eq_some_iff.1 hu).1]; exact hu
theorem Reads.takeR {w : World} {a : Option Addr} {l : List (Int × Int)} (h : Reads w a (cellsR l)) (n : Nat) : Reads w a (cellsR (l.take n)) := by
  rw [← List.take_append_drop n l, cellsR_append] at h
  exact h.left
theorem normR_set (l : List (Int × Int)) (j : Nat) (c : Int × Int) (h : l[j]? = some c) :
    (cellsR ((l.take j).map normR ++ l.drop j)).set (j * 2) (.int .i64 (1 + c.1 % 4)) = cellsR ((l.take (j + 1)).map normR ++ l.drop (j + 1)) := by
  have hj : j < l.length := (List.getElem?_eq_some_iff.1 h).1
  have h1 : l.drop j = c :: l.drop (j + 1) := by
    rw [List.drop_eq_getElem_cons hj]; congr 1; exact (List.getElem?_eq_some_iff.1 h).2
  have h2 : l.take (j + 1) = l.take j ++ [c] := by rw [List.take_add_one, h]; rfl
  rw [h1, h2, List.map_append, List.append_assoc, cellsR_append, cellsR_append]
  have hlen : (cellsR ((l.take j).map normR)).length = j * 2 := by rw [cellsR_length]; simp; omega
  rw [List.set_append_right _ _ (by omega), hlen, Nat.sub_self]
  rfl
theorem normR_get (l : List (Int × Int)) (j : Nat) (c : Int × Int) (h : l[j]? = some c) : (cellsR ((l.take j).map normR ++ l.drop j))[j * 2]? = some (.int .i64 c.1) := by
  refine (cellsR_fst _ j c ?_).1
  have hj : j < l.length := (List.getElem?_eq_some_iff.1 h).1
  rw [List.getElem?_append_right (by simp; omega)]
  simp only [List.length_map, List.length_take]
  rw [show j - min j l.length = 0 from by omega, List.getElem?_drop]
  exact h
theorem rem4 (x : Int) : Int.tmod (Int.tmod x 4 + 4) 4 = x % 4 := by
  rcases Int.le_total 0 x with h | h
  · rw [Int.tmod_eq_emod_of_nonneg h, Int.tmod_eq_emod_of_nonneg (by omega)]; omega
  · have h1 : Int.tmod x 4 = - ((-x) % 4) := by
      have := Int.neg_tmod (-x) 4
      rw [Int.neg_neg] at this
      rw [this, Int.tmod_eq_emod_of_nonneg (by omega)]
    rw [h1, Int.tmod_eq_emod_of_nonneg (by omega)]; omega
theorem wpList_min {P : Program} {w : World} {ops : Array Oper} {rest : List Oper} {o : Oper} {a : Act} {Q : Exit → Act → World → Prop} (hgd : o.guard = none) (s x : Operand) (t : TypeId)
    (ho : o.op = .call { callee := .builtin .min, args := #[s, x], argTypes := #[t, t] }) (m n k : Int) (hs : a.eval s = .int .i64 m) (hx : a.eval x = .int .i64 n) (hk : k = min m n)
    (h : wpList P ops Q rest (a.put o.dst (.int .i64 k)) w) : wpList P ops Q (o :: rest) a w := by
  refine wpList_plain hgd fun K hK => ?_
  unfold Oper.wp execOp
  have hr : (Builtin.min_ #[t, t] o.type #[.int .i64 m, .int .i64 n]).run P w = .ok (.int .i64 k) w := by
    simp only [Builtin.min_, List.foldlM, Builtin.min2]
    by_cases h1 : m ≤ n
    · have : k = m := by omega
      have h2 : ¬ n < m := by omega
      simp [this, h2]
    · have : k = n := by omega
      have h2 : n < m := by omega
      simp [this, h2]
  simp only [ho, resolve, invoke, builtin, Sem.run_bind, Sem.run_pure, Result.andThen_ok, List.map_toArray, List.map_cons, List.map_nil, hs, hx, hr]
  exact hK _ _ h
theorem tmod_ge4 (x : Int) : -4 < Int.tmod x 4 := by
  rcases Int.le_total 0 x with h | h
  · rw [Int.tmod_eq_emod_of_nonneg h]; omega
  · have := Int.neg_tmod (-x) 4
    rw [Int.neg_neg] at this
    rw [this, Int.tmod_eq_emod_of_nonneg (by omega)]; omega
def S98 (b : Nat) : Prop := b = 9 ∨ b = 8

set_option maxRecDepth 100000 in
set_option maxHeartbeats 2000000 in
theorem bornR (G : Nat → Nat) (xa : Option Addr) (m c : Nat) (l : List Int) (ya : Option Addr) (m2 c2 : Nat) (lr : List (Int × Int)) (w : World) (hl : l.length = m) (hr : Reads w xa (cellsU l)) (hcap : m ≤ c) (hc1 : c ≤ 9223372036854775807)
    (hlr : lr.length = m2) (hrr : Reads w ya (cellsR lr)) (hcap2 : m2 ≤ c2) (hc2 : c2 ≤ 9223372036854775807) (hwf : ∀ c ∈ lr, -9223372036854775808 ≤ c.1 ∧ c.1 ≤ 9223372036854775807) :
    Calls Tryz.prog 9 #[.slice xa m c, .slice ya m2 c2] w fun e w' => ∃ K D R M G', e = .returned (.pointer (some ⟨K, 0, none⟩)) ∧ Adv (fun _ => False) w G w' G' ∧ Wld w' G' K D R M ∧ PU w' G' 1 D (l.take 256) ∧ PR w' G' 2 R ((lr.take 128).map normR) ∧ PM w' G' 3 M (newM banks2) ∧ w.heap.size ≤ K := by
  obtain ⟨i0, hi, hz0, hz1, hz2⟩ := info_parts Tryz.info31
  obtain ⟨j0, hj, hy0, hy1, hy2⟩ := info_parts Tryz.info111
  obtain ⟨n, hn⟩ : ∃ n, n = min m 256 := ⟨_, rfl⟩
  obtain ⟨n2, hn2⟩ : ∃ n2, n2 = min m2 128 := ⟨_, rfl⟩
  obtain ⟨L, hLdef⟩ : ∃ L, L = l.take 256 := ⟨_, rfl⟩
  obtain ⟨LR, hLRdef⟩ : ∃ LR, LR = lr.take 128 := ⟨_, rfl⟩
  rw [← hLdef, ← hLRdef]
  have hLn : L.length = n := by rw [hLdef, List.length_take]; omega
  have hLRn : LR.length = n2 := by rw [hLRdef, List.length_take]; omega
  have hrL : Reads w xa (cellsU L) := by rw [hLdef]; exact hr.takeU 256
  have hrLR : Reads w ya (cellsR LR) := by rw [hLRdef]; exact hrr.takeR 128
  have HWF := Lib.hid (show ∀ c ∈ LR, -9223372036854775808 ≤ c.1 ∧ c.1 ≤ 9223372036854775807 from fun c hc => hwf c (List.mem_of_mem_take (hLRdef ▸ hc)))
  have HMIN := Lib.hid (show min (m : Int) 256 = (n : Int) from by omega)
  have HMIN2 := Lib.hid (show min (m2 : Int) 128 = (n2 : Int) from by omega)
  have hnm : n ≤ 256 := by omega
  have hnm2 : n2 ≤ 128 := by omega
  have hnc : n ≤ c := by omega
  have hnc2 : n2 ≤ c2 := by omega
  have HL := Lib.hid hLn
  have HLR := Lib.hid hLRn
  have HX := Lib.hid (hrL.alloc (.cells #[] 31))
  have HYX : ∀ {w1 : World} {G1 : Nat → Nat}, Adv S98 w (fun _ => 0) w1 G1 → Reads (w1.alloc (.cells #[] 111)) ya (cellsR LR) := fun h => (hrLR.adv h (fun _ _ => by unfold S98; omega)).alloc _
  have HA0 := Lib.hid ((Adv.refl S98 w (fun _ => 0)).alloc (.cells #[] 31) 9)
  have HR0 := Lib.hid (Row.new w (fun _ => 0) 31 1 9 0 [] (Nat.zero_le _) rfl)
  clear hl hr hlr hrr hwf hLdef hLRdef hLn hLRn hrL hrLR hn hn2 hcap hcap2
  go_enter Tryz.func9, Tryz.ntmps9
  go_wp2_with (first
    | (refine wpList_min ?mng (.tmp 17) (.const (.int .i64 256)) 3 ?mno m 256 n ?mns ?mnx HMIN.out.symm ?mnr; (case mng => rfl); (case mno => rfl); (case mns => rfl); (case mnx => rfl))
    | (at_builtin; refine wpList_append_reads rfl (.tmp 14) (.tmp 19) 22 rfl 31 i0 (.int .u16 0) 1 2 Tryz.underlying22 hi hz0 hz1 hz2 rfl (by decide) _ 9 (some ⟨w.heap.size, 0, none⟩) 0 0 [] rfl HR0.out xa n c (cellsU L) rfl (by rw [cellsU_length, HL.out, Nat.mul_one]) HX.out (cellsU_one L) (by unfold maxLen; omega) (by omega) ?_; intro va1 vc1 w1 G1 h1 h2; rw [Nat.zero_add, List.nil_append] at h1; rw [Nat.zero_add]; have HR1 := Lib.hid h1; have HA1 := Lib.hid (HA0.out.trans (h2.mono (T := S98) (fun _ h => .inl h))); clear h1 h2)
    | (refine wpList_min ?mpg (.tmp 24) (.const (.int .i64 128)) 3 ?mpo m2 128 n2 ?mps ?mpx HMIN2.out.symm ?mpr; (case mpg => rfl); (case mpo => rfl); (case mps => rfl); (case mpx => rfl))
    | (at_builtin; refine wpList_append_reads rfl (.tmp 21) (.tmp 26) 23 rfl 111 j0 (.agg #[.int .i64 0, .int .u16 0]) 2 16 Tryz.underlying23 hj hy0 hy1 hy2 rfl (by decide) _ 8 (some ⟨w1.heap.size, 0, none⟩) 0 0 [] rfl (Row.new w1 G1 111 2 8 0 [] (Nat.zero_le _) rfl) ya n2 c2 (cellsR LR) rfl (by rw [cellsR_length, HLR.out]) (HYX HA1.out) (cellsR_one LR) (by unfold maxLen; omega) (by omega) ?_; intro ya1 yc1 w2 G2 h1 h2; rw [Nat.zero_add, List.nil_append] at h1; rw [Nat.zero_add]; have HRC := Lib.hid h1; have HRD := Lib.hid ((HR1.out.adv (S := fun _ => False) ((Adv.refl (fun _ => False) w1 G1).alloc (.cells #[] 111) 8) id).adv h2 (by omega)); have HA2 := Lib.hid ((HA1.out.alloc (.cells #[] 111) 8).trans (h2.mono (T := S98) (fun _ h => .inr h))); clear h1 h2))
  go_loopw [5] (fun v wr => ∃ j : Nat, j ≤ n2 ∧ v = .int .i64 j ∧ ∃ Gr, Adv S98 w (fun _ => 0) wr Gr ∧ Row 31 1 wr Gr 9 (.slice va1 n vc1) n (cellsU L) ∧ Row 111 2 wr Gr 8 (.slice ya1 n2 yc1) n2 (cellsR ((LR.take j).map normR ++ LR.drop j))) (fun v _ => n2 - (intOf v).toNat)
  case atStart => exact ⟨0, Nat.zero_le _, rfl, _, HA2.out, HRD.out, HRC.out⟩
  case round =>
    obtain ⟨j, hj0, rfl, Gr, h1, h2, h3⟩ := hrel
    by_cases hlt : j < n2
    · obtain ⟨ck, hck⟩ : ∃ ck, LR[j]? = some ck := ⟨LR[j]'(by rw [HLR.out]; exact hlt), by simp⟩
      obtain ⟨hw1, hw2⟩ := HWF.out ck (List.mem_of_getElem? hck)
      obtain ⟨g, rfl⟩ : ∃ g, ya1 = some ⟨g, 0, none⟩ := by
        obtain ⟨a', c', e1, _, _, h6⟩ := h3.slice
        cases e1; exact h6 (by omega)
      obtain ⟨hg, hG, hf, hc⟩ := h3.at (by omega)
      have hget := hc (j * 2) _ (normR_get LR j ck hck)
      have hf2 := hf (j * 2)
      have hlen : j * 2 < (cellsR ((LR.take j).map normR ++ LR.drop j)).length := by rw [h3.nlen]; omega
      have HS := Lib.hid (h3.store (j * 2) hlen (.int .i64 (1 + ck.1 % 4)))
      have HE := Lib.hid (normR_set LR j ck hck)
      have H1 := Lib.hid h1
      have H2 := Lib.hid h2
      have HRW := Lib.hid (show wrap64 (1 + (wrap64 (ck.1.tmod 4 + 4)).tmod 4) = 1 + ck.1 % 4 from by
        have h4 := rem4 ck.1
        have h5 : wrap64 (ck.1.tmod 4 + 4) = ck.1.tmod 4 + 4 := (by unfold wrap64; have := Int.tmod_lt_of_pos ck.1 (b := 4) (by decide); have := tmod_ge4 ck.1; omega)
        rw [h5, h4]
        unfold wrap64; omega)
      clear hck hf hc hG h1 h2 h3
      go_wp2
      go_roundw
      case rel =>
        rw [HRW.out]
        exact ⟨j + 1, by omega, by go_num, Gr, H1.out.trans (HS.out.1.mono (T := S98) (fun _ h => .inr h)), H2.out.adv HS.out.1 (by omega), by rw [← HE.out]; exact HS.out.2⟩
      case measure => simp [intOf]; omega
    · obtain rfl : n2 = j := by omega
      rw [List.take_of_length_le (by rw [HLR.out]; omega), List.drop_of_length_le (by rw [HLR.out]; omega), List.append_nil] at h3
      have HA3 := Lib.hid (h1.alloc (.cells #[] 31) 9)
      have hAr := (Adv.refl (fun _ => False) wr Gr).alloc (.cells #[] 31) 9
      have HRe := Lib.hid (h2.adv hAr id)
      have HRf := Lib.hid (h3.adv hAr id)
      have HR3 := Lib.hid (Row.new wr Gr 31 1 9 0 [] (Nat.zero_le _) rfl)
      clear h1 h2 h3 hAr
      go_wp2_with (first
        | (at_builtin; refine wpList_append_reads rfl (.tmp 48) (.tmp 49) 22 rfl 31 i0 (.int .u16 0) 1 2 Tryz.underlying22 hi hz0 hz1 hz2 rfl (by decide) _ 9 (some ⟨wr.heap.size, 0, none⟩) 0 0 [] rfl HR3.out va1 n vc1 (cellsU L) rfl (by rw [cellsU_length, HL.out, Nat.mul_one]) HRe.out.reads (cellsU_one L) (by unfold maxLen; omega) (by omega) ?_; intro va2 vc2 w13 G13 h1 h2; rw [Nat.zero_add, List.nil_append] at h1; rw [Nat.zero_add]; have hAs := (Adv.refl (fun _ => False) w13 G13).alloc (.cells #[] 111) 8; have HR4 := Lib.hid (h1.adv hAs id); have HA4 := Lib.hid ((HA3.out.trans (h2.mono (T := S98) (fun _ h => .inl h))).alloc (.cells #[] 111) 8); have HRg := Lib.hid ((HRf.out.adv h2 (by omega)).adv hAs id); clear h1 h2 hAs)
        | (at_builtin; refine wpList_append_reads rfl (.tmp 51) (.tmp 52) 23 rfl 111 j0 (.agg #[.int .i64 0, .int .u16 0]) 2 16 Tryz.underlying23 hj hy0 hy1 hy2 rfl (by decide) _ 8 (some ⟨w13.heap.size, 0, none⟩) 0 0 [] rfl (Row.new w13 G13 111 2 8 0 [] (Nat.zero_le _) rfl) ya1 n2 yc1 (cellsR (LR.map normR)) rfl (by rw [cellsR_length, List.length_map, HLR.out]) HRg.out.reads (cellsR_one _) (by unfold maxLen; omega) (by omega) ?_; intro ya2 yc2 w14 G14 h1 h2; rw [Nat.zero_add, List.nil_append] at h1; rw [Nat.zero_add]; have HR5 := Lib.hid h1; have HR6 := Lib.hid (HR4.out.adv h2 (by omega)); have HA5 := Lib.hid (HA4.out.trans (h2.mono (T := S98) (fun _ h => .inr h))); clear h1 h2))
      refine (stacksP G14 1 2 va2 n vc2 L ya2 n2 yc2 (LR.map normR) w14 HL.out hnm HR6.out.reads (by rw [List.length_map, HLR.out]) hnm2 HR5.out.reads (normR_good LR)).mono ?_
      rintro e w3 ⟨D, R, G3, rfl, ha3, hp3, hr3⟩
      have hb1 := ((Adv.refl (fun _ => False) w3 G3).alloc (.cells #[.int .u8 1, .int .u8 2, .int .u8 3] 5) 9).alloc (.cells #[.int .u8 4] 5) 9
      have hb2 := hb1.alloc (.cells #[.int .i64 0, .slice (some ⟨w3.heap.size, 0, none⟩) 3 3, .int .i64 9, .slice (some ⟨w3.heap.size + 1, 0, none⟩) 1 1] 47) 9
      obtain ⟨G4, hG4⟩ : ∃ G4, G4 = own1 ((w3.alloc (.cells #[.int .u8 1, .int .u8 2, .int .u8 3] 5)).alloc (.cells #[.int .u8 4] 5)) (own1 (w3.alloc (.cells #[.int .u8 1, .int .u8 2, .int .u8 3] 5)) (own1 w3 G3 9) 9) 9 := ⟨_, rfl⟩
      rw [← hG4] at hb2
      have HB2 := Lib.hid hb2
      have HA6 := Lib.hid ((HA5.out.trans (ha3.mono (T := S98) (fun _ h => h.elim))).trans (hb2.mono (T := S98) (fun _ h => h.elim)))
      have HP6 := Lib.hid (hp3.adv hb2 id)
      have HR6 := Lib.hid (hr3.adv hb2 id)
      clear ha3 hp3 hr3 hb1 hb2 hG4
      go_wp2_with fail
      refine (new_ok G4 3 (by omega) _ 2 2 banks2 rfl (by omega) (by decide) _ (bankIn2 w3 G4)).mono ?_
      rintro e w5 ⟨M, G5, rfl, ha5, hm5⟩
      have HA7 := Lib.hid (HA6.out.trans (ha5.mono (T := S98) (fun _ h => h.elim)))
      have HP7 := Lib.hid (HP6.out.adv ha5 id)
      have HR7 := Lib.hid (HR6.out.adv ha5 id)
      have HM7 := Lib.hid hm5
      have HI7 := Lib.hid (fun (w' : World) (G' : Nat → Nat) (h : Adv (fun _ => False) w5 G5 w' G') => bankIn2 w3 G4 w' G' (ha5.trans h))
      clear ha5 hm5
      go_wp2_with fail
      refine (refNew_any G5 _ 2 2 banks2 rfl (by omega) (by decide) _ HI7.out).mono ?_
      rintro e w6 ⟨Z, G6, rfl, ha6⟩
      have HA8 := Lib.hid (HA7.out.trans (ha6.mono (T := S98) (fun _ h => h.elim)))
      have HP8 := Lib.hid (HP7.out.adv ha6 id)
      have HR8 := Lib.hid (HR7.out.adv ha6 id)
      have HM8 := Lib.hid (HM7.out.adv ha6 id)
      clear ha6
      go_wp2_with fail
      go_ret
      have hx := (((HA8.out.alloc (.cells #[.slice va1 n vc1] 119) 9).alloc (.cells #[.slice ya1 n2 yc1] 121) 9).alloc (.cells #[.pointer (some ⟨D, 0, none⟩), .pointer (some ⟨R, 0, none⟩), .pointer (some ⟨M, 0, none⟩), .pointer (some ⟨w6.heap.size, 0, none⟩), .pointer (some ⟨w6.heap.size + 1, 0, none⟩), .pointer (some ⟨Z, 0, none⟩)] 82) 0)
      have hf := (((Adv.refl (fun _ => False) w6 G6).alloc (.cells #[.slice va1 n vc1] 119) 9).alloc (.cells #[.slice ya1 n2 yc1] 121) 9).alloc (.cells #[.pointer (some ⟨D, 0, none⟩), .pointer (some ⟨R, 0, none⟩), .pointer (some ⟨M, 0, none⟩), .pointer (some ⟨w6.heap.size, 0, none⟩), .pointer (some ⟨w6.heap.size + 1, 0, none⟩), .pointer (some ⟨Z, 0, none⟩)] 82) 0
      refine ⟨w6.heap.size + 1 + 1, D, R, M, _, rfl, joined_adv hx (by unfold S98; omega), ⟨_, _, _, heap_at _ _ _ (by simp), ?_⟩, (HP8.out.adv hf id).relabel (joined_new hx (by decide)), (HR8.out.adv hf id).relabel (joined_new hx (by decide)), (HM8.out.adv hf id).relabel (joined_new hx (by decide)), by have := HA8.out.size; omega⟩
      have hs := HA8.out.size
      unfold joined
      rw [if_neg (by omega)]
      simp [own1]
end Go.Proofs.YtdnalhjdmlkbmaaGreatDoor
namespace Go.Proofs.YtdnalhjdmlkbmaaGreatDoor
open Go.RowKit
set_option linter.unusedVariables false

/-- Block K is a desk over these three. -/
def Desk (w : World) (G : Nat → Nat) (K D R : Nat) (M : Option Addr) : Prop :=
  w.heap[K]? = some (.cells #[.pointer (some ⟨D, 0, none⟩), .pointer (some ⟨R, 0, none⟩), .pointer M] 181 (0, 0)) ∧ G K = 0
theorem Desk.adv {S : Nat → Prop} {w w' : World} {G G' : Nat → Nat} {K D R : Nat} {M : Option Addr} (h : Desk w G K D R M) (ha : Adv S w G w' G') (hs : ¬ S 0) : Desk w' G' K D R M := by
  have hl : K < w.heap.size := (Array.getElem?_eq_some_iff.1 h.1).1
  exact ⟨(ha.keep K hl (by rw [h.2]; exact hs)).trans h.1, (ha.own K hl).trans h.2⟩
theorem Desk.lt {w : World} {G : Nat → Nat} {K D R : Nat} {M : Option Addr} (h : Desk w G K D R M) : K < w.heap.size := (Array.getElem?_eq_some_iff.1 h.1).1
theorem Desk.setCell {w : World} {G : Nat → Nat} {K D R : Nat} {M : Option Addr} (h : Desk w G K D R M) {p : Addr} (hp : p.block ≠ K) (u : Value) : Desk (w.setCell p u) G K D R M :=
  ⟨(Below.heap_setCell _ _ _ _ (fun e => hp e.symm)).trans h.1, h.2⟩
theorem Desk.d {w : World} {G : Nat → Nat} {K D R : Nat} {M : Option Addr} (h : Desk w G K D R M) : w.cell? ⟨K, 0, none⟩ = some (.pointer (some ⟨D, 0, none⟩)) := block_cell h.1 0 _ rfl
theorem Desk.r {w : World} {G : Nat → Nat} {K D R : Nat} {M : Option Addr} (h : Desk w G K D R M) : w.cell? ⟨K, 1, none⟩ = some (.pointer (some ⟨R, 0, none⟩)) := block_cell h.1 1 _ rfl
theorem Desk.m {w : World} {G : Nat → Nat} {K D R : Nat} {M : Option Addr} (h : Desk w G K D R M) : w.cell? ⟨K, 2, none⟩ = some (.pointer M) := block_cell h.1 2 _ rfl

/-- The row of taken: what is still to come is 0. -/
theorem taken_set (t : List Int) (m : Nat) (x : Int) (hx : t[m]? = some x) : (cellsU (List.replicate (m + 1) 0 ++ t.drop (m + 1))).set m (.int .u16 x) = cellsU (List.replicate m 0 ++ t.drop m) := by
  have hlt : m < t.length := (List.getElem?_eq_some_iff.1 hx).1
  have hd : t.drop m = x :: t.drop (m + 1) := by
    rw [List.drop_eq_getElem_cons hlt]
    congr 1
    have := (List.getElem?_eq_some_iff.1 hx).2
    exact this
  rw [hd]
  apply List.ext_getElem?
  intro j
  simp only [cellsU, List.map_append, List.map_replicate, List.map_cons, List.getElem?_set, List.length_append, List.length_replicate, List.length_map, List.length_drop]
  rcases Nat.lt_trichotomy j m with h | h | h
  · rw [if_neg (by omega), List.getElem?_append_left (by simp; omega), List.getElem?_append_left (by simp; omega), List.getElem?_replicate, List.getElem?_replicate, if_pos (by omega), if_pos h]
  · subst h
    rw [if_pos rfl, if_pos (by omega), List.getElem?_append_right (by simp)]
    simp
  · rw [if_neg (by omega), List.getElem?_append_right (by simp; omega), List.getElem?_append_right (by simp; omega)]
    simp only [List.length_replicate]
    rw [show j - m = (j - (m + 1)) + 1 from by omega, List.getElem?_cons_succ]

set_option maxRecDepth 100000 in
set_option maxHeartbeats 1000000 in
theorem taken_any (G : Nat → Nat) (i D K R : Nat) (M : Option Addr) (base t : List Int) (n : Nat) (hn : t.length = n) (h0 : 0 < n) (h4 : n ≤ 100) (hi : i ≠ 0) (w : World) (hp : PU w G i D (base ++ t)) (hk : Desk w G K D R M) :
    Calls Tryz.prog 179 #[.pointer (some ⟨K, 0, none⟩), .int .i64 n] w fun e w' =>
      ∃ b G', e = .returned (.slice (some ⟨b, 0, none⟩) n n) ∧ Adv (· = i) w G w' G' ∧ PU w' G' i D base ∧ Row 31 1 w' G' 0 (.slice (some ⟨b, 0, none⟩) n n) n (cellsU t) := by
  have hmk := run_makeU w n (by omega)
  have hKl := hk.lt
  have HN := Lib.hid hn
  have HA0 := Lib.hid ((Adv.refl (· = i) w G).alloc (.cells (cellsU (List.replicate n 0)).toArray 31) 0)
  have hAf := (Adv.refl (fun _ => False) w G).alloc (.cells (cellsU (List.replicate n 0)).toArray 31) 0
  have HP := Lib.hid (hp.adv hAf id)
  have HK := Lib.hid (hk.adv hAf id)
  have HR := Lib.hid (Row.new w G 31 1 0 n (cellsU (List.replicate n 0)) (by unfold maxLen; omega) (by simp [cellsU]))
  clear hn hp hk hAf
  go_enter Tryz.func179, Tryz.ntmps179
  go_wp2_with fail
  go_loopw [11] (fun v wr => ∃ j : Nat, j ≤ n ∧ v = .int .i64 j ∧ ∃ Gr, Adv (· = i) w G wr Gr ∧ PU wr Gr i D (base ++ t.take (n - j)) ∧ Desk wr Gr K D R M ∧ Row 31 1 wr Gr 0 (.slice (some ⟨w.heap.size, 0, none⟩) n n) n (cellsU (List.replicate (n - j) 0 ++ t.drop (n - j)))) (fun v _ => n - (intOf v).toNat)
  case atStart => exact ⟨0, Nat.zero_le _, rfl, _, HA0.out, by rw [List.take_of_length_le (by rw [HN.out]; omega)]; exact HP.out, HK.out, by rw [List.drop_of_length_le (by rw [HN.out]; omega), List.append_nil]; exact HR.out⟩
  case round =>
    obtain ⟨j, hj, rfl, Gr, h1, h2, h3, h4⟩ := hrel
    by_cases hlt : j < n
    · obtain ⟨x, hx⟩ : ∃ x, t[n - 1 - j]? = some x := ⟨t[n - 1 - j]'(by rw [HN.out]; omega), by simp⟩
      have htk : base ++ t.take (n - j) = (base ++ t.take (n - 1 - j)) ++ [x] := by
        rw [List.append_assoc]; congr 1
        rw [show n - j = n - 1 - j + 1 from by omega, List.take_add_one, hx]; rfl
      rw [htk] at h2
      have hset := taken_set t (n - 1 - j) x hx
      rw [show n - 1 - j + 1 = n - j from by omega] at hset
      have hD := h3.d
      have HX := Lib.hid hset
      have H1 := Lib.hid h1
      have H2 := Lib.hid h2
      have H3 := Lib.hid h3
      have H4 := Lib.hid h4
      clear hx htk hset h1 h2 h3 h4
      go_wp2_with fail
      refine (popPU Gr i D (base ++ t.take (n - 1 - j)) x _ H2.out).mono ?_
      rintro e w1 ⟨rfl, ha, hp1⟩
      have hR1 := H4.out.adv ha (by omega)
      obtain ⟨hg, hG, hf, hc⟩ := hR1.at h0
      have hlen : n - 1 - j < (cellsU (List.replicate (n - j) 0 ++ t.drop (n - j))).length := by rw [hR1.nlen]; omega
      have hc1 := hc (n - 1 - j) _ (List.getElem?_eq_getElem hlen)
      have hf1 := hf (n - 1 - j)
      have HS := Lib.hid (hR1.store (n - 1 - j) hlen (.int .u16 x))
      have HP1 := Lib.hid hp1
      have HA1 := Lib.hid (H1.out.trans ha)
      have HK1 := Lib.hid (H3.out.adv ha (by omega))
      clear hc hf ha hp1 hR1 hG
      go_wp2
      go_roundw
      case rel =>
        refine ⟨j + 1, by omega, by go_num, Gr, HA1.out.setNew (Nat.le_refl _) _, ?_, HK1.out.setCell (fun e => by simp at e; omega) _, ?_⟩
        · rw [show n - (j + 1) = n - 1 - j from by omega]; exact HP1.out.adv HS.out.1 (by omega)
        · rw [show n - (j + 1) = n - 1 - j from by omega, ← HX.out]; exact HS.out.2
      case measure => simp [intOf]; omega
    · have hjn : j = n := by omega
      have HJ := Lib.hid hjn
      have HB := Lib.hid (And.intro h1 (And.intro h2 (And.intro h3 h4)))
      clear hjn h1 h2 h3 h4
      go_wp2
      go_ret
      obtain ⟨h1, h2, h3, h4⟩ := HB.out
      rw [HJ.out, Nat.sub_self, List.take_zero, List.append_nil] at h2
      rw [HJ.out, Nat.sub_self, List.drop_zero, List.replicate_zero, List.nil_append] at h4
      exact ⟨w.heap.size, Gr, rfl, h1, h2, h4⟩

/-- What a shuffle puts: the cells at these places. -/
def cellsI (ps : List Nat) : List Value := ps.map fun (p : Nat) => Value.int .i64 (p : Int)
def picks (t : List Int) (ps : List Nat) : List Int := ps.map fun p => t.getD p 0
set_option maxRecDepth 100000 in
set_option maxHeartbeats 1000000 in
theorem shuffle_any (G : Nat → Nat) (i D K R : Nat) (M : Option Addr) (base t : List Int) (n : Nat) (hn : t.length = n) (h0 : 0 < n) (h4 : n ≤ 100) (ps : List Nat) (hps : ∀ p ∈ ps, p < n) (hroom : base.length + ps.length ≤ 256) (hi : i ≠ 0)
    (B1 B2 : Nat) (la : Option Addr) (lc : Nat) (w : World) (hp : PU w G i D (base ++ t)) (hk : Desk w G K D R M)
    (hB1 : w.cell? ⟨B1, 0, none⟩ = some (.int .i64 n)) (_hG1 : G B1 = 0) (hB2 : w.cell? ⟨B2, 0, none⟩ = some (.slice la ps.length lc)) (hG2 : G B2 = 0)
    (hla : Reads w la (cellsI ps)) (hGl : ∀ ad, la = some ad → G ad.block = 0 ∧ ad.block < w.heap.size) :
    Calls Tryz.prog 178 #[.pointer (some ⟨K, 0, none⟩), .pointer (some ⟨B1, 0, none⟩), .pointer (some ⟨B2, 0, none⟩)] w fun e w' =>
      e = .returned (.tuple #[]) ∧ ∃ G', Adv (· = i) w G w' G' ∧ PU w' G' i D (base ++ picks t ps) := by
  have HP := Lib.hid hp
  have HK := Lib.hid hk
  have HN := Lib.hid hn
  have HLA := Lib.hid hla
  have HGL := Lib.hid hGl
  have HPS := Lib.hid hps
  clear hp hk hn hla hGl hps
  go_enter Tryz.func178, Tryz.ntmps178
  go_wp2_with fail
  refine (taken_any G i D K R M base t n HN.out h0 h4 hi _ HP.out HK.out).mono ?_
  rintro e w1 ⟨b, G1, rfl, ha, hp1, hr1⟩
  have hB2' := ha.cell_some (p := ⟨B2, 0, none⟩) hB2 (by rw [hG2]; omega)
  have HA := Lib.hid ha
  have HP1 := Lib.hid hp1
  have HR1 := Lib.hid hr1
  have HK1 := Lib.hid (HK.out.adv ha (by omega))
  have HL1 := Lib.hid (HLA.out.adv ha (fun ad e => by rw [(HGL.out ad e).1]; omega))
  clear ha hp1 hr1
  go_wp2_with fail
  go_loopw [12] (fun v wr => ∃ j : Nat, j ≤ ps.length ∧ v = .int .i64 j ∧ ∃ Gr, Adv (· = i) w1 G1 wr Gr ∧ PU wr Gr i D (base ++ picks t (ps.take j))) (fun v _ => ps.length - (intOf v).toNat)
  case atStart => exact ⟨0, Nat.zero_le _, rfl, G1, Adv.refl _ _ _, by simpa [picks] using HP1.out⟩
  case round =>
    obtain ⟨j, hj, rfl, Gr, h1, h2⟩ := hrel
    by_cases hlt : j < ps.length
    · obtain ⟨p, hpj⟩ : ∃ p, ps[j]? = some p := ⟨ps[j], by simp [hlt]⟩
      have hpn := HPS.out p (List.mem_of_getElem? hpj)
      have hcj : (cellsI ps)[j]? = some (.int .i64 p) := by simp [cellsI, hpj]
      obtain ⟨bl, ol, hla, hcl, hbl⟩ := (HL1.out.adv h1 (fun ad e => by
        have := HGL.out ad e
        rw [HA.out.own _ this.2, this.1]; omega)).some (by intro e; rw [e] at hcj; simp at hcj)
      have hcl1 := hcl j _ hcj
      have hrow := HR1.out.adv h1 (by omega)
      obtain ⟨hg, hG, hf, hc⟩ := hrow.at h0
      obtain ⟨x, hx⟩ : ∃ x, t[p]? = some x := ⟨t[p]'(by rw [HN.out]; exact hpn), by simp⟩
      have hcx := hc p _ (cellsU_at t p x hx)
      have hD := (HK1.out.adv h1 (by omega)).d
      have hKz := (HK1.out.adv h1 (by omega)).lt
      have hpk : picks t (ps.take (j + 1)) = picks t (ps.take j) ++ [x] := by
        rw [List.take_add_one, hpj]; simp [picks, hx]
      have HPK := Lib.hid hpk
      have H1 := Lib.hid h1
      have H2 := Lib.hid h2
      clear h1 h2 hpk hcl hc hf hcj hpj hx hG hrow
      rw [hla]
      go_wp2_with fail
      have HZ := Lib.hid (show Reads (wr.alloc (.cells #[.int .u16 x] 31)).drew (some ⟨wr.heap.size, 0, none⟩) (cellsU [x]) from Reads.new wr [.int .u16 x] 31)
      have HL := Lib.hid (show (base ++ picks t (ps.take j)).length + 1 ≤ 256 from by simp [picks]; omega)
      go_region_with (go_at_call 39; refine (pushPU (own1 wr Gr 0) i D (base ++ picks t (ps.take j)) [x] _ 1 1 _ (H2.out.alloc (.cells #[.int .u16 x] 31) 0).drew rfl HL.out HZ.out).mono ?_; rintro e w2 ⟨rfl, G2, ha2, hp2⟩)
      all_goals
        have HA2 := Lib.hid (H1.out.trans (((Adv.refl (· = i) wr Gr).alloc (.cells #[.int .u16 x] 31) 0).drew.trans ha2))
        clear ha2
        go_wp2
        go_roundw
        case rel => exact ⟨j + 1, by omega, by go_num, G2, HA2.out, by rw [HPK.out, ← List.append_assoc]; exact hp2⟩
        case measure => simp [intOf]; omega
    · have hjn : j = ps.length := by omega
      have HJ := Lib.hid hjn
      have HB := Lib.hid (And.intro h1 h2)
      clear hjn h1 h2
      go_wp2
      go_end0
      rw [HJ.out, List.take_length] at HB
      exact ⟨rfl, Gr, HA.out.trans HB.out.1, HB.out.2⟩
end Go.Proofs.YtdnalhjdmlkbmaaGreatDoor
namespace Go.Proofs.YtdnalhjdmlkbmaaGreatDoor
open Go.RowKit

/-- A memory's parts have their sizes. -/
structure MemOk (M : MemS) : Prop where
  ram : M.ram.length = 16384
  screen : M.screen.length = 3072
  banks : ∀ p ∈ M.banks, p.2.length = 16384
theorem head_ram (B : Nat) (M : MemS) (tv : Value) (hm : MemOk M) (k : Nat) (hk : k < 16384) : (headC B M tv)[1 + k]? = some (.int .u8 (M.ram.getD k 0)) := by
  have h : (M.ram)[k]? = some (M.ram.getD k 0) := by rw [List.getD_eq_getElem?_getD]; simp [hm.ram, hk]
  unfold headC
  rw [List.append_assoc, List.append_assoc, List.getElem?_append_right (by simp), List.getElem?_append_left (by simp [u8s_length, hm.ram, hk])]
  simpa using u8s_at _ k _ h
theorem head_screen (B : Nat) (M : MemS) (tv : Value) (hm : MemOk M) (k : Nat) (hk : k < 3072) : (headC B M tv)[16385 + k]? = some (.int .u8 (M.screen.getD k 0)) := by
  have h : (M.screen)[k]? = some (M.screen.getD k 0) := by rw [List.getD_eq_getElem?_getD]; simp [hm.screen, hk]
  unfold headC
  rw [List.append_assoc, List.getElem?_append_right (by simp [u8s_length, hm.ram]), List.getElem?_append_left (by simp [u8s_length, hm.ram, hm.screen, hk])]
  have e : 16385 + k - ([Value.map (some B)] ++ u8s M.ram).length = k := by simp [u8s_length, hm.ram]
  rw [e]
  exact u8s_at _ k _ h
theorem head_tail (B : Nat) (M : MemS) (tv : Value) (hm : MemOk M) (k : Nat) : (headC B M tv)[19457 + k]? = ([.int .u8 M.chosen, .int .u8 M.pad, .int .u8 M.volume, .int .u16 M.pitch, .int .u16 M.time, .int .i64 M.cycle, tv] : List Value)[k]? := by
  unfold headC
  rw [List.getElem?_append_right (by simp [u8s_length, hm.ram, hm.screen])]
  have e : 19457 + k - ([Value.map (some B)] ++ u8s M.ram ++ u8s M.screen).length = k := by simp [u8s_length, hm.ram, hm.screen]
  rw [e]
theorem PMx.cell {w : World} {G : Nat → Nat} {i D B : Nat} {bs : List Nat} {tv : Value} {M : MemS} (h : PMx w G i D B bs tv M) (j : Nat) (v : Value) (hv : (headC B M tv)[j]? = some v) : w.cell? ⟨D, j, none⟩ = some v := by
  obtain ⟨C, h1, h2⟩ := h.head
  exact block_cell h1 j v (by rw [← Array.getElem?_toList, h2]; exact hv)
theorem PMx.free {w : World} {G : Nat → Nat} {i D B : Nat} {bs : List Nat} {tv : Value} {M : MemS} (h : PMx w G i D B bs tv M) (j : Nat) : w.frozen? ⟨D, j, none⟩ = false := by
  obtain ⟨C, h1, h2⟩ := h.head
  exact block_free h1 j
theorem PMx.mapc {w : World} {G : Nat → Nat} {i D B : Nat} {bs : List Nat} {tv : Value} {M : MemS} (h : PMx w G i D B bs tv M) : w.cell? ⟨D, 0, none⟩ = some (.map (some B)) := h.cell 0 _ rfl
theorem PMx.ramc {w : World} {G : Nat → Nat} {i D B : Nat} {bs : List Nat} {tv : Value} {M : MemS} (h : PMx w G i D B bs tv M) (hm : MemOk M) (k : Nat) (hk : k < 16384) : w.cell? ⟨D, 1 + k, none⟩ = some (.int .u8 (M.ram.getD k 0)) := h.cell _ _ (head_ram B M tv hm k hk)
theorem PMx.screenc {w : World} {G : Nat → Nat} {i D B : Nat} {bs : List Nat} {tv : Value} {M : MemS} (h : PMx w G i D B bs tv M) (hm : MemOk M) (k : Nat) (hk : k < 3072) : w.cell? ⟨D, 16385 + k, none⟩ = some (.int .u8 (M.screen.getD k 0)) := h.cell _ _ (head_screen B M tv hm k hk)
theorem PMx.ports {w : World} {G : Nat → Nat} {i D B : Nat} {bs : List Nat} {tv : Value} {M : MemS} (h : PMx w G i D B bs tv M) (hm : MemOk M) :
    w.cell? ⟨D, 19457, none⟩ = some (.int .u8 M.chosen) ∧ w.cell? ⟨D, 19458, none⟩ = some (.int .u8 M.pad) ∧ w.cell? ⟨D, 19459, none⟩ = some (.int .u8 M.volume) ∧ w.cell? ⟨D, 19460, none⟩ = some (.int .u16 M.pitch) ∧ w.cell? ⟨D, 19461, none⟩ = some (.int .u16 M.time) ∧ w.cell? ⟨D, 19462, none⟩ = some (.int .i64 M.cycle) ∧ w.cell? ⟨D, 19463, none⟩ = some tv :=
  ⟨h.cell _ _ (head_tail B M tv hm 0), h.cell _ _ (head_tail B M tv hm 1), h.cell _ _ (head_tail B M tv hm 2), h.cell _ _ (head_tail B M tv hm 3), h.cell _ _ (head_tail B M tv hm 4), h.cell _ _ (head_tail B M tv hm 5), h.cell _ _ (head_tail B M tv hm 6)⟩
/-- A new memory has its sizes, where no bank is too long. -/
theorem newM_ok (l : List (Int × List Int)) (h : ∀ p ∈ l, p.2.length ≤ 16384) : MemOk (newM l) := by
  refine ⟨List.length_replicate, List.length_replicate, fun p hp => ?_⟩
  have hp' : p ∈ l.map fun p => (p.1, p.2 ++ List.replicate (16384 - p.2.length) 0) := hp
  simp only [List.mem_map] at hp'
  obtain ⟨q, hq, rfl⟩ := hp'
  have := h q hq
  rw [List.length_append, List.length_replicate]; omega
end Go.Proofs.YtdnalhjdmlkbmaaGreatDoor
namespace Go.Proofs.YtdnalhjdmlkbmaaGreatDoor
open Go.RowKit

def bankF : List (Int × List Int) → Int → Option (List Int)
  | [], _ => none
  | p :: l, c => if p.1 = c then some p.2 else bankF l c
def portF (M : MemS) (a : Int) : Int :=
  if a = 65280 then M.chosen else if a = 65282 then M.pad else if a = 65284 then IntKind.wrap .u8 M.pitch else if a = 65285 then IntKind.wrap .u8 (M.pitch / 256)
  else if a = 65286 then M.volume else if a = 65288 then IntKind.wrap .u8 M.time else if a = 65289 then IntKind.wrap .u8 (M.time / 256) else 0
def loadF (M : MemS) (a : Int) : Int :=
  if a < 16384 then 0 else if a < 32768 then ((bankF M.banks M.chosen).getD []).getD (a - 16384).toNat 0
  else if a < 49152 then M.ram.getD (a - 32768).toNat 0 else if a < 52224 then M.screen.getD (a - 49152).toNat 0 else portF M a
theorem load_low (D : Nat) (M : MemS) (a : Int) (h : a < 16384) (w : World) : Calls Tryz.prog 69 #[.pointer (some ⟨D, 0, none⟩), .int .u16 a] w fun e w' => e = .returned (.int .u8 (loadF M a)) ∧ w = w' := by
  have hv : loadF M a = 0 := if_pos h
  rw [hv]
  have b1 : decide (a < 16384) = true := by simpa using h
  go_enter Tryz.func69, Tryz.ntmps69
  go_wp2
  go_ret
  exact ⟨rfl, rfl⟩
theorem load_ram (G : Nat → Nat) (i D B : Nat) (bs : List Nat) (tv : Value) (M : MemS) (hm : MemOk M) (k : Nat) (hk : k < 16384) (w : World) (hp : PMx w G i D B bs tv M) : Calls Tryz.prog 69 #[.pointer (some ⟨D, 0, none⟩), .int .u16 (32768 + (k : Int))] w fun e w' => e = .returned (.int .u8 (loadF M (32768 + (k : Int)))) ∧ w = w' := by
  have hv : loadF M (32768 + (k : Int)) = M.ram.getD k 0 := by
    unfold loadF
    rw [if_neg (by omega), if_neg (by omega), if_pos (by omega), show (32768 + (k : Int) - 32768).toNat = k from by omega]
  rw [hv]
  have b1 : decide (32768 + (k : Int) < 16384) = false := by simp; omega
  have b2 : decide (32768 + (k : Int) < 32768) = false := by simp; omega
  have b3 : decide (32768 + (k : Int) < 49152) = true := by simp; omega
  have c1 := hp.ramc hm k hk
  clear hv hp
  go_enter Tryz.func69, Tryz.ntmps69
  go_wp2
  go_ret
  exact ⟨by simp, rfl⟩
theorem load_screen (G : Nat → Nat) (i D B : Nat) (bs : List Nat) (tv : Value) (M : MemS) (hm : MemOk M) (k : Nat) (hk : k < 3072) (w : World) (hp : PMx w G i D B bs tv M) : Calls Tryz.prog 69 #[.pointer (some ⟨D, 0, none⟩), .int .u16 (49152 + (k : Int))] w fun e w' => e = .returned (.int .u8 (loadF M (49152 + (k : Int)))) ∧ w = w' := by
  have hv : loadF M (49152 + (k : Int)) = M.screen.getD k 0 := by
    unfold loadF
    rw [if_neg (by omega), if_neg (by omega), if_neg (by omega), if_pos (by omega), show (49152 + (k : Int) - 49152).toNat = k from by omega]
  rw [hv]
  have b1 : decide (49152 + (k : Int) < 16384) = false := by simp; omega
  have b2 : decide (49152 + (k : Int) < 32768) = false := by simp; omega
  have b3 : decide (49152 + (k : Int) < 49152) = false := by simp; omega
  have b4 : decide (49152 + (k : Int) < 52224) = true := by simp; omega
  have c1 := hp.screenc hm k hk
  clear hv hp
  go_enter Tryz.func69, Tryz.ntmps69
  go_wp2
  go_ret
  exact ⟨by simp, rfl⟩
theorem load_65280 (G : Nat → Nat) (i D B : Nat) (bs : List Nat) (tv : Value) (M : MemS) (hm : MemOk M) (w : World) (hp : PMx w G i D B bs tv M) : Calls Tryz.prog 69 #[.pointer (some ⟨D, 0, none⟩), .int .u16 65280] w fun e w' => e = .returned (.int .u8 (loadF M 65280)) ∧ w = w' := by
  obtain ⟨c0, c1, c2, c3, c4, -, -⟩ := hp.ports hm
  have hv : loadF M 65280 = M.chosen := rfl
  rw [hv]
  clear hv hp
  go_enter Tryz.func69, Tryz.ntmps69
  go_wp2
  go_ret
  exact ⟨rfl, rfl⟩
theorem load_65282 (G : Nat → Nat) (i D B : Nat) (bs : List Nat) (tv : Value) (M : MemS) (hm : MemOk M) (w : World) (hp : PMx w G i D B bs tv M) : Calls Tryz.prog 69 #[.pointer (some ⟨D, 0, none⟩), .int .u16 65282] w fun e w' => e = .returned (.int .u8 (loadF M 65282)) ∧ w = w' := by
  obtain ⟨c0, c1, c2, c3, c4, -, -⟩ := hp.ports hm
  have hv : loadF M 65282 = M.pad := rfl
  rw [hv]
  clear hv hp
  go_enter Tryz.func69, Tryz.ntmps69
  go_wp2
  go_ret
  exact ⟨rfl, rfl⟩
theorem load_65284 (G : Nat → Nat) (i D B : Nat) (bs : List Nat) (tv : Value) (M : MemS) (hm : MemOk M) (w : World) (hp : PMx w G i D B bs tv M) : Calls Tryz.prog 69 #[.pointer (some ⟨D, 0, none⟩), .int .u16 65284] w fun e w' => e = .returned (.int .u8 (loadF M 65284)) ∧ w = w' := by
  obtain ⟨c0, c1, c2, c3, c4, -, -⟩ := hp.ports hm
  have hv : loadF M 65284 = IntKind.wrap .u8 M.pitch := rfl
  rw [hv]
  clear hv hp
  go_enter Tryz.func69, Tryz.ntmps69
  go_wp2
  go_ret
  exact ⟨rfl, rfl⟩
theorem load_65285 (G : Nat → Nat) (i D B : Nat) (bs : List Nat) (tv : Value) (M : MemS) (hm : MemOk M) (w : World) (hp : PMx w G i D B bs tv M) : Calls Tryz.prog 69 #[.pointer (some ⟨D, 0, none⟩), .int .u16 65285] w fun e w' => e = .returned (.int .u8 (loadF M 65285)) ∧ w = w' := by
  obtain ⟨c0, c1, c2, c3, c4, -, -⟩ := hp.ports hm
  have hv : loadF M 65285 = IntKind.wrap .u8 (M.pitch / 256) := rfl
  rw [hv]
  clear hv hp
  go_enter Tryz.func69, Tryz.ntmps69
  go_wp2
  go_ret
  exact ⟨rfl, rfl⟩
theorem load_65286 (G : Nat → Nat) (i D B : Nat) (bs : List Nat) (tv : Value) (M : MemS) (hm : MemOk M) (w : World) (hp : PMx w G i D B bs tv M) : Calls Tryz.prog 69 #[.pointer (some ⟨D, 0, none⟩), .int .u16 65286] w fun e w' => e = .returned (.int .u8 (loadF M 65286)) ∧ w = w' := by
  obtain ⟨c0, c1, c2, c3, c4, -, -⟩ := hp.ports hm
  have hv : loadF M 65286 = M.volume := rfl
  rw [hv]
  clear hv hp
  go_enter Tryz.func69, Tryz.ntmps69
  go_wp2
  go_ret
  exact ⟨rfl, rfl⟩
theorem load_65288 (G : Nat → Nat) (i D B : Nat) (bs : List Nat) (tv : Value) (M : MemS) (hm : MemOk M) (w : World) (hp : PMx w G i D B bs tv M) : Calls Tryz.prog 69 #[.pointer (some ⟨D, 0, none⟩), .int .u16 65288] w fun e w' => e = .returned (.int .u8 (loadF M 65288)) ∧ w = w' := by
  obtain ⟨c0, c1, c2, c3, c4, -, -⟩ := hp.ports hm
  have hv : loadF M 65288 = IntKind.wrap .u8 M.time := rfl
  rw [hv]
  clear hv hp
  go_enter Tryz.func69, Tryz.ntmps69
  go_wp2
  go_ret
  exact ⟨rfl, rfl⟩
theorem load_65289 (G : Nat → Nat) (i D B : Nat) (bs : List Nat) (tv : Value) (M : MemS) (hm : MemOk M) (w : World) (hp : PMx w G i D B bs tv M) : Calls Tryz.prog 69 #[.pointer (some ⟨D, 0, none⟩), .int .u16 65289] w fun e w' => e = .returned (.int .u8 (loadF M 65289)) ∧ w = w' := by
  obtain ⟨c0, c1, c2, c3, c4, -, -⟩ := hp.ports hm
  have hv : loadF M 65289 = IntKind.wrap .u8 (M.time / 256) := rfl
  rw [hv]
  clear hv hp
  go_enter Tryz.func69, Tryz.ntmps69
  go_wp2
  go_ret
  exact ⟨rfl, rfl⟩
/-- The bank of a number, as the map has it. -/
theorem zip_find : ∀ (l : List (Int × List Int)) (bs : List Nat), bs.length = l.length → ∀ c : Int,
    (bankF l c = none ∧ valI (List.zipWith (fun (p : Int × List Int) (b : Nat) => (p.1, Value.pointer (some ⟨b, 0, none⟩))) l bs) c = none) ∨
    ∃ (k : Nat) (p : Int × List Int) (b : Nat), l[k]? = some p ∧ bs[k]? = some b ∧ p.1 = c ∧ bankF l c = some p.2 ∧ valI (List.zipWith (fun (p : Int × List Int) (b : Nat) => (p.1, Value.pointer (some ⟨b, 0, none⟩))) l bs) c = some (.pointer (some ⟨b, 0, none⟩))
  | [], _, _, _ => .inl ⟨rfl, rfl⟩
  | _ :: _, [], h, _ => by simp at h
  | p :: l, b :: bs, h, c => by
    by_cases e : p.1 = c
    · exact .inr ⟨0, p, b, rfl, rfl, e, by simp [bankF, e], by simp [valI, e]⟩
    · rcases zip_find l bs (by simpa using h) c with ⟨h1, h2⟩ | ⟨k, q, d, h1, h2, h3, h4, h5⟩
      · exact .inl ⟨by simp [bankF, e, h1], by simp only [List.zipWith_cons_cons, valI, if_neg e]; exact h2⟩
      · exact .inr ⟨k + 1, q, d, by rw [List.getElem?_cons_succ]; exact h1, by rw [List.getElem?_cons_succ]; exact h2, h3, by simp [bankF, e, h4], by simp only [List.zipWith_cons_cons, valI, if_neg e]; exact h5⟩
theorem load_none (D : Nat) (M : MemS) (a : Int) (h1 : 52224 ≤ a) (h9 : a < 65536) (hn : portF M a = 0) (n1 : a ≠ 65280) (n2 : a ≠ 65282) (n3 : a ≠ 65284) (n4 : a ≠ 65285) (n5 : a ≠ 65286) (n6 : a ≠ 65288) (n7 : a ≠ 65289) (w : World) :
    Calls Tryz.prog 69 #[.pointer (some ⟨D, 0, none⟩), .int .u16 a] w fun e w' => e = .returned (.int .u8 (loadF M a)) ∧ w = w' := by
  have hv : loadF M a = 0 := by
    unfold loadF
    rw [if_neg (by omega), if_neg (by omega), if_neg (by omega), if_neg (by omega), hn]
  rw [hv]
  have b1 : decide (a < 16384) = false := by simp; omega
  have b2 : decide (a < 32768) = false := by simp; omega
  have b3 : decide (a < 49152) = false := by simp; omega
  have b4 : decide (a < 52224) = false := by simp; omega
  have d1 : (a == 65280) = false := by simpa using n1
  have d2 : (a == 65282) = false := by simpa using n2
  have d3 : (a == 65284) = false := by simpa using n3
  have d4 : (a == 65285) = false := by simpa using n4
  have d5 : (a == 65286) = false := by simpa using n5
  have d6 : (a == 65288) = false := by simpa using n6
  have d7 : (a == 65289) = false := by simpa using n7
  have h0 : 0 ≤ a := by omega
  clear hv hn
  go_enter Tryz.func69, Tryz.ntmps69
  go_wp2
  go_ret
  exact ⟨rfl, rfl⟩
set_option maxRecDepth 100000 in
theorem load_window (G : Nat → Nat) (i D B : Nat) (bs : List Nat) (tv : Value) (M : MemS) (hm : MemOk M) (k : Nat) (hk : k < 16384) (w : World) (hp : PMx w G i D B bs tv M) : Calls Tryz.prog 69 #[.pointer (some ⟨D, 0, none⟩), .int .u16 (16384 + (k : Int))] w fun e w' => e = .returned (.int .u8 (loadF M (16384 + (k : Int)))) ∧ ∃ d, w' = w.drewN d := by
  have hv : loadF M (16384 + (k : Int)) = ((bankF M.banks M.chosen).getD []).getD k 0 := by
    unfold loadF
    rw [if_neg (by omega), if_pos (by omega), show (16384 + (k : Int) - 16384).toNat = k from by omega]
  rw [hv]
  have b1 : decide (16384 + (k : Int) < 16384) = false := by simp; omega
  have b2 : decide (16384 + (k : Int) < 32768) = true := by simp; omega
  have c0 := hp.mapc
  obtain ⟨c3, -⟩ := hp.ports hm
  rcases zip_find M.banks bs hp.blen M.chosen with ⟨h1, h2⟩ | ⟨j, p, b, h1, h2, h3, h4, h5⟩
  · rw [h1]
    have hl : ∀ q, (Instr.lookup 166 (.map (some B)) (.int .u8 M.chosen) true).run Tryz.prog (w.drewN q) = .ok (.tuple #[.pointer none, .bool false]) (w.drewN q) := fun q =>
      lookup_I_no (w := w.drewN q) (z := .pointer none) Tryz.underlying166 Tryz.underlying5 (by kernel_rfl) (hp.adv ((Adv.refl (fun _ => False) w G).drewN q) id).map M.chosen h2
    have hl1 : (Instr.lookup 166 (.map (some B)) (.int .u8 M.chosen) true).run Tryz.prog w.drew = .ok (.tuple #[.pointer none, .bool false]) w.drew := hl 1
    clear hl
    clear hv hp h1 h2
    go_enter Tryz.func69, Tryz.ntmps69
    go_upto_region 6 with fail
    go_region
    go_wp2
    go_ret
    exact ⟨by simp, 1, rfl⟩
  · rw [h4]
    have hl1 : (Instr.lookup 166 (.map (some B)) (.int .u8 M.chosen) true).run Tryz.prog w.drew = .ok (.tuple #[.pointer (some ⟨b, 0, none⟩), .bool true]) w.drew :=
      lookup_I (w := w.drew) Tryz.underlying166 Tryz.underlying5 (hp.adv ((Adv.refl (fun _ => False) w G).drew) id).map M.chosen _ h5
    obtain ⟨⟨C, hC, hCl⟩, hb⟩ := hp.bank j p b h1 h2
    have hlen : p.2.length = 16384 := hm.banks p (List.mem_of_getElem? h1)
    have cb : w.cell? ⟨b, k, none⟩ = some (.int .u8 (p.2.getD k 0)) := block_cell hC k _ (by
      rw [← Array.getElem?_toList, hCl]
      exact u8s_at _ k _ (by rw [List.getD_eq_getElem?_getD]; simp [hlen, hk]))
    clear hv hp h1 h2 h3 h4 h5 hC hCl hb
    go_enter Tryz.func69, Tryz.ntmps69
    go_upto_region 6 with fail
    go_region
    go_wp2
    go_ret
    exact ⟨by simp [hlen, hk], 1, rfl⟩
/-- Load, at every address. -/
theorem load_any (G : Nat → Nat) (i D : Nat) (M : MemS) (hm : MemOk M) (a : Int) (h0 : 0 ≤ a) (h9 : a < 65536) (w : World) (hp : PM w G i D M) :
    Calls Tryz.prog 69 #[.pointer (some ⟨D, 0, none⟩), .int .u16 a] w fun e w' => e = .returned (.int .u8 (loadF M a)) ∧ ∃ d, w' = w.drewN d := by
  obtain ⟨B, bs, tv, hp⟩ := hp
  have z : ∀ {e : Ending} {v : Value} {w' : World}, e = .returned v ∧ w = w' → e = .returned v ∧ ∃ d, w' = w.drewN d := fun h => ⟨h.1, 0, h.2.symm⟩
  by_cases c1 : a < 16384
  · exact (load_low D M a c1 w).mono fun _ _ h => z h
  by_cases c2 : a < 32768
  · obtain ⟨k, rfl⟩ : ∃ k : Nat, a = 16384 + (k : Int) := ⟨(a - 16384).toNat, by omega⟩
    exact load_window G i D B bs tv M hm k (by omega) w hp
  by_cases c3 : a < 49152
  · obtain ⟨k, rfl⟩ : ∃ k : Nat, a = 32768 + (k : Int) := ⟨(a - 32768).toNat, by omega⟩
    exact (load_ram G i D B bs tv M hm k (by omega) w hp).mono fun _ _ h => z h
  by_cases c4 : a < 52224
  · obtain ⟨k, rfl⟩ : ∃ k : Nat, a = 49152 + (k : Int) := ⟨(a - 49152).toNat, by omega⟩
    exact (load_screen G i D B bs tv M hm k (by omega) w hp).mono fun _ _ h => z h
  by_cases n1 : a = 65280
  · subst n1; exact (load_65280 G i D B bs tv M hm w hp).mono fun _ _ h => z h
  by_cases n2 : a = 65282
  · subst n2; exact (load_65282 G i D B bs tv M hm w hp).mono fun _ _ h => z h
  by_cases n3 : a = 65284
  · subst n3; exact (load_65284 G i D B bs tv M hm w hp).mono fun _ _ h => z h
  by_cases n4 : a = 65285
  · subst n4; exact (load_65285 G i D B bs tv M hm w hp).mono fun _ _ h => z h
  by_cases n5 : a = 65286
  · subst n5; exact (load_65286 G i D B bs tv M hm w hp).mono fun _ _ h => z h
  by_cases n6 : a = 65288
  · subst n6; exact (load_65288 G i D B bs tv M hm w hp).mono fun _ _ h => z h
  by_cases n7 : a = 65289
  · subst n7; exact (load_65289 G i D B bs tv M hm w hp).mono fun _ _ h => z h
  exact (load_none D M a (by omega) h9 (by simp [portF, n1, n2, n3, n4, n5, n6, n7]) n1 n2 n3 n4 n5 n6 n7 w).mono fun _ _ h => z h
end Go.Proofs.YtdnalhjdmlkbmaaGreatDoor
namespace Go.Proofs.YtdnalhjdmlkbmaaGreatDoor
open Go.RowKit

def nextA (a : Int) : Int := IntKind.wrap .u16 (a + 1)
theorem nextA_lo (a : Int) : 0 ≤ nextA a ∧ nextA a < 65536 := by
  unfold nextA IntKind.wrap
  simp [IntKind.bits, IntKind.signed]
  omega
/-- Cell's answer. -/
def cellF (M : MemS) (a : Int) : Int := bits BinOp.or .u16 (IntKind.wrap .u16 (loadF M a)) (IntKind.wrap .u16 (IntKind.wrap .u16 (loadF M (nextA a)) * 256))
theorem cell_any (G : Nat → Nat) (i D : Nat) (M : MemS) (hm : MemOk M) (a : Int) (h0 : 0 ≤ a) (h9 : a < 65536) (w : World) (hp : PM w G i D M) :
    Calls Tryz.prog 105 #[.pointer (some ⟨D, 0, none⟩), .int .u16 a] w fun e w' => e = .returned (.int .u16 (cellF M a)) ∧ ∃ d, w' = w.drewN d := by
  have HP := Lib.hid hp
  clear hp
  go_enter Tryz.func105, Tryz.ntmps105
  go_wp2_with fail
  refine (load_any G i D M hm a h0 h9 _ HP.out).mono ?_
  rintro e w' ⟨rfl, d, rfl⟩
  go_wp2_with fail
  refine (load_any G i D M hm (IntKind.wrap .u16 (a + 1)) (nextA_lo a).1 (nextA_lo a).2 _ (HP.out.adv ((Adv.refl (fun _ => False) w G).drewN d) id)).mono ?_
  rintro e w' ⟨rfl, d2, rfl⟩
  go_wp2_with fail
  go_ret
  exact ⟨rfl, d + d2, rfl⟩
end Go.Proofs.YtdnalhjdmlkbmaaGreatDoor
namespace Go.Proofs.YtdnalhjdmlkbmaaGreatDoor
open Go.RowKit

/-- One cell of the memory's own block is written. -/
theorem PMx.setHead {w : World} {G : Nat → Nat} {i D B : Nat} {bs : List Nat} {tv : Value} {M M' : MemS} (h : PMx w G i D B bs tv M) (j : Nat) (v : Value)
    (hh : (headC B M tv).set j v = headC B M' tv) (hb : M'.banks = M.banks) (ht : M'.tones = M.tones) : PMx (w.setCell ⟨D, j, none⟩ v) G i D B bs tv M' := by
  have hBD : B ≠ D := by
    intro e
    obtain ⟨es, clk, h1, _⟩ := h.map
    obtain ⟨C, h2, _⟩ := h.head
    rw [e, h2] at h1
    cases h1
  refine ⟨?_, h.hown, ?_, h.mown, by rw [hb]; exact h.blen, ?_, ?_, h.nodup, h.ne, h.net, h.neb⟩
  · obtain ⟨C, h1, h2⟩ := h.head
    refine ⟨C.setIfInBounds j v, ?_, ?_⟩
    · simp only [World.setCell, Array.getElem?_modify, h1]; simp
    · rw [Array.toList_setIfInBounds, h2, hh]
  · unfold bankL
    rw [hb]
    exact h.map.of_block (Below.heap_setCell _ _ _ _ hBD)
  · intro k p b hp hbk
    rw [hb] at hp
    obtain ⟨⟨C, h1, h2⟩, h3⟩ := h.bank k p b hp hbk
    refine ⟨⟨C, (Below.heap_setCell _ _ _ _ ?_).trans h1, h2⟩, h3⟩
    intro e
    exact h.ne (by have := List.mem_of_getElem? hbk; rw [show b = D from e] at this; exact this)
  · rw [ht]
    have hrow := h.tones
    exact ⟨ownsRow_of_block hrow.row fun b e => Below.heap_setCell _ _ _ _ (fun e2 => h.net (by rw [e]; exact congrArg some e2)), hrow.own⟩
theorem head_setRam (B : Nat) (M : MemS) (tv : Value) (hm : MemOk M) (k : Nat) (hk : k < 16384) (x : Int) : (headC B M tv).set (1 + k) (.int .u8 x) = headC B { M with ram := M.ram.set k x } tv := by
  unfold headC
  rw [List.append_assoc, List.append_assoc, List.set_append_right _ _ (by simp), List.set_append_left _ _ (by simp [u8s_length, hm.ram, hk])]
  simp [u8s, List.map_set]
theorem head_setScreen (B : Nat) (M : MemS) (tv : Value) (hm : MemOk M) (k : Nat) (hk : k < 3072) (x : Int) : (headC B M tv).set (16385 + k) (.int .u8 x) = headC B { M with screen := M.screen.set k x } tv := by
  unfold headC
  rw [List.append_assoc, List.set_append_right _ _ (by simp [u8s_length, hm.ram]), List.set_append_left _ _ (by simp [u8s_length, hm.ram, hm.screen, hk])]
  have e : 16385 + k - ([Value.map (some B)] ++ u8s M.ram).length = k := by simp [u8s_length, hm.ram]
  rw [e]
  simp [u8s, List.map_set]
theorem head_setTail (B : Nat) (M : MemS) (tv : Value) (hm : MemOk M) (k : Nat) (v : Value) : (headC B M tv).set (19457 + k) v = [.map (some B)] ++ u8s M.ram ++ u8s M.screen ++ ([.int .u8 M.chosen, .int .u8 M.pad, .int .u8 M.volume, .int .u16 M.pitch, .int .u16 M.time, .int .i64 M.cycle, tv] : List Value).set k v := by
  unfold headC
  rw [List.set_append_right _ _ (by simp [u8s_length, hm.ram, hm.screen])]
  have e : 19457 + k - ([Value.map (some B)] ++ u8s M.ram ++ u8s M.screen).length = k := by simp [u8s_length, hm.ram, hm.screen]
  rw [e]
theorem store_ram (G : Nat → Nat) (i D : Nat) (M : MemS) (hm : MemOk M) (k : Nat) (hk : k < 16384) (x : Int) (w : World) (hp : PM w G i D M) :
    Calls Tryz.prog 29 #[.pointer (some ⟨D, 0, none⟩), .int .u16 (32768 + (k : Int)), .int .u8 x] w fun e w' => e = .returned (.tuple #[]) ∧ Adv (fun o => o = i) w G w' G ∧ PM w' G i D { M with ram := M.ram.set k x } := by
  obtain ⟨B, bs, tv, hp⟩ := hp
  have b1 : decide (32768 + (k : Int) < 16384) = false := by simp; omega
  have b2 : decide (32768 + (k : Int) < 32768) = false := by simp; omega
  have b3 : decide (32768 + (k : Int) < 49152) = true := by simp; omega
  have c1 := hp.ramc hm k hk
  have f1 := hp.free
  have HS := Lib.hid (And.intro ((Adv.refl (fun o => o = i) w G).setCell (p := ⟨D, 1 + k, none⟩) hp.hown (.int .u8 x)) (show PM (w.setCell ⟨D, 1 + k, none⟩ (.int .u8 x)) G i D _ from ⟨B, bs, tv, hp.setHead (1 + k) (.int .u8 x) (head_setRam B M tv hm k hk x) rfl rfl⟩))
  clear hp
  go_enter Tryz.func29, Tryz.ntmps29
  go_wp2
  refine bodyPost_ret (results_none rfl _ _ _) rfl ?_
  exact ⟨rfl, HS.out.1, HS.out.2⟩
theorem store_screen (G : Nat → Nat) (i D : Nat) (M : MemS) (hm : MemOk M) (k : Nat) (hk : k < 3072) (x : Int) (w : World) (hp : PM w G i D M) :
    Calls Tryz.prog 29 #[.pointer (some ⟨D, 0, none⟩), .int .u16 (49152 + (k : Int)), .int .u8 x] w fun e w' => e = .returned (.tuple #[]) ∧ Adv (fun o => o = i) w G w' G ∧ PM w' G i D { M with screen := M.screen.set k x } := by
  obtain ⟨B, bs, tv, hp⟩ := hp
  have b1 : decide (49152 + (k : Int) < 16384) = false := by simp; omega
  have b2 : decide (49152 + (k : Int) < 32768) = false := by simp; omega
  have b3 : decide (49152 + (k : Int) < 49152) = false := by simp; omega
  have b4 : decide (49152 + (k : Int) < 52224) = true := by simp; omega
  have c1 := hp.screenc hm k hk
  have f1 := hp.free
  have HS := Lib.hid (And.intro ((Adv.refl (fun o => o = i) w G).setCell (p := ⟨D, 16385 + k, none⟩) hp.hown (.int .u8 x)) (show PM (w.setCell ⟨D, 16385 + k, none⟩ (.int .u8 x)) G i D _ from ⟨B, bs, tv, hp.setHead (16385 + k) (.int .u8 x) (head_setScreen B M tv hm k hk x) rfl rfl⟩))
  clear hp
  go_enter Tryz.func29, Tryz.ntmps29
  go_wp2
  refine bodyPost_ret (results_none rfl _ _ _) rfl ?_
  exact ⟨rfl, HS.out.1, HS.out.2⟩
theorem store_low (D : Nat) (a x : Int) (h : a < 16384) (w : World) : Calls Tryz.prog 29 #[.pointer (some ⟨D, 0, none⟩), .int .u16 a, .int .u8 x] w fun e w' => e = .returned (.tuple #[]) ∧ w = w' := by
  have b1 : decide (a < 16384) = true := by simpa using h
  go_enter Tryz.func29, Tryz.ntmps29
  go_wp2
  refine bodyPost_ret (results_none rfl _ _ _) rfl ?_
  exact ⟨rfl, rfl⟩
theorem store_none (D : Nat) (a x : Int) (h1 : 52224 ≤ a) (h9 : a < 65536) (n1 : a ≠ 65280) (n3 : a ≠ 65284) (n4 : a ≠ 65285) (n5 : a ≠ 65286) (w : World) :
    Calls Tryz.prog 29 #[.pointer (some ⟨D, 0, none⟩), .int .u16 a, .int .u8 x] w fun e w' => e = .returned (.tuple #[]) ∧ w = w' := by
  have b1 : decide (a < 16384) = false := by simp; omega
  have b2 : decide (a < 32768) = false := by simp; omega
  have b3 : decide (a < 49152) = false := by simp; omega
  have b4 : decide (a < 52224) = false := by simp; omega
  have d1 : (a == 65280) = false := by simpa using n1
  have d3 : (a == 65284) = false := by simpa using n3
  have d4 : (a == 65285) = false := by simpa using n4
  have d5 : (a == 65286) = false := by simpa using n5
  have h0 : 0 ≤ a := by omega
  go_enter Tryz.func29, Tryz.ntmps29
  go_wp2
  go_end0
  exact ⟨rfl, rfl⟩
theorem store_65280 (G : Nat → Nat) (i D : Nat) (M : MemS) (hm : MemOk M) (x : Int) (w : World) (hp : PM w G i D M) :
    Calls Tryz.prog 29 #[.pointer (some ⟨D, 0, none⟩), .int .u16 65280, .int .u8 x] w fun e w' => e = .returned (.tuple #[]) ∧ Adv (fun o => o = i) w G w' G ∧ PM w' G i D { M with chosen := x.tmod 16 } := by
  obtain ⟨B, bs, tv, hp⟩ := hp
  obtain ⟨c0, c1, c2, c3, c4, -, -⟩ := hp.ports hm
  have f1 := hp.free
  have HS := Lib.hid (And.intro ((Adv.refl (fun o => o = i) w G).setCell (p := ⟨D, 19457, none⟩) hp.hown (.int .u8 (x.tmod 16))) (show PM (w.setCell ⟨D, 19457, none⟩ (.int .u8 (x.tmod 16))) G i D { M with chosen := x.tmod 16 } from ⟨B, bs, tv, hp.setHead 19457 _ (head_setTail B M tv hm 0 _) rfl rfl⟩))
  clear hp
  go_enter Tryz.func29, Tryz.ntmps29
  go_wp2
  go_end0
  exact ⟨rfl, HS.out.1, HS.out.2⟩
theorem store_65284 (G : Nat → Nat) (i D : Nat) (M : MemS) (hm : MemOk M) (x : Int) (w : World) (hp : PM w G i D M) :
    Calls Tryz.prog 29 #[.pointer (some ⟨D, 0, none⟩), .int .u16 65284, .int .u8 x] w fun e w' => e = .returned (.tuple #[]) ∧ Adv (fun o => o = i) w G w' G ∧ PM w' G i D { M with pitch := bits BinOp.or .u16 (bits BinOp.and .u16 M.pitch 65280) (IntKind.wrap .u16 x) } := by
  obtain ⟨B, bs, tv, hp⟩ := hp
  obtain ⟨c0, c1, c2, c3, c4, -, -⟩ := hp.ports hm
  have f1 := hp.free
  have HS := Lib.hid (And.intro ((Adv.refl (fun o => o = i) w G).setCell (p := ⟨D, 19460, none⟩) hp.hown (.int .u16 (bits BinOp.or .u16 (bits BinOp.and .u16 M.pitch 65280) (IntKind.wrap .u16 x)))) (show PM (w.setCell ⟨D, 19460, none⟩ (.int .u16 (bits BinOp.or .u16 (bits BinOp.and .u16 M.pitch 65280) (IntKind.wrap .u16 x)))) G i D { M with pitch := bits BinOp.or .u16 (bits BinOp.and .u16 M.pitch 65280) (IntKind.wrap .u16 x) } from ⟨B, bs, tv, hp.setHead 19460 _ (head_setTail B M tv hm 3 _) rfl rfl⟩))
  clear hp
  go_enter Tryz.func29, Tryz.ntmps29
  go_wp2
  go_end0
  exact ⟨rfl, HS.out.1, HS.out.2⟩
theorem store_65285 (G : Nat → Nat) (i D : Nat) (M : MemS) (hm : MemOk M) (x : Int) (w : World) (hp : PM w G i D M) :
    Calls Tryz.prog 29 #[.pointer (some ⟨D, 0, none⟩), .int .u16 65285, .int .u8 x] w fun e w' => e = .returned (.tuple #[]) ∧ Adv (fun o => o = i) w G w' G ∧ PM w' G i D { M with pitch := bits BinOp.or .u16 (bits BinOp.and .u16 M.pitch 255) (IntKind.wrap .u16 (IntKind.wrap .u16 x * 256)) } := by
  obtain ⟨B, bs, tv, hp⟩ := hp
  obtain ⟨c0, c1, c2, c3, c4, -, -⟩ := hp.ports hm
  have f1 := hp.free
  have HS := Lib.hid (And.intro ((Adv.refl (fun o => o = i) w G).setCell (p := ⟨D, 19460, none⟩) hp.hown (.int .u16 (bits BinOp.or .u16 (bits BinOp.and .u16 M.pitch 255) (IntKind.wrap .u16 (IntKind.wrap .u16 x * 256))))) (show PM (w.setCell ⟨D, 19460, none⟩ (.int .u16 (bits BinOp.or .u16 (bits BinOp.and .u16 M.pitch 255) (IntKind.wrap .u16 (IntKind.wrap .u16 x * 256))))) G i D { M with pitch := bits BinOp.or .u16 (bits BinOp.and .u16 M.pitch 255) (IntKind.wrap .u16 (IntKind.wrap .u16 x * 256)) } from ⟨B, bs, tv, hp.setHead 19460 _ (head_setTail B M tv hm 3 _) rfl rfl⟩))
  clear hp
  go_enter Tryz.func29, Tryz.ntmps29
  go_wp2
  go_end0
  exact ⟨rfl, HS.out.1, HS.out.2⟩
end Go.Proofs.YtdnalhjdmlkbmaaGreatDoor
namespace Go.Proofs.YtdnalhjdmlkbmaaGreatDoor
open Go.RowKit

/-- The first bank of a number, with one byte set. -/
def bankSet : List (Int × List Int) → Int → Nat → Int → List (Int × List Int)
  | [], _, _, _ => []
  | p :: l, c, k, x => if p.1 = c then (p.1, p.2.set k x) :: l else p :: bankSet l c k x
theorem bankSet_none : ∀ (l : List (Int × List Int)) (c : Int) (k : Nat) (x : Int), bankF l c = none → bankSet l c k x = l
  | [], _, _, _, _ => rfl
  | p :: l, c, k, x, h => by
    by_cases e : p.1 = c
    · simp [bankF, e] at h
    · simp only [bankF, if_neg e] at h
      simp only [bankSet, if_neg e, bankSet_none l c k x h]
/-- The bank of a number, its place, and what setting a byte of it gives. -/
theorem zip_set : ∀ (l : List (Int × List Int)) (bs : List Nat), bs.length = l.length → ∀ (c : Int) (q : Nat) (x : Int),
    (bankF l c = none ∧ valI (List.zipWith (fun (p : Int × List Int) (b : Nat) => (p.1, Value.pointer (some ⟨b, 0, none⟩))) l bs) c = none) ∨
    ∃ (k : Nat) (p : Int × List Int) (b : Nat), l[k]? = some p ∧ bs[k]? = some b ∧ bankSet l c q x = l.set k (p.1, p.2.set q x) ∧ valI (List.zipWith (fun (p : Int × List Int) (b : Nat) => (p.1, Value.pointer (some ⟨b, 0, none⟩))) l bs) c = some (.pointer (some ⟨b, 0, none⟩))
  | [], _, _, _, _, _ => .inl ⟨rfl, rfl⟩
  | _ :: _, [], h, _, _, _ => by simp at h
  | p :: l, b :: bs, h, c, q, x => by
    by_cases e : p.1 = c
    · exact .inr ⟨0, p, b, rfl, rfl, by simp [bankSet, e], by simp [valI, e]⟩
    · rcases zip_set l bs (by simpa using h) c q x with ⟨h1, h2⟩ | ⟨k, r, d, h1, h2, h4, h5⟩
      · exact .inl ⟨by simp [bankF, e, h1], by simp only [List.zipWith_cons_cons, valI, if_neg e]; exact h2⟩
      · exact .inr ⟨k + 1, r, d, by rw [List.getElem?_cons_succ]; exact h1, by rw [List.getElem?_cons_succ]; exact h2, by simp only [bankSet, if_neg e, h4, List.set_cons_succ], by simp only [List.zipWith_cons_cons, valI, if_neg e]; exact h5⟩
theorem zip_same (f : Int → Nat → Int × Value) : ∀ (l : List (Int × List Int)) (bs : List Nat) (k : Nat) (p : Int × List Int) (y : List Int), l[k]? = some p →
    List.zipWith (fun (p : Int × List Int) (b : Nat) => f p.1 b) (l.set k (p.1, y)) bs = List.zipWith (fun (p : Int × List Int) (b : Nat) => f p.1 b) l bs
  | [], _, _, _, _, h => by simp at h
  | _ :: _, [], _, _, _, _ => by simp
  | r :: l, b :: bs, 0, p, y, h => by
    have e : r = p := by simpa using h
    subst e
    simp
  | r :: l, b :: bs, k + 1, p, y, h => by
    rw [List.getElem?_cons_succ] at h
    simp only [List.set_cons_succ, List.zipWith_cons_cons, zip_same f l bs k p y h]
theorem PMx.setBank {w : World} {G : Nat → Nat} {i D B : Nat} {bs : List Nat} {tv : Value} {M : MemS} (h : PMx w G i D B bs tv M) (j : Nat) (p : Int × List Int) (b : Nat) (hp : M.banks[j]? = some p) (hb : bs[j]? = some b) (q : Nat) (x : Int) :
    PMx (w.setCell ⟨b, q, none⟩ (.int .u8 x)) G i D B bs tv { M with banks := M.banks.set j (p.1, p.2.set q x) } := by
  obtain ⟨⟨C, hC, hCl⟩, hGb⟩ := h.bank j p b hp hb
  have hmem : b ∈ bs := List.mem_of_getElem? hb
  have hBb : B ≠ b := by
    intro e
    obtain ⟨es, clk, h1, _⟩ := h.map
    rw [e, hC] at h1
    cases h1
  have hDb : D ≠ b := fun e => h.ne (by rw [e]; exact hmem)
  refine ⟨?_, h.hown, ?_, h.mown, by simpa using h.blen, ?_, ?_, h.nodup, h.ne, h.net, h.neb⟩
  · obtain ⟨C2, h1, h2⟩ := h.head
    exact ⟨C2, (Below.heap_setCell _ _ _ _ hDb).trans h1, h2⟩
  · unfold bankL
    rw [zip_same (fun c b => (c, Value.pointer (some ⟨b, 0, none⟩))) M.banks bs j p (p.2.set q x) hp]
    exact h.map.of_block (Below.heap_setCell _ _ _ _ hBb)
  · intro k r d hr hd
    by_cases e : k = j
    · subst e
      obtain rfl : b = d := Option.some.inj (hb.symm.trans hd)
      have hr2 : r = (p.1, p.2.set q x) := by
        rw [List.getElem?_set_self (Array.getElem?_eq_some_iff.1 (show M.banks.toArray[k]? = _ from by simpa using hp)).1] at hr
        exact (Option.some.inj hr).symm
      subst hr2
      refine ⟨⟨C.setIfInBounds q (.int .u8 x), ?_, ?_⟩, hGb⟩
      · simp only [World.setCell, Array.getElem?_modify, hC]; simp
      · rw [Array.toList_setIfInBounds, hCl]; simp [u8s, List.map_set]
    · rw [List.getElem?_set_ne (Ne.symm e)] at hr
      obtain ⟨⟨C2, h1, h2⟩, h3⟩ := h.bank k r d hr hd
      refine ⟨⟨C2, (Below.heap_setCell _ _ _ _ ?_).trans h1, h2⟩, h3⟩
      intro e2
      have e3 : d = b := e2
      subst e3
      obtain ⟨hk1, hk2⟩ := List.getElem?_eq_some_iff.1 hd
      obtain ⟨hj1, hj2⟩ := List.getElem?_eq_some_iff.1 hb
      exact e ((List.getElem_inj h.nodup).1 (hk2.trans hj2.symm))
  · have hrow := h.tones
    exact ⟨ownsRow_of_block hrow.row fun d e => Below.heap_setCell _ _ _ _ (fun e2 => h.neb b hmem (by rw [e]; exact congrArg some e2)), hrow.own⟩
set_option maxRecDepth 100000 in
theorem store_window (G : Nat → Nat) (i D : Nat) (M : MemS) (hm : MemOk M) (k : Nat) (hk : k < 16384) (x : Int) (w : World) (hp : PM w G i D M) :
    Calls Tryz.prog 29 #[.pointer (some ⟨D, 0, none⟩), .int .u16 (16384 + (k : Int)), .int .u8 x] w fun e w' => e = .returned (.tuple #[]) ∧ Adv (fun o => o = i) w G w' G ∧ PM w' G i D { M with banks := bankSet M.banks M.chosen k x } := by
  obtain ⟨B, bs, tv, hp⟩ := hp
  have b1 : decide (16384 + (k : Int) < 16384) = false := by simp; omega
  have b2 : decide (16384 + (k : Int) < 32768) = true := by simp; omega
  have c0 := hp.mapc
  obtain ⟨c3, -⟩ := hp.ports hm
  have hpd := hp.adv ((Adv.refl (fun _ => False) w G).drew) id
  rcases zip_set M.banks bs hp.blen M.chosen k x with ⟨h1, h2⟩ | ⟨j, p, b, h1, h2, h4, h5⟩
  · rw [bankSet_none _ _ _ _ h1]
    have hl1 : (Instr.lookup 166 (.map (some B)) (.int .u8 M.chosen) true).run Tryz.prog w.drew = .ok (.tuple #[.pointer none, .bool false]) w.drew :=
      lookup_I_no (w := w.drew) (z := .pointer none) Tryz.underlying166 Tryz.underlying5 (by kernel_rfl) hpd.map M.chosen h2
    have HS := Lib.hid (And.intro ((Adv.refl (fun o => o = i) w G).drew) (show PM w.drew G i D M from ⟨B, bs, tv, hpd⟩))
    clear hp hpd h1 h2
    go_enter Tryz.func29, Tryz.ntmps29
    go_upto_region 3 with fail
    go_region
    go_wp2
    refine bodyPost_ret (results_none rfl _ _ _) rfl ?_
    exact ⟨rfl, HS.out.1, HS.out.2⟩
  · rw [h4]
    have hl1 : (Instr.lookup 166 (.map (some B)) (.int .u8 M.chosen) true).run Tryz.prog w.drew = .ok (.tuple #[.pointer (some ⟨b, 0, none⟩), .bool true]) w.drew :=
      lookup_I (w := w.drew) Tryz.underlying166 Tryz.underlying5 hpd.map M.chosen _ h5
    obtain ⟨⟨C, hC, hCl⟩, hb⟩ := hp.bank j p b h1 h2
    have hlen : p.2.length = 16384 := hm.banks p (List.mem_of_getElem? h1)
    have cb : w.cell? ⟨b, k, none⟩ = some (.int .u8 (p.2.getD k 0)) := block_cell hC k _ (by
      rw [← Array.getElem?_toList, hCl]
      exact u8s_at _ k _ (by rw [List.getD_eq_getElem?_getD]; simp [hlen, hk]))
    have fb := block_free hC
    have HS := Lib.hid (And.intro (((Adv.refl (fun o => o = i) w G).drew).setCell (p := ⟨b, k, none⟩) hb (.int .u8 x)) (show PM (w.drew.setCell ⟨b, k, none⟩ (.int .u8 x)) G i D _ from ⟨B, bs, tv, hpd.setBank j p b h1 h2 k x⟩))
    clear hp hpd h1 h2 h4 h5 hC hCl hb
    go_enter Tryz.func29, Tryz.ntmps29
    go_upto_region 3 with fail
    go_region
    go_wp2
    refine bodyPost_ret (results_none rfl _ _ _) rfl ?_
    exact ⟨rfl, HS.out.1, HS.out.2⟩
end Go.Proofs.YtdnalhjdmlkbmaaGreatDoor
namespace Go.Proofs.YtdnalhjdmlkbmaaGreatDoor
open Go.RowKit

/-- The labels under which the tones' block alone may turn. -/
def toneG (tv : Value) (b : Nat) : Nat := if tv.ownBlock = some b then 1 else 0
theorem PMx.played {w w' : World} {G G3 : Nat → Nat} {i D B : Nat} {bs : List Nat} {tv tv' : Value} {M : MemS} (h : PMx w G i D B bs tv M) (hm : MemOk M) (t : Int × Int × Int) (ha : Adv (fun o => o = 1) w (toneG tv) w' G3)
    (hr : Row 152 3 w' G3 1 tv' (M.tones.length + 1) (tonesC (M.tones ++ [t]))) :
    Adv (fun o => o = i) w G (w'.setCell ⟨D, 19463, none⟩ tv') (fun b => if b < w.heap.size then G b else i) ∧
    PMx (w'.setCell ⟨D, 19463, none⟩ tv') (fun b => if b < w.heap.size then G b else i) i D B bs tv' { M with tones := M.tones ++ [t] } := by
  have hDl := h.lt
  have hBl := h.map.lt
  have hrow := h.tones
  have hBD : B ≠ D := by
    intro e
    obtain ⟨es, clk, h1, _⟩ := h.map
    obtain ⟨C, h2, _⟩ := h.head
    rw [e, h2] at h1
    cases h1
  have gD : toneG tv D = 0 := if_neg h.net
  have gB : toneG tv B = 0 := if_neg (fun e => by
    obtain ⟨es, clk, h1, _⟩ := h.map
    rcases hrow.row.2 with ⟨e2, _⟩ | ⟨g, cap, cur, e2, _, hg, _⟩
    · rw [e2] at e; cases e
    · rw [e2] at e
      have : g = B := by simpa [Value.ownBlock] using e
      rw [this, h1] at hg
      cases hg)
  have gb : ∀ b ∈ bs, toneG tv b = 0 := fun b hb => if_neg (h.neb b hb)
  have kD : w'.heap[D]? = w.heap[D]? := ha.keep D hDl (by show ¬ (toneG tv D = 1); rw [gD]; decide)
  have kB : w'.heap[B]? = w.heap[B]? := ha.keep B hBl (by show ¬ (toneG tv B = 1); rw [gB]; decide)
  have nD : tv'.ownBlock ≠ some D := fun e => by
    have h1 := hr.own D e
    rw [ha.own D hDl, gD] at h1
    cases h1
  refine ⟨⟨ha.os, ha.tape, ha.output, by simpa using ha.size, fun b hb => if_pos hb, fun b hb hs => ?_⟩, ⟨?_, ?_, ?_, ?_, h.blen, ?_, ?_, h.nodup, h.ne, nD, ?_⟩⟩
  · have hbD : b ≠ D := fun e => hs (by rw [e]; exact h.hown)
    refine (Below.heap_setCell _ _ _ _ hbD).trans (ha.keep b hb ?_)
    show ¬ (toneG tv b = 1)
    unfold toneG
    split
    · rename_i e
      exact fun _ => hs (hrow.own b e)
    · decide
  · obtain ⟨C, h1, h2⟩ := h.head
    refine ⟨C.setIfInBounds 19463 tv', ?_, ?_⟩
    · simp only [World.setCell, Array.getElem?_modify, kD, h1]; simp
    · rw [Array.toList_setIfInBounds, h2]
      exact head_setTail B M tv hm 6 tv'
  · show (if D < w.heap.size then G D else i) = i
    rw [if_pos hDl]; exact h.hown
  · exact h.map.of_block ((Below.heap_setCell _ _ _ _ hBD).trans kB)
  · show (if B < w.heap.size then G B else i) = i
    rw [if_pos hBl]; exact h.mown
  · intro k p b hp hb
    obtain ⟨⟨C, h1, h2⟩, h3⟩ := h.bank k p b hp hb
    have hmem := List.mem_of_getElem? hb
    have hbl : b < w.heap.size := (Array.getElem?_eq_some_iff.1 h1).1
    have hbD : b ≠ D := fun e => h.ne (by rw [← e]; exact hmem)
    refine ⟨⟨C, (Below.heap_setCell _ _ _ _ hbD).trans ((ha.keep b hbl (by show ¬ (toneG tv b = 1); rw [gb b hmem]; decide)).trans h1), h2⟩, ?_⟩
    show (if b < w.heap.size then G b else i) = i
    rw [if_pos hbl]; exact h3
  · refine ⟨?_, fun b e => ?_⟩
    · have := ownsRow_of_block hr.row (w' := w'.setCell ⟨D, 19463, none⟩ tv') fun b e => Below.heap_setCell _ _ _ _ (fun e2 => nD (by rw [e]; exact congrArg some e2))
      simpa using this
    · show (if b < w.heap.size then G b else i) = i
      by_cases hb : b < w.heap.size
      · rw [if_pos hb]
        have h1 := hr.own b e
        rw [ha.own b hb] at h1
        unfold toneG at h1
        split at h1
        · rename_i e2; exact hrow.own b e2
        · cases h1
      · rw [if_neg hb]
  · intro b hb e
    have hbl : b < w.heap.size := by
      obtain ⟨k, hk⟩ := List.getElem?_of_mem hb
      have hkl := (List.getElem?_eq_some_iff.1 hk).1
      obtain ⟨⟨C, h1, _⟩, _⟩ := h.bank k (M.banks[k]'(by rw [← h.blen]; exact hkl)) b (by simp) hk
      exact (Array.getElem?_eq_some_iff.1 h1).1
    have h1 := hr.own b e
    rw [ha.own b hbl, gb b hb] at h1
    cases h1
theorem Tryz.info152 : (Tryz.prog.info? 152).map (fun i => (i.zero, i.size, i.bytes)) = some (some (.agg #[.int .i64 0, .int .u16 0, .int .u8 0]), 3, 16) := by kernel_rfl
set_option maxRecDepth 100000 in
set_option maxHeartbeats 1000000 in
theorem store_65286 (G : Nat → Nat) (i D : Nat) (M : MemS) (hm : MemOk M) (hn : M.tones.length ≤ 1000000) (x : Int) (w : World) (hp : PM w G i D M) :
    Calls Tryz.prog 29 #[.pointer (some ⟨D, 0, none⟩), .int .u16 65286, .int .u8 x] w fun e w' => e = .returned (.tuple #[]) ∧ ∃ G', Adv (fun o => o = i) w G w' G' ∧ PM w' G' i D { M with volume := x, tones := M.tones ++ [(M.cycle, M.pitch, x)] } := by
  obtain ⟨B, bs, tv, hp⟩ := hp
  obtain ⟨i0, hi, hz0, hz1, hz2⟩ := info_parts Tryz.info152
  obtain ⟨-, -, c2, -⟩ := hp.ports hm
  have f1 := hp.free
  have h1 : PMx (w.setCell ⟨D, 19459, none⟩ (.int .u8 x)) G i D B bs tv { M with volume := x } := hp.setHead 19459 _ (head_setTail B M tv hm 2 _) rfl rfl
  have hm1 : MemOk { M with volume := x } := ⟨hm.ram, hm.screen, hm.banks⟩
  obtain ⟨va, vc, rfl, hvc, hnc, -⟩ := hp.tones.slice
  obtain ⟨-, -, -, d3, -, d5, d6⟩ := h1.ports hm1
  have g1 := h1.free
  have ha1 := (Adv.refl (fun o => o = i) w G).setCell (p := ⟨D, 19459, none⟩) hp.hown (.int .u8 x)
  have hrow : Row 152 3 ((w.setCell ⟨D, 19459, none⟩ (.int .u8 x)).drew.alloc (.cells #[.int .i64 M.cycle, .int .u16 M.pitch, .int .u8 x] 152)) (own1 (w.setCell ⟨D, 19459, none⟩ (.int .u8 x)).drew (toneG (.slice va M.tones.length vc)) 0) 1 (.slice va M.tones.length vc) M.tones.length (tonesC M.tones) :=
    (Row.adv (S := fun _ => False) (G := toneG (.slice va M.tones.length vc)) ⟨h1.tones.row, fun b e => if_pos e⟩ (((Adv.refl (fun _ => False) _ _).drew).alloc _ 0) id)
  have HROW := Lib.hid hrow
  have H1 := Lib.hid (And.intro h1 (And.intro hm1 ha1))
  have hone : ∀ u ∈ [Value.int .i64 M.cycle, .int .u16 M.pitch, .int .u8 x], u.oneCell' = true := by
    intro u hu; simp at hu; rcases hu with rfl | rfl | rfl <;> rfl
  have hce : ∀ (j : Nat) (u : Value), [Value.int .i64 M.cycle, .int .u16 M.pitch, .int .u8 x][j]? = some u → (((w.setCell ⟨D, 19459, none⟩ (.int .u8 x)).alloc (.cells #[.int .i64 M.cycle, .int .u16 M.pitch, .int .u8 x] 152)).drew).cell? ((⟨w.heap.size, 0, none⟩ : Addr).add j) = some u := fun j u h => by
    have := new_cells (w.setCell ⟨D, 19459, none⟩ (.int .u8 x)) [Value.int .i64 M.cycle, .int .u16 M.pitch, .int .u8 x] 152 j u h
    rw [World.size_setCell] at this
    exact this
  have HCE := Lib.hid hce
  have hDl := h1.lt
  have hnet := h1.net
  obtain ⟨C, hC, hCl⟩ := h1.head
  have hkeep : ∀ (w2 : World) (G2 : Nat → Nat), Adv (fun o => o = 1) ((w.setCell ⟨D, 19459, none⟩ (.int .u8 x)).drew.alloc (.cells #[.int .i64 M.cycle, .int .u16 M.pitch, .int .u8 x] 152)) (own1 (w.setCell ⟨D, 19459, none⟩ (.int .u8 x)).drew (toneG (.slice va M.tones.length vc)) 0) w2 G2 →
      w2.cell? ⟨D, 19463, none⟩ = some (.slice va M.tones.length vc) ∧ w2.frozen? ⟨D, 19463, none⟩ = false := fun w2 G2 h => by
    have hD2 := (h.keep D (Nat.lt_of_lt_of_le hDl (by simp)) (by
      show ¬ (own1 _ _ 0 D = 1)
      unfold own1
      split
      · decide
      · unfold toneG; rw [if_neg hnet]; decide)).trans ((heap_past _ _ D hDl).trans hC)
    exact ⟨block_cell hD2 19463 _ (by rw [← Array.getElem?_toList, hCl]; exact head_tail B _ _ hm1 6), block_free hD2 19463⟩
  have HKP := Lib.hid hkeep
  have hDl0 : D < w.heap.size := by simpa using hDl
  clear hp h1 hm1 ha1 hrow hce hkeep hC hCl hDl hnet
  go_enter Tryz.func29, Tryz.ntmps29
  go_upto_region 19 with fail
  go_region_law (refine step_append_row rfl (.tmp 101) (.tmp 112) 72 rfl 152 i0 (.agg #[.int .i64 0, .int .u16 0, .int .u8 0]) 3 16 Tryz.underlying72 hi hz0 hz1 hz2 rfl (by decide) _ 1 va M.tones.length vc (tonesC M.tones) rfl HROW.out ⟨w.heap.size, 0, none⟩ 1 1 [.int .i64 M.cycle, .int .u16 M.pitch, .int .u8 x] rfl rfl HCE.out hone (by unfold maxLen; omega) (by omega) ?_; intro va2 vc2 w2 G2 h1 h2; obtain ⟨k1, k2⟩ := HKP.out _ _ h2; have HR2 := Lib.hid h1; have HA2 := Lib.hid h2; clear h1 h2)
  all_goals
    go_wp2
    go_end0
    have e : tonesC (M.tones ++ [(M.cycle, M.pitch, x)]) = tonesC M.tones ++ [.int .i64 M.cycle, .int .u16 M.pitch, .int .u8 x] := by simp [tonesC]
    have hpl := H1.out.1.played H1.out.2.1 (M.cycle, M.pitch, x) ((((Adv.refl (fun o => o = 1) _ _).drew).alloc _ 0).trans HA2.out) (by rw [e]; exact HR2.out)
    exact ⟨rfl, _, H1.out.2.2.trans hpl.1, B, bs, _, hpl.2⟩
end Go.Proofs.YtdnalhjdmlkbmaaGreatDoor
namespace Go.Proofs.YtdnalhjdmlkbmaaGreatDoor
open Go.RowKit

def storeF (M : MemS) (a x : Int) : MemS :=
  if a < 16384 then M else if a < 32768 then { M with banks := bankSet M.banks M.chosen (a - 16384).toNat x }
  else if a < 49152 then { M with ram := M.ram.set (a - 32768).toNat x } else if a < 52224 then { M with screen := M.screen.set (a - 49152).toNat x }
  else if a = 65280 then { M with chosen := x.tmod 16 }
  else if a = 65284 then { M with pitch := bits BinOp.or .u16 (bits BinOp.and .u16 M.pitch 65280) (IntKind.wrap .u16 x) }
  else if a = 65285 then { M with pitch := bits BinOp.or .u16 (bits BinOp.and .u16 M.pitch 255) (IntKind.wrap .u16 (IntKind.wrap .u16 x * 256)) }
  else if a = 65286 then { M with volume := x, tones := M.tones ++ [(M.cycle, M.pitch, x)] } else M
/-- Store, at every address. -/
theorem store_any (G : Nat → Nat) (i D : Nat) (M : MemS) (hm : MemOk M) (hn : M.tones.length ≤ 1000000) (a : Int) (h0 : 0 ≤ a) (h9 : a < 65536) (x : Int) (w : World) (hp : PM w G i D M) :
    Calls Tryz.prog 29 #[.pointer (some ⟨D, 0, none⟩), .int .u16 a, .int .u8 x] w fun e w' => e = .returned (.tuple #[]) ∧ ∃ G', Adv (fun o => o = i) w G w' G' ∧ PM w' G' i D (storeF M a x) := by
  have same : ∀ {e : Ending} {w' : World}, storeF M a x = M → e = .returned (.tuple #[]) ∧ w = w' → e = .returned (.tuple #[]) ∧ ∃ G', Adv (fun o => o = i) w G w' G' ∧ PM w' G' i D (storeF M a x) := fun h0 h => by
    obtain ⟨h1, rfl⟩ := h
    exact ⟨h1, G, Adv.refl _ _ _, by rw [h0]; exact hp⟩
  by_cases c1 : a < 16384
  · exact (store_low D a x c1 w).mono fun _ _ h => same (if_pos c1) h
  by_cases c2 : a < 32768
  · obtain ⟨k, rfl⟩ : ∃ k : Nat, a = 16384 + (k : Int) := ⟨(a - 16384).toNat, by omega⟩
    have e : storeF M (16384 + (k : Int)) x = { M with banks := bankSet M.banks M.chosen k x } := by
      unfold storeF; rw [if_neg c1, if_pos c2, show (16384 + (k : Int) - 16384).toNat = k from by omega]
    rw [e]
    exact (store_window G i D M hm k (by omega) x w hp).mono fun _ _ h => ⟨h.1, G, h.2⟩
  by_cases c3 : a < 49152
  · obtain ⟨k, rfl⟩ : ∃ k : Nat, a = 32768 + (k : Int) := ⟨(a - 32768).toNat, by omega⟩
    have e : storeF M (32768 + (k : Int)) x = { M with ram := M.ram.set k x } := by
      unfold storeF; rw [if_neg c1, if_neg c2, if_pos c3, show (32768 + (k : Int) - 32768).toNat = k from by omega]
    rw [e]
    exact (store_ram G i D M hm k (by omega) x w hp).mono fun _ _ h => ⟨h.1, G, h.2⟩
  by_cases c4 : a < 52224
  · obtain ⟨k, rfl⟩ : ∃ k : Nat, a = 49152 + (k : Int) := ⟨(a - 49152).toNat, by omega⟩
    have e : storeF M (49152 + (k : Int)) x = { M with screen := M.screen.set k x } := by
      unfold storeF; rw [if_neg c1, if_neg c2, if_neg c3, if_pos c4, show (49152 + (k : Int) - 49152).toNat = k from by omega]
    rw [e]
    exact (store_screen G i D M hm k (by omega) x w hp).mono fun _ _ h => ⟨h.1, G, h.2⟩
  by_cases n1 : a = 65280
  · subst n1; exact (store_65280 G i D M hm x w hp).mono fun _ _ h => ⟨h.1, G, h.2⟩
  by_cases n3 : a = 65284
  · subst n3; exact (store_65284 G i D M hm x w hp).mono fun _ _ h => ⟨h.1, G, h.2⟩
  by_cases n4 : a = 65285
  · subst n4; exact (store_65285 G i D M hm x w hp).mono fun _ _ h => ⟨h.1, G, h.2⟩
  by_cases n5 : a = 65286
  · subst n5; exact store_65286 G i D M hm hn x w hp
  exact (store_none D a x (by omega) h9 n1 n3 n4 n5 w).mono fun _ _ h => same (by simp [storeF, c1, c2, c3, c4, n1, n3, n4, n5]) h
theorem bankSet_len : ∀ (l : List (Int × List Int)) (c : Int) (k : Nat) (x : Int), (∀ p ∈ l, p.2.length = 16384) → ∀ p ∈ bankSet l c k x, p.2.length = 16384
  | [], _, _, _, _, p, hp => by simp [bankSet] at hp
  | q :: l, c, k, x, h, p, hp => by
    by_cases e : q.1 = c
    · simp only [bankSet, if_pos e, List.mem_cons] at hp
      rcases hp with rfl | hp
      · simpa using h q (by simp)
      · exact h p (by simp [hp])
    · simp only [bankSet, if_neg e, List.mem_cons] at hp
      rcases hp with rfl | hp
      · exact h _ (by simp)
      · exact bankSet_len l c k x (fun p hp => h p (by simp [hp])) p hp
theorem storeF_ok (M : MemS) (hm : MemOk M) (a x : Int) : MemOk (storeF M a x) := by
  obtain ⟨h1, h2, h3⟩ := hm
  unfold storeF
  repeat' split
  all_goals first | exact ⟨h1, h2, h3⟩ | exact ⟨h1, h2, bankSet_len _ _ _ _ h3⟩ | exact ⟨by simpa using h1, h2, h3⟩ | exact ⟨h1, by simpa using h2, h3⟩
end Go.Proofs.YtdnalhjdmlkbmaaGreatDoor
namespace Go.Proofs.YtdnalhjdmlkbmaaGreatDoor
open Go.RowKit

theorem storeF_tones (M : MemS) (a x : Int) : (storeF M a x).tones.length ≤ M.tones.length + 1 := by
  unfold storeF
  repeat' split
  all_goals first | exact Nat.le_succ _ | (simp only [List.length_append, List.length_cons, List.length_nil]; omega)
theorem setCell_any (G : Nat → Nat) (i D : Nat) (M : MemS) (hm : MemOk M) (hn : M.tones.length ≤ 999999) (a : Int) (h0 : 0 ≤ a) (h9 : a < 65536) (x : Int) (w : World) (hp : PM w G i D M) :
    Calls Tryz.prog 199 #[.pointer (some ⟨D, 0, none⟩), .int .u16 a, .int .u16 x] w fun e w' => e = .returned (.tuple #[]) ∧ ∃ G', Adv (fun o => o = i) w G w' G' ∧ PM w' G' i D (storeF (storeF M a (x % 256)) (nextA a) (x / 256 % 256)) := by
  have HP := Lib.hid hp
  clear hp
  go_enter Tryz.func199, Tryz.ntmps199
  go_wp2_with fail
  refine (store_any G i D M hm (by omega) a h0 h9 _ _ HP.out).mono ?_
  rintro e w1 ⟨rfl, G1, ha1, hp1⟩
  have H1 := Lib.hid (And.intro ha1 hp1)
  clear ha1 hp1
  go_wp2_with fail
  refine (store_any G1 i D (storeF M a (x % 256)) (storeF_ok M hm a _) (by have := storeF_tones M a (x % 256); omega) (nextA a) (nextA_lo a).1 (nextA_lo a).2 _ _ H1.out.2).mono ?_
  rintro e w2 ⟨rfl, G2, ha2, hp2⟩
  have H2 := Lib.hid (And.intro (H1.out.1.trans ha2) hp2)
  clear ha2 hp2
  go_wp2_with fail
  go_end0
  exact ⟨rfl, G2, H2.out.1, H2.out.2⟩
end Go.Proofs.YtdnalhjdmlkbmaaGreatDoor
namespace Go.Proofs.YtdnalhjdmlkbmaaGreatDoor
open Go.RowKit
set_option linter.unusedVariables false

def plotF (M : MemS) (x y c : Int) : MemS := if x < 64 ∧ y < 48 then storeF M (49152 + 64 * y + x) (c % 256) else M
def playF (M : MemS) (p v : Int) : MemS := storeF (storeF (storeF M 65284 (p % 256)) (nextA 65284) (p / 256 % 256)) 65286 v
theorem pad_any (G : Nat → Nat) (i D : Nat) (M : MemS) (hm : MemOk M) (w : World) (hp : PM w G i D M) :
    Calls Tryz.prog 202 #[.pointer (some ⟨D, 0, none⟩)] w fun e w' => e = .returned (.int .u8 M.pad) ∧ ∃ d, w' = w.drewN d := by
  have HP := Lib.hid hp
  clear hp
  go_enter Tryz.func202, Tryz.ntmps202
  go_wp2_with fail
  refine (load_any G i D M hm 65282 (by decide) (by decide) _ HP.out).mono ?_
  rintro e w' ⟨rfl, d, rfl⟩
  go_wp2_with fail
  go_ret
  exact ⟨rfl, d, rfl⟩
theorem choose_any (G : Nat → Nat) (i D : Nat) (M : MemS) (hm : MemOk M) (hn : M.tones.length ≤ 999999) (n : Int) (h0 : 0 ≤ n) (h9 : n < 65536) (w : World) (hp : PM w G i D M) :
    Calls Tryz.prog 204 #[.pointer (some ⟨D, 0, none⟩), .int .u16 n] w fun e w' => e = .returned (.tuple #[]) ∧ ∃ G', Adv (fun o => o = i) w G w' G' ∧ PM w' G' i D (storeF M 65280 (n % 256)) := by
  have HP := Lib.hid hp
  clear hp
  go_enter Tryz.func204, Tryz.ntmps204
  go_wp2_with fail
  refine (store_any G i D M hm (by omega) 65280 (by decide) (by decide) (n % 256) _ HP.out).mono ?_
  rintro e w1 ⟨rfl, G1, ha1, hp1⟩
  have H1 := Lib.hid (And.intro ha1 hp1)
  clear ha1 hp1
  go_wp2_with fail
  go_end0
  exact ⟨rfl, G1, H1.out.1, H1.out.2⟩
theorem play_any (G : Nat → Nat) (i D : Nat) (M : MemS) (hm : MemOk M) (hn : M.tones.length ≤ 99999) (p v : Int) (h0 : 0 ≤ p) (h9 : p < 65536) (w : World) (hp : PM w G i D M) :
    Calls Tryz.prog 203 #[.pointer (some ⟨D, 0, none⟩), .int .u16 p, .int .u8 v] w fun e w' => e = .returned (.tuple #[]) ∧ ∃ G', Adv (fun o => o = i) w G w' G' ∧ PM w' G' i D (playF M p v) := by
  have HP := Lib.hid hp
  clear hp
  go_enter Tryz.func203, Tryz.ntmps203
  go_wp2_with fail
  refine (setCell_any G i D M hm (by omega) 65284 (by decide) (by decide) p _ HP.out).mono ?_
  rintro e w1 ⟨rfl, G1, ha1, hp1⟩
  have H1 := Lib.hid (And.intro ha1 hp1)
  clear ha1 hp1
  go_wp2_with fail
  refine (store_any G1 i D (storeF (storeF M 65284 (p % 256)) (nextA 65284) (p / 256 % 256)) (storeF_ok _ (storeF_ok M hm _ _) _ _) (by have h1 := storeF_tones M 65284 (p % 256); have h2 := storeF_tones (storeF M 65284 (p % 256)) (nextA 65284) (p / 256 % 256); omega) 65286 (by decide) (by decide) v _ H1.out.2).mono ?_
  rintro e w2 ⟨rfl, G2, ha2, hp2⟩
  have H2 := Lib.hid (And.intro (H1.out.1.trans ha2) hp2)
  clear ha2 hp2
  go_wp2_with fail
  go_end0
  exact ⟨rfl, G2, H2.out.1, H2.out.2⟩
theorem plot_in (G : Nat → Nat) (i D : Nat) (M : MemS) (hm : MemOk M) (hn : M.tones.length ≤ 999999) (x y c : Int) (x0 : 0 ≤ x) (x1 : x < 64) (y0 : 0 ≤ y) (y1 : y < 48) (c0 : 0 ≤ c) (c1 : c < 65536) (w : World) (hp : PM w G i D M) :
    Calls Tryz.prog 201 #[.pointer (some ⟨D, 0, none⟩), .int .u16 x, .int .u16 y, .int .u16 c] w fun e w' => e = .returned (.tuple #[]) ∧ ∃ G', Adv (fun o => o = i) w G w' G' ∧ PM w' G' i D (plotF M x y c) := by
  have e : plotF M x y c = storeF M (49152 + 64 * y + x) (c % 256) := if_pos ⟨x1, y1⟩
  rw [e]
  have HP := Lib.hid hp
  have b1 : decide (x < 64) = true := by simpa using x1
  have b2 : decide (y < 48) = true := by simpa using y1
  clear hp e
  go_enter Tryz.func201, Tryz.ntmps201
  go_wp2_with fail
  refine (store_any G i D M hm (by omega) (49152 + 64 * y + x) (by omega) (by omega) (c % 256) _ HP.out).mono ?_
  rintro e w1 ⟨rfl, G1, ha1, hp1⟩
  have H1 := Lib.hid (And.intro ha1 hp1)
  clear ha1 hp1
  go_wp2_with fail
  go_end0
  exact ⟨rfl, G1, H1.out.1, H1.out.2⟩
theorem plot_out (D : Nat) (M : MemS) (x y c : Int) (h : 64 ≤ x ∨ 48 ≤ y) (w : World) :
    Calls Tryz.prog 201 #[.pointer (some ⟨D, 0, none⟩), .int .u16 x, .int .u16 y, .int .u16 c] w fun e w' => e = .returned (.tuple #[]) ∧ w = w' ∧ plotF M x y c = M := by
  have e : plotF M x y c = M := if_neg (by omega)
  by_cases hx : x < 64
  · have b1 : decide (x < 64) = true := by simpa using hx
    have b2 : decide (y < 48) = false := by simp; omega
    have HE := Lib.hid e
    clear e
    go_enter Tryz.func201, Tryz.ntmps201
    go_wp2
    go_end0
    exact ⟨rfl, rfl, HE.out⟩
  · have b1 : decide (x < 64) = false := by simp; omega
    have HE := Lib.hid e
    clear e
    go_enter Tryz.func201, Tryz.ntmps201
    go_wp2
    go_end0
    exact ⟨rfl, rfl, HE.out⟩
end Go.Proofs.YtdnalhjdmlkbmaaGreatDoor
namespace Go.Proofs.YtdnalhjdmlkbmaaGreatDoor
open Go.RowKit

theorem and255 (x : Int) (h0 : 0 ≤ x) (h1 : x < 65536) : IntKind.wrap .u8 (bits BinOp.and .u16 x 255) = x % 256 := by
  obtain ⟨n, rfl⟩ : ∃ n : Nat, x = n := ⟨x.toNat, by omega⟩
  have e : bits BinOp.and .u16 (n : Int) 255 = ((n % 256 : Nat) : Int) := by
    show IntKind.wrap .u16 ((BitVec.ofInt 16 (n : Int) &&& BitVec.ofInt 16 ((255 : Nat) : Int)).toNat : Nat) = _
    rw [BitVec.toNat_and, ofInt16 _ (by omega), ofInt16 255 (by omega), show (255 : Nat) = 2 ^ 8 - 1 from rfl, Nat.and_two_pow_sub_one_eq_mod]
    exact wrap_u16_id _ (by omega) (by omega)
  rw [e, wrap_u8_id _ (by omega) (by omega)]; omega
/-- Two bytes, the low one first, as the program makes a cell of them. -/
def pairF (lo hi : Int) : Int := bits BinOp.or .u16 (IntKind.wrap .u16 lo) (IntKind.wrap .u16 (IntKind.wrap .u16 hi * 256))
theorem pairF_rng (lo hi : Int) : 0 ≤ pairF lo hi ∧ pairF lo hi < 65536 := bits16_rng _ _ _
theorem pairF_eq (lo hi : Int) (l0 : 0 ≤ lo) (l1 : lo < 256) (h0 : 0 ≤ hi) (h1 : hi < 256) : pairF lo hi = hi * 256 + lo := by
  obtain ⟨l, rfl⟩ : ∃ l : Nat, lo = l := ⟨lo.toNat, by omega⟩
  obtain ⟨h, rfl⟩ : ∃ h : Nat, hi = h := ⟨hi.toNat, by omega⟩
  unfold pairF
  rw [wrap_u16_id (l : Int) (by omega) (by omega), wrap_u16_id (h : Int) (by omega) (by omega), wrap_u16_id _ (by omega) (by omega), bits_or_nat l h (by omega) (by omega)]
  simp
theorem cellF_pair (M : MemS) (a : Int) : cellF M a = pairF (loadF M a) (loadF M (nextA a)) := rfl

def B8 (l : List Int) : Prop := ∀ x ∈ l, 0 ≤ x ∧ x < 256
def D16 (l : List Int) : Prop := ∀ x ∈ l, 0 ≤ x ∧ x < 65536
def R16 (l : List (Int × Int)) : Prop := ∀ x ∈ l, 0 ≤ x.2 ∧ x.2 < 65536
theorem B8.getD {l : List Int} (h : B8 l) (k : Nat) : 0 ≤ l.getD k 0 ∧ l.getD k 0 < 256 := by
  rw [List.getD_eq_getElem?_getD]
  cases e : l[k]? with
  | none => exact ⟨Int.le_refl _, by decide⟩
  | some x => exact h x (List.mem_of_getElem? e)
theorem B8.set {l : List Int} (h : B8 l) (k : Nat) {x : Int} (hx : 0 ≤ x ∧ x < 256) : B8 (l.set k x) := by
  intro y hy
  rcases List.mem_or_eq_of_mem_set hy with h1 | rfl
  · exact h y h1
  · exact hx
theorem B8.nil : B8 [] := fun _ h => by simp at h
theorem D16.nil : D16 [] := fun _ h => by simp at h
theorem D16.append {l m : List Int} (h : D16 l) (k : D16 m) : D16 (l ++ m) := fun x hx => by
  rcases List.mem_append.1 hx with h1 | h1
  · exact h x h1
  · exact k x h1
theorem D16.one {x : Int} (h : 0 ≤ x ∧ x < 65536) : D16 [x] := fun y hy => by rw [List.mem_singleton.1 hy]; exact h
theorem D16.left {l m : List Int} (h : D16 (l ++ m)) : D16 l := fun x hx => h x (List.mem_append_left _ hx)
theorem D16.right {l m : List Int} (h : D16 (l ++ m)) : D16 m := fun x hx => h x (List.mem_append_right _ hx)
theorem R16.append {l m : List (Int × Int)} (h : R16 l) (k : R16 m) : R16 (l ++ m) := fun x hx => by
  rcases List.mem_append.1 hx with h1 | h1
  · exact h x h1
  · exact k x h1
theorem R16.left {l m : List (Int × Int)} (h : R16 (l ++ m)) : R16 l := fun x hx => h x (List.mem_append_left _ hx)
theorem R16.one {x : Int × Int} (h : 0 ≤ x.2 ∧ x.2 < 65536) : R16 [x] := fun y hy => by rw [List.mem_singleton.1 hy]; exact h
/-- All that a memory holds is within its ranges. -/
structure MemR (M : MemS) : Prop where
  banks : ∀ p ∈ M.banks, B8 p.2
  ram : B8 M.ram
  screen : B8 M.screen
  chosen : 0 ≤ M.chosen ∧ M.chosen < 16
  pad : 0 ≤ M.pad ∧ M.pad < 256
  volume : 0 ≤ M.volume ∧ M.volume < 256
  pitch : 0 ≤ M.pitch ∧ M.pitch < 65536
  time : 0 ≤ M.time ∧ M.time < 65536
theorem bankF_rng : ∀ (l : List (Int × List Int)) (c : Int), (∀ p ∈ l, B8 p.2) → B8 ((bankF l c).getD [])
  | [], _, _ => B8.nil
  | q :: l, c, h => by
    by_cases e : q.1 = c
    · simp only [bankF, if_pos e, Option.getD_some]; exact h q (by simp)
    · simp only [bankF, if_neg e]; exact bankF_rng l c fun p hp => h p (by simp [hp])
theorem portF_rng {M : MemS} (h : MemR M) (a : Int) : 0 ≤ portF M a ∧ portF M a < 256 := by
  have h1 := h.chosen
  unfold portF
  repeat' split
  all_goals first | exact wrap_u8_rng _ | exact h.pad | exact h.volume | exact ⟨h1.1, by omega⟩ | exact ⟨Int.le_refl _, by decide⟩
theorem loadF_rng {M : MemS} (h : MemR M) (a : Int) : 0 ≤ loadF M a ∧ loadF M a < 256 := by
  unfold loadF
  repeat' split
  · exact ⟨Int.le_refl _, by decide⟩
  · exact (bankF_rng _ _ h.banks).getD _
  · exact h.ram.getD _
  · exact h.screen.getD _
  · exact portF_rng h a
theorem cellF_rng (M : MemS) (a : Int) : 0 ≤ cellF M a ∧ cellF M a < 65536 := bits16_rng _ _ _
theorem bankSet_rng : ∀ (l : List (Int × List Int)) (c : Int) (k : Nat) (x : Int), (0 ≤ x ∧ x < 256) → (∀ p ∈ l, B8 p.2) → ∀ p ∈ bankSet l c k x, B8 p.2
  | [], _, _, _, _, _, p, hp => by simp [bankSet] at hp
  | q :: l, c, k, x, hx, h, p, hp => by
    by_cases e : q.1 = c
    · simp only [bankSet, if_pos e, List.mem_cons] at hp
      rcases hp with rfl | hp
      · exact (h q (by simp)).set _ hx
      · exact h p (by simp [hp])
    · simp only [bankSet, if_neg e, List.mem_cons] at hp
      rcases hp with rfl | hp
      · exact h _ (by simp)
      · exact bankSet_rng l c k x hx (fun p hp => h p (by simp [hp])) p hp
theorem storeF_rng {M : MemS} (h : MemR M) (a : Int) {x : Int} (hx : 0 ≤ x ∧ x < 256) : MemR (storeF M a x) := by
  obtain ⟨h1, h2, h3, h4, h5, h6, h7, h8⟩ := h
  unfold storeF
  repeat' split
  · exact ⟨h1, h2, h3, h4, h5, h6, h7, h8⟩
  · exact ⟨bankSet_rng _ _ _ _ hx h1, h2, h3, h4, h5, h6, h7, h8⟩
  · exact ⟨h1, h2.set _ hx, h3, h4, h5, h6, h7, h8⟩
  · exact ⟨h1, h2, h3.set _ hx, h4, h5, h6, h7, h8⟩
  · refine ⟨h1, h2, h3, ?_, h5, h6, h7, h8⟩
    show 0 ≤ x.tmod 16 ∧ x.tmod 16 < 16
    rw [Int.tmod_eq_emod_of_nonneg hx.1]; omega
  · have hb := bits16_rng BinOp.or (bits BinOp.and .u16 M.pitch 65280) (IntKind.wrap .u16 x)
    exact ⟨h1, h2, h3, h4, h5, h6, hb, h8⟩
  · have hb := bits16_rng BinOp.or (bits BinOp.and .u16 M.pitch 255) (IntKind.wrap .u16 (IntKind.wrap .u16 x * 256))
    exact ⟨h1, h2, h3, h4, h5, h6, hb, h8⟩
  · exact ⟨h1, h2, h3, h4, h5, hx, h7, h8⟩
  · exact ⟨h1, h2, h3, h4, h5, h6, h7, h8⟩
/-- SetCell's memory. -/
def setCellF (M : MemS) (a x : Int) : MemS := storeF (storeF M a (x % 256)) (nextA a) (x / 256 % 256)
theorem byte_rng (x : Int) : 0 ≤ x % 256 ∧ x % 256 < 256 := by omega
theorem setCellF_rng {M : MemS} (h : MemR M) (a x : Int) : MemR (setCellF M a x) := storeF_rng (storeF_rng h _ (byte_rng _)) _ (byte_rng _)
theorem setCellF_ok {M : MemS} (h : MemOk M) (a x : Int) : MemOk (setCellF M a x) := storeF_ok _ (storeF_ok _ h _ _) _ _
theorem setCellF_tones (M : MemS) (a x : Int) : (setCellF M a x).tones.length ≤ M.tones.length + 2 := by
  have h1 := storeF_tones M a (x % 256)
  have h2 := storeF_tones (storeF M a (x % 256)) (nextA a) (x / 256 % 256)
  unfold setCellF; omega
theorem plotF_rng {M : MemS} (h : MemR M) (x y c : Int) : MemR (plotF M x y c) := by
  unfold plotF; split
  · exact storeF_rng h _ (byte_rng _)
  · exact h
theorem plotF_ok {M : MemS} (h : MemOk M) (x y c : Int) : MemOk (plotF M x y c) := by
  unfold plotF; split
  · exact storeF_ok _ h _ _
  · exact h
theorem plotF_tones (M : MemS) (x y c : Int) : (plotF M x y c).tones.length ≤ M.tones.length + 1 := by
  unfold plotF; split
  · exact storeF_tones _ _ _
  · omega
theorem playF_rng {M : MemS} (h : MemR M) (p : Int) {v : Int} (hv : 0 ≤ v ∧ v < 256) : MemR (playF M p v) := storeF_rng (storeF_rng (storeF_rng h _ (byte_rng _)) _ (byte_rng _)) _ hv
theorem playF_ok {M : MemS} (h : MemOk M) (p v : Int) : MemOk (playF M p v) := storeF_ok _ (storeF_ok _ (storeF_ok _ h _ _) _ _) _ _
theorem playF_tones (M : MemS) (p v : Int) : (playF M p v).tones.length ≤ M.tones.length + 3 := by
  have h1 := setCellF_tones M 65284 p
  have h2 := storeF_tones (setCellF M 65284 p) 65286 v
  show (storeF (setCellF M 65284 p) 65286 v).tones.length ≤ _
  omega
end Go.Proofs.YtdnalhjdmlkbmaaGreatDoor
namespace Go.Proofs.YtdnalhjdmlkbmaaGreatDoor
open Go.RowKit
set_option linter.unusedVariables false

/-- One of three owners. -/
def S3 (i j q : Nat) : Nat → Prop := fun o => o = i ∨ o = j ∨ o = q
/-- Three owners, none of them nobody. -/
structure Own3 (i j q : Nat) : Prop where
  i0 : i ≠ 0
  j0 : j ≠ 0
  q0 : q ≠ 0
  ij : i ≠ j
  iq : i ≠ q
  jq : j ≠ q
theorem Own3.zero {i j q : Nat} (h : Own3 i j q) : ¬ S3 i j q 0 := by
  rintro (e | e | e)
  · exact h.i0 e.symm
  · exact h.j0 e.symm
  · exact h.q0 e.symm
/-- The two stacks and the memory. -/
structure Trio (w : World) (G : Nat → Nat) (i j q D R M : Nat) (d : List Int) (r : List (Int × Int)) (m : MemS) : Prop where
  pu : PU w G i D d
  pr : PR w G j R r
  pm : PM w G q M m
theorem Trio.adv {S : Nat → Prop} {w w' : World} {G G' : Nat → Nat} {i j q D R M : Nat} {d : List Int} {r : List (Int × Int)} {m : MemS} (h : Trio w G i j q D R M d r m) (ha : Adv S w G w' G') (h1 : ¬ S i) (h2 : ¬ S j) (h3 : ¬ S q) : Trio w' G' i j q D R M d r m :=
  ⟨h.pu.adv ha h1, h.pr.adv ha h2, h.pm.adv ha h3⟩
theorem Trio.still {w w' : World} {G G' : Nat → Nat} {i j q D R M : Nat} {d : List Int} {r : List (Int × Int)} {m : MemS} (h : Trio w G i j q D R M d r m) (ha : Adv (fun _ => False) w G w' G') : Trio w' G' i j q D R M d r m := h.adv ha id id id
/-- What a call leaves: its answer, the two stacks and the memory. -/
def Left3 (i j q D R M : Nat) (w : World) (G : Nat → Nat) (d : List Int) (r : List (Int × Int)) (m : MemS) (v : Value) (e : Ending) (w' : World) : Prop :=
  e = .returned v ∧ ∃ G', Adv (S3 i j q) w G w' G' ∧ Trio w' G' i j q D R M d r m
theorem Trio.drewN {w : World} {G : Nat → Nat} {i j q D R M : Nat} {d : List Int} {r : List (Int × Int)} {m : MemS} (h : Trio w G i j q D R M d r m) (n : Nat) : Trio (w.drewN n) G i j q D R M d r m := h.still ((Adv.refl _ w G).drewN n)
theorem Trio.drew {w : World} {G : Nat → Nat} {i j q D R M : Nat} {d : List Int} {r : List (Int × Int)} {m : MemS} (h : Trio w G i j q D R M d r m) : Trio w.drew G i j q D R M d r m := h.drewN 1
theorem Trio.alloc {w : World} {G : Nat → Nat} {i j q D R M : Nat} {d : List Int} {r : List (Int × Int)} {m : MemS} (h : Trio w G i j q D R M d r m) (o : Obj) (k : Nat) : Trio (w.alloc o) (own1 w G k) i j q D R M d r m := h.still ((Adv.refl _ w G).alloc o k)
section
variable {w : World} {G : Nat → Nat} {i j q D R M : Nat} {d : List Int} {r : List (Int × Int)} {m : MemS}

theorem Trio.pop {x : Int} (o : Own3 i j q) (h : Trio w G i j q D R M (d ++ [x]) r m) : Calls Tryz.prog 147 #[.pointer (some ⟨D, 0, none⟩)] w (Left3 i j q D R M w G d r m (.int .u16 x)) :=
  (popPU G i D d x w h.pu).mono fun e w' k => ⟨k.1, G, k.2.1.mono fun _ e => .inl e, k.2.2, h.pr.adv k.2.1 (Ne.symm o.ij), h.pm.adv k.2.1 (Ne.symm o.iq)⟩
theorem Trio.push {l : List Int} (o : Own3 i j q) (h : Trio w G i j q D R M d r m) (xa : Option Addr) (n c : Nat) (hn : l.length = n) (hroom : d.length + n ≤ 256) (hr : Reads w xa (cellsU l)) :
    Calls Tryz.prog 39 #[.pointer (some ⟨D, 0, none⟩), .slice xa n c] w (Left3 i j q D R M w G (d ++ l) r m (.int .i64 0)) :=
  (pushPU G i D d l xa n c w h.pu hn hroom hr).mono fun e w' k => by
    obtain ⟨k1, G', k2, k3⟩ := k
    exact ⟨k1, G', k2.mono fun _ e => .inl e, k3, h.pr.adv k2 (Ne.symm o.ij), h.pm.adv k2 (Ne.symm o.iq)⟩
theorem Trio.pushR {l : List (Int × Int)} (o : Own3 i j q) (h : Trio w G i j q D R M d r m) (xa : Option Addr) (n c : Nat) (hn : l.length = n) (hroom : r.length + n ≤ 128) (hr : Reads w xa (cellsR l)) :
    Calls Tryz.prog 41 #[.pointer (some ⟨R, 0, none⟩), .slice xa n c] w (Left3 i j q D R M w G d (r ++ l) m (.int .i64 0)) :=
  (pushPR G j R r l xa n c w h.pr hn hroom hr).mono fun e w' k => by
    obtain ⟨k1, G', k2, k3⟩ := k
    exact ⟨k1, G', k2.mono fun _ e => .inr (.inl e), h.pu.adv k2 o.ij, k3, h.pm.adv k2 (Ne.symm o.jq)⟩
theorem Trio.pushR_no (o : Own3 i j q) (h : Trio w G i j q D R M d r m) (xa : Option Addr) (n c : Nat) (hl : r.length ≤ 128) (hn : n ≤ 100000) (hfull : 128 < r.length + n) :
    Calls Tryz.prog 41 #[.pointer (some ⟨R, 0, none⟩), .slice xa n c] w (Left3 i j q D R M w G d r m (.int .i64 4)) :=
  (pushPR_no G j R r xa n c w h.pr hl (by omega) hfull).mono fun e w' k => by
    obtain ⟨k1, rfl⟩ := k
    exact ⟨k1, G, Adv.refl _ _ _, h⟩
theorem Trio.popR {c : Int × Int} (o : Own3 i j q) (h : Trio w G i j q D R M d (r ++ [c]) m) (hm : r.length < 100000) :
    Calls Tryz.prog 149 #[.pointer (some ⟨R, 0, none⟩), .int .i64 c.1] w (Left3 i j q D R M w G d r m (.tuple #[.int .u16 c.2, .int .i64 0])) :=
  (popPR G j R r c w h.pr hm).mono fun e w' k => by
    obtain ⟨k1, G', k2, k3⟩ := k
    exact ⟨k1, G', k2.mono fun _ e => .inr (.inl e), h.pu.adv k2 o.ij, k3, h.pm.adv k2 (Ne.symm o.jq)⟩
theorem Trio.popR_not (h : Trio w G i j q D R M d r m) (kind : Int) (hm : r.length ≤ 100000) (hne : (atE r 0 kind == 0) = false) :
    Calls Tryz.prog 149 #[.pointer (some ⟨R, 0, none⟩), .int .i64 kind] w (Left3 i j q D R M w G d r m (.tuple #[.int .u16 (atV r 0 kind), .int .i64 (atE r 0 kind)])) :=
  (popPR_not G j R r kind w h.pr hm hne).mono fun e w' k => by
    obtain ⟨k1, n, rfl⟩ := k
    exact ⟨k1, G, (Adv.refl _ _ _).drewN n, h.drewN n⟩
theorem Trio.setR {c : Int × Int} (o : Own3 i j q) (h : Trio w G i j q D R M d (r ++ [c]) m) (x : Int) (hm : r.length < 100000) :
    Calls Tryz.prog 169 #[.pointer (some ⟨R, 0, none⟩), .int .u16 x] w (Left3 i j q D R M w G d (r ++ [(c.1, x)]) m (.tuple #[])) :=
  (setPR G j R r c x w h.pr hm).mono fun e w' k => by
    obtain ⟨k1, k2, k3⟩ := k
    exact ⟨k1, G, k2.mono fun _ e => .inr (.inl e), h.pu.adv k2 o.ij, k3, h.pm.adv k2 (Ne.symm o.jq)⟩
theorem Trio.at (h : Trio w G i j q D R M d r m) (n kind : Int) (hm : r.length ≤ 100000) :
    Calls Tryz.prog 125 #[.pointer (some ⟨R, 0, none⟩), .int .i64 n, .int .i64 kind] w (Left3 i j q D R M w G d r m (.tuple #[.int .u16 (atV r n kind), .int .i64 (atE r n kind)])) :=
  (atPR G j R r n kind w h.pr hm).mono fun e w' k => by
    obtain ⟨k1, n, rfl⟩ := k
    exact ⟨k1, G, (Adv.refl _ _ _).drewN n, h.drewN n⟩
theorem Trio.load (h : Trio w G i j q D R M d r m) (hm : MemOk m) (a : Int) (h0 : 0 ≤ a) (h9 : a < 65536) :
    Calls Tryz.prog 69 #[.pointer (some ⟨M, 0, none⟩), .int .u16 a] w (Left3 i j q D R M w G d r m (.int .u8 (loadF m a))) :=
  (load_any G q M m hm a h0 h9 w h.pm).mono fun e w' k => by
    obtain ⟨k1, n, rfl⟩ := k
    exact ⟨k1, G, (Adv.refl _ _ _).drewN n, h.drewN n⟩
theorem Trio.cell (h : Trio w G i j q D R M d r m) (hm : MemOk m) (a : Int) (h0 : 0 ≤ a) (h9 : a < 65536) :
    Calls Tryz.prog 105 #[.pointer (some ⟨M, 0, none⟩), .int .u16 a] w (Left3 i j q D R M w G d r m (.int .u16 (cellF m a))) :=
  (cell_any G q M m hm a h0 h9 w h.pm).mono fun e w' k => by
    obtain ⟨k1, n, rfl⟩ := k
    exact ⟨k1, G, (Adv.refl _ _ _).drewN n, h.drewN n⟩
theorem Trio.pad (h : Trio w G i j q D R M d r m) (hm : MemOk m) :
    Calls Tryz.prog 202 #[.pointer (some ⟨M, 0, none⟩)] w (Left3 i j q D R M w G d r m (.int .u8 m.pad)) :=
  (pad_any G q M m hm w h.pm).mono fun e w' k => by
    obtain ⟨k1, n, rfl⟩ := k
    exact ⟨k1, G, (Adv.refl _ _ _).drewN n, h.drewN n⟩
theorem Trio.mem {m' : MemS} {w' : World} {G' : Nat → Nat} (o : Own3 i j q) (h : Trio w G i j q D R M d r m) (ha : Adv (fun o => o = q) w G w' G') (hp : PM w' G' q M m') : Adv (S3 i j q) w G w' G' ∧ Trio w' G' i j q D R M d r m' :=
  ⟨ha.mono fun _ e => .inr (.inr e), h.pu.adv ha o.iq, h.pr.adv ha o.jq, hp⟩
theorem Trio.store (o : Own3 i j q) (h : Trio w G i j q D R M d r m) (hm : MemOk m) (hn : m.tones.length ≤ 99999) (a : Int) (h0 : 0 ≤ a) (h9 : a < 65536) (x : Int) :
    Calls Tryz.prog 29 #[.pointer (some ⟨M, 0, none⟩), .int .u16 a, .int .u8 x] w (Left3 i j q D R M w G d r (storeF m a x) (.tuple #[])) :=
  (store_any G q M m hm (by omega) a h0 h9 x w h.pm).mono fun e w' k => by
    obtain ⟨k1, G', k2, k3⟩ := k
    exact ⟨k1, G', h.mem o k2 k3⟩
theorem Trio.setCell (o : Own3 i j q) (h : Trio w G i j q D R M d r m) (hm : MemOk m) (hn : m.tones.length ≤ 99999) (a : Int) (h0 : 0 ≤ a) (h9 : a < 65536) (x : Int) :
    Calls Tryz.prog 199 #[.pointer (some ⟨M, 0, none⟩), .int .u16 a, .int .u16 x] w (Left3 i j q D R M w G d r (setCellF m a x) (.tuple #[])) :=
  (setCell_any G q M m hm (by omega) a h0 h9 x w h.pm).mono fun e w' k => by
    obtain ⟨k1, G', k2, k3⟩ := k
    exact ⟨k1, G', h.mem o k2 k3⟩
theorem Trio.plot (o : Own3 i j q) (h : Trio w G i j q D R M d r m) (hm : MemOk m) (hn : m.tones.length ≤ 99999) (x y c : Int) (x0 : 0 ≤ x) (y0 : 0 ≤ y) (c0 : 0 ≤ c) (c1 : c < 65536) :
    Calls Tryz.prog 201 #[.pointer (some ⟨M, 0, none⟩), .int .u16 x, .int .u16 y, .int .u16 c] w (Left3 i j q D R M w G d r (plotF m x y c) (.tuple #[])) := by
  by_cases hb : x < 64 ∧ y < 48
  · exact (plot_in G q M m hm (by omega) x y c x0 hb.1 y0 hb.2 c0 c1 w h.pm).mono fun e w' k => by
      obtain ⟨k1, G', k2, k3⟩ := k
      exact ⟨k1, G', h.mem o k2 k3⟩
  · exact (plot_out M m x y c (by omega) w).mono fun e w' k => by
      obtain ⟨k1, rfl, k2⟩ := k
      exact ⟨k1, G, Adv.refl _ _ _, by rw [k2]; exact h⟩
theorem Trio.play (o : Own3 i j q) (h : Trio w G i j q D R M d r m) (hm : MemOk m) (hn : m.tones.length ≤ 99999) (p v : Int) (h0 : 0 ≤ p) (h9 : p < 65536) :
    Calls Tryz.prog 203 #[.pointer (some ⟨M, 0, none⟩), .int .u16 p, .int .u8 v] w (Left3 i j q D R M w G d r (playF m p v) (.tuple #[])) :=
  (play_any G q M m hm hn p v h0 h9 w h.pm).mono fun e w' k => by
    obtain ⟨k1, G', k2, k3⟩ := k
    exact ⟨k1, G', h.mem o k2 k3⟩
theorem Trio.choose (o : Own3 i j q) (h : Trio w G i j q D R M d r m) (hm : MemOk m) (hn : m.tones.length ≤ 99999) (n : Int) (h0 : 0 ≤ n) (h9 : n < 65536) :
    Calls Tryz.prog 204 #[.pointer (some ⟨M, 0, none⟩), .int .u16 n] w (Left3 i j q D R M w G d r (storeF m 65280 (n % 256)) (.tuple #[])) :=
  (choose_any G q M m hm (by omega) n h0 h9 w h.pm).mono fun e w' k => by
    obtain ⟨k1, G', k2, k3⟩ := k
    exact ⟨k1, G', h.mem o k2 k3⟩
theorem Trio.taken {t : List Int} {K : Nat} (o : Own3 i j q) (h : Trio w G i j q D R M (d ++ t) r m) (hk : Desk w G K D R (some ⟨M, 0, none⟩)) (n : Nat) (hn : t.length = n) (h0 : 0 < n) (h4 : n ≤ 100) :
    Calls Tryz.prog 179 #[.pointer (some ⟨K, 0, none⟩), .int .i64 n] w fun e w' =>
      ∃ b G', e = .returned (.slice (some ⟨b, 0, none⟩) n n) ∧ Adv (S3 i j q) w G w' G' ∧ Trio w' G' i j q D R M d r m ∧ Desk w' G' K D R (some ⟨M, 0, none⟩) ∧ Row 31 1 w' G' 0 (.slice (some ⟨b, 0, none⟩) n n) n (cellsU t) :=
  (taken_any G i D K R (some ⟨M, 0, none⟩) d t n hn h0 h4 o.i0 w h.pu hk).mono fun e w' k => by
    obtain ⟨b, G', k1, k2, k3, k4⟩ := k
    exact ⟨b, G', k1, k2.mono fun _ e => .inl e, ⟨k3, h.pr.adv k2 (Ne.symm o.ij), h.pm.adv k2 (Ne.symm o.iq)⟩, hk.adv k2 (Ne.symm o.i0), k4⟩
end
end Go.Proofs.YtdnalhjdmlkbmaaGreatDoor
