/- Push and Cells of both stacks in one form each; Stacks; The two stacks as lists of numbers: contracts in one form; wisplaw06.born, of cells of the data stack alone: the program's side; wispref04.New: the document's memory, all that is in it; The cells of a program's memory, one by one; The desk that a primitive works on: taken, and what a shuffle does; Load; Cell; Store; Store into a bank; Store at the port that plays; A range over a map with integer keys, told as lists of pairs: what is still to come; A range over a map with integer keys, inside a fence; maps.Keys of the banks, collected; slices.AppendSeq, slices.Collect over the banks' keys; slices.Sort of two bytes. -/
import Derived.Deep.RegionHeld3
import Derived.Deep.DeepCutAuto
import Derived.Maps.RangeWalk
import Derived.Sort.MapsRangeIn
import Derived.RangeFuncBox
import Derived.RangeFuncLeaves
import Derived.RangeFuncBound
import Derived.RangeFuncCalls
import Derived.RangeFuncWrites
import Derived.Shelf.Abstract
import Derived.WalkKit
import Derived.OwnWalkIn
import Derived.TacticsInMore
import Derived.LoopNIn
import Derived.LoopIn
import Derived.Maps.AppendAt
import Derived.Test.YtdnalhjdmlkbmaaGreatDoorProg
import Derived.Deep.QuietTactic
import Derived.BigQuiet
import Derived.Test.YtdnalhjdmlkbmaaGreatDoorPrimNoneU1
set_option linter.unusedVariables false
set_option linter.unusedSimpArgs false
set_option linter.unnecessarySimpa false
namespace Go.Proofs.YtdnalhjdmlkbmaaGreatDoor
open Go.RowKit

theorem pushU_ok (T : Nat) (G : Nat → Nat) (i D : Nat) (v : Value) (n : Nat) (xs : List Value) (xa : Option Addr) (m c : Nat) (news : List Value) (w : World) (hp : Pile 31 T 1 w G i D v n xs)
    (hroom : n + m ≤ 256) (hl : news.length = m) (hnews : Reads w xa news) (hone : ∀ u ∈ news, u.oneCell' = true) :
    Calls Tryz.prog 39 #[.pointer (some ⟨D, 0, none⟩), .slice xa m c] w fun e w' => e = .returned (.int .i64 0) ∧
      ∃ G' v', Adv (· = i) w G w' G' ∧ Pile 31 T 1 w' G' i D v' (n + m) (xs ++ news) := by
  obtain ⟨a, cap, rfl⟩ := hp.slice
  rcases Nat.eq_zero_or_pos m with rfl | hpos
  · obtain rfl := List.eq_nil_of_length_eq_zero hl
    refine (pushU_none D xa c w).mono ?_
    rintro e w' ⟨rfl, rfl⟩
    exact ⟨rfl, G, _, Adv.refl _ _ _, by simpa using hp⟩
  · obtain ⟨b, o, rfl, hnews, _⟩ := hnews.some (by rintro rfl; simp at hl; omega)
    exact pushU_room T G i D a n cap xs _ m c news w hp (by omega) hpos (by omega) hl (Reads.add hnews) hone
theorem pushU_no (T : Nat) (G : Nat → Nat) (i D : Nat) (v : Value) (n : Nat) (xs : List Value) (xa : Option Addr) (m c : Nat) (w : World) (hp : Pile 31 T 1 w G i D v n xs)
    (hn : n ≤ 256) (hm : m ≤ 9223372036854775807) (hfull : 256 < n + m) :
    Calls Tryz.prog 39 #[.pointer (some ⟨D, 0, none⟩), .slice xa m c] w fun e w' => e = .returned (.int .i64 2) ∧ w = w' := by
  obtain ⟨a, cap, rfl⟩ := hp.slice
  exact pushU_full D a n cap xa m c w hp.cell (by omega) hm (by omega) (by omega)
theorem pushR_ok (T : Nat) (G : Nat → Nat) (i D : Nat) (v : Value) (n : Nat) (xs : List Value) (xa : Option Addr) (m c : Nat) (news : List Value) (w : World) (hp : Pile 111 T 2 w G i D v n xs)
    (hroom : n + m ≤ 128) (hl : news.length = m * 2) (hnews : Reads w xa news) (hone : ∀ u ∈ news, u.oneCell' = true) :
    Calls Tryz.prog 41 #[.pointer (some ⟨D, 0, none⟩), .slice xa m c] w fun e w' => e = .returned (.int .i64 0) ∧
      ∃ G' v', Adv (· = i) w G w' G' ∧ Pile 111 T 2 w' G' i D v' (n + m) (xs ++ news) := by
  obtain ⟨a, cap, rfl⟩ := hp.slice
  rcases Nat.eq_zero_or_pos m with rfl | hpos
  · obtain rfl := List.eq_nil_of_length_eq_zero hl
    refine (pushR_none D xa c w).mono ?_
    rintro e w' ⟨rfl, rfl⟩
    exact ⟨rfl, G, _, Adv.refl _ _ _, by simpa using hp⟩
  · obtain ⟨b, o, rfl, hnews, _⟩ := hnews.some (by rintro rfl; simp at hl; omega)
    exact pushR_room T G i D a n cap xs _ m c news w hp (by omega) hpos (by omega) hl (Reads.add hnews) hone
theorem pushR_no (T : Nat) (G : Nat → Nat) (i D : Nat) (v : Value) (n : Nat) (xs : List Value) (xa : Option Addr) (m c : Nat) (w : World) (hp : Pile 111 T 2 w G i D v n xs)
    (hn : n ≤ 128) (hm : m ≤ 9223372036854775807) (hfull : 128 < n + m) :
    Calls Tryz.prog 41 #[.pointer (some ⟨D, 0, none⟩), .slice xa m c] w fun e w' => e = .returned (.int .i64 4) ∧ w = w' := by
  obtain ⟨a, cap, rfl⟩ := hp.slice
  exact pushR_full D a n cap xa m c w hp.cell (by omega) hm (by omega) (by omega)

set_option maxHeartbeats 400000 in
theorem stacks_noU (G : Nat → Nat) (xa : Option Addr) (m c : Nat) (rv : Value) (w : World) (hm : m ≤ 9223372036854775807) (hbig : 256 < m) :
    Calls Tryz.prog 49 #[.slice xa m c, rv] w fun e w' => e = .returned (.tuple #[.pointer none, .pointer none, .int .i64 2]) ∧ ∃ G', Adv (fun _ => False) w G w' G' := by
  go_enter Tryz.func49, Tryz.ntmps49
  go_wp2_with (go_at_call 39; refine (pushU_no 128 (own1 (w.alloc (.cells #[.slice none 0 0] 128)) (own1 w G 1) 0) 1 w.heap.size (.slice none 0 0) 0 [] xa m c _ ((Pile.made w G 31 128 1 1).alloc _ 0) (by omega) hm (by omega)).mono ?_; rintro e w' ⟨rfl, rfl⟩)
  go_ret3
  exact ⟨rfl, _, ((Adv.refl _ w G).alloc _ 0).alloc _ 0⟩
/-- Two new stacks without cells. -/
theorem two_new (w : World) : ∃ G1, Adv (fun i => i = 1 ∨ i = 2) w (fun _ => 0) ((w.alloc (.cells #[.slice none 0 0] 128)).alloc (.cells #[.slice none 0 0] 132)) G1 ∧
    Pile 31 128 1 ((w.alloc (.cells #[.slice none 0 0] 128)).alloc (.cells #[.slice none 0 0] 132)) G1 1 w.heap.size (.slice none 0 0) 0 [] ∧
    Pile 111 132 2 ((w.alloc (.cells #[.slice none 0 0] 128)).alloc (.cells #[.slice none 0 0] 132)) G1 2 (w.heap.size + 1) (.slice none 0 0) 0 [] := by
  refine ⟨_, ((Adv.refl (fun i => i = 1 ∨ i = 2) w (fun _ => 0)).alloc (.cells #[.slice none 0 0] 128) 1).alloc (.cells #[.slice none 0 0] 132) 2, (Pile.made w (fun _ => 0) 31 128 1 1).alloc (.cells #[.slice none 0 0] 132) 2, ?_⟩
  have h := Pile.made (w.alloc (.cells #[.slice none 0 0] 128)) (own1 w (fun _ => 0) 1) 111 132 2 2
  rwa [show (w.alloc (.cells #[.slice none 0 0] 128)).heap.size = w.heap.size + 1 from by simp] at h

set_option maxHeartbeats 400000 in
theorem stacks_noR (G : Nat → Nat) (xa : Option Addr) (m c : Nat) (xs : List Value) (ya : Option Addr) (k c2 : Nat) (w : World) (hm : m ≤ 256) (hl : xs.length = m) (hx : Reads w xa xs) (hone : ∀ u ∈ xs, u.oneCell' = true)
    (hk : k ≤ 9223372036854775807) (hbig : 128 < k) :
    Calls Tryz.prog 49 #[.slice xa m c, .slice ya k c2] w fun e w' => e = .returned (.tuple #[.pointer none, .pointer none, .int .i64 2]) ∧ ∃ G', Adv (fun _ => False) w G w' G' := by
  obtain ⟨G1, hA, hU, hR⟩ := two_new w
  have hx1 := hx.adv hA (fun _ _ => by omega)
  have HX := Lib.hid hx1
  have HL := Lib.hid hl
  have HA := Lib.hid hA
  have HU := Lib.hid hU
  have HR := Lib.hid hR
  clear hl hA hU hR hx1 hx
  go_enter Tryz.func49, Tryz.ntmps49
  go_wp2_with fail
  refine (pushU_ok 128 G1 1 w.heap.size (.slice none 0 0) 0 [] xa m c xs _ HU.out (by omega) HL.out HX.out hone).mono ?_
  rintro e w' ⟨rfl, G2, v1, ha, hp⟩
  have hR := HR.out.adv ha (by omega)
  have HA2 := Lib.hid (HA.out.trans (ha.mono (fun _ h => .inl h)))
  have HR2 := Lib.hid hR
  clear ha hp hR
  go_wp2_with fail
  refine (pushR_no 132 G2 2 (w.heap.size + 1) (.slice none 0 0) 0 [] ya k c2 _ HR2.out (by omega) hk (by omega)).mono ?_
  rintro e w2 ⟨rfl, rfl⟩
  go_wp2_with fail
  go_ret3
  exact ⟨rfl, named w G G2 0 0, HA2.out.relabel (fun _ _ => by omega) (fun _ hb => named_old hb)⟩

set_option maxHeartbeats 400000 in
theorem stacks_ok (G : Nat → Nat) (i j : Nat) (xa : Option Addr) (m c : Nat) (xs : List Value) (ya : Option Addr) (k c2 : Nat) (l : List (Int × Int)) (w : World) (hm : m ≤ 256) (hl : xs.length = m) (hx : Reads w xa xs) (hone : ∀ u ∈ xs, u.oneCell' = true)
    (hk : k ≤ 128) (hlk : l.length = k) (hy : Reads w ya (cellsR l)) (hgood : ∀ c ∈ l, 1 ≤ c.1 ∧ c.1 ≤ 4) :
    Calls Tryz.prog 49 #[.slice xa m c, .slice ya k c2] w fun e w' => ∃ D R G' vd vr, e = .returned (.tuple #[.pointer (some ⟨D, 0, none⟩), .pointer (some ⟨R, 0, none⟩), .int .i64 0]) ∧ Adv (fun _ => False) w G w' G' ∧
      Pile 31 128 1 w' G' i D vd m xs ∧ Pile 111 132 2 w' G' j R vr k (cellsR l) := by
  obtain ⟨G1, hA, hU, hR⟩ := two_new w
  have hx1 := hx.adv hA (fun _ _ => by omega)
  have HX := Lib.hid hx1
  have HY0 := Lib.hid hy
  have HL := Lib.hid hl
  have HLK := Lib.hid hlk
  have HA := Lib.hid hA
  have HU := Lib.hid hU
  have HR := Lib.hid hR
  have HG := Lib.hid hgood
  clear hl hA hU hR hx1 hx hy hlk hgood
  go_enter Tryz.func49, Tryz.ntmps49
  go_wp2_with fail
  refine (pushU_ok 128 G1 1 w.heap.size (.slice none 0 0) 0 [] xa m c xs _ HU.out (by omega) HL.out HX.out hone).mono ?_
  rintro e w' ⟨rfl, G2, v1, ha, hp⟩
  have hR := HR.out.adv ha (by omega)
  have HA2 := Lib.hid (HA.out.trans (ha.mono (fun _ h => .inl h)))
  have HR2 := Lib.hid hR
  have HU2 := Lib.hid hp
  have HY2 := Lib.hid (HY0.out.adv HA2.out (fun _ _ => by omega))
  clear ha hp hR
  go_wp2_with fail
  refine (pushR_ok 132 G2 2 (w.heap.size + 1) (.slice none 0 0) 0 [] ya k c2 (cellsR l) _ HR2.out (by omega) (by rw [cellsR_length, HLK.out]) HY2.out (cellsR_one l)).mono ?_
  rintro e w2 ⟨rfl, G3, v2, ha, hp⟩
  have HA3 := Lib.hid (HA2.out.trans (ha.mono (fun _ h => .inr h)))
  have HU3 := Lib.hid (HU2.out.adv ha (by omega))
  have HR3 := Lib.hid hp
  have HY3 := Lib.hid (HY0.out.adv HA3.out (fun _ _ => by omega))
  clear ha hp
  go_wp2_with fail
  go_loopw [27] (fun i wr => ∃ n : Nat, n ≤ k ∧ i = .int .i64 n ∧ ∃ Gr, Adv (fun _ => False) w2 G3 wr Gr) (fun i _ => k - (intOf i).toNat)
  case atStart => exact ⟨0, by omega, rfl, G3, Adv.refl _ _ _⟩
  case round =>
    obtain ⟨n, hn, rfl, Gr, har⟩ := hrel
    by_cases hlt : n < k
    · obtain ⟨c, hc⟩ : ∃ c, l[n]? = some c := ⟨l[n]'(by rw [HLK.out]; exact hlt), by simp⟩
      obtain ⟨b, o, hya, hc1, hc2, hb⟩ := (HY0.out.adv (HA3.out.trans (har.mono (fun _ h => h.elim))) (fun _ _ => by omega)).atR n c hc
      have hg := HG.out c (List.mem_of_getElem? hc)
      have hg1 : decide (c.1 < 1) = false := by simp; omega
      have hg2 : decide (4 < c.1) = false := by simp; omega
      clear hc hg
      rw [hya]
      have HAR := Lib.hid har
      clear har
      go_wp2
      go_roundw
      case rel => exact ⟨n + 1, by omega, by go_num, _, HAR.out.alloc _ 0⟩
      case measure => simp [intOf]; omega
    · have hnk : n = k := by omega
      have HAR := Lib.hid har
      have HN := Lib.hid hnk
      clear har hnk
      go_wp2
      go_ret3
      refine ⟨w.heap.size, w.heap.size + 1, named w G Gr i j, v1, v2, rfl, ?_⟩
      have hA := HA3.out.trans (HAR.out.mono (fun _ h => h.elim))
      have hU := HU3.out.adv HAR.out id
      have hR := HR3.out.adv HAR.out id
      simp only [Nat.zero_add, List.nil_append] at hU hR
      exact ⟨hA.relabel (fun _ _ => by omega) (fun _ hb => named_old hb), hU.relabel (named_1 hA), hR.relabel (named_2 hA)⟩

theorem first_bad : ∀ (l : List (Int × Int)), (∃ c ∈ l, ¬ (1 ≤ c.1 ∧ c.1 ≤ 4)) → ∃ (n : Nat) (c : Int × Int), l[n]? = some c ∧ ¬ (1 ≤ c.1 ∧ c.1 ≤ 4) ∧ ∀ (j : Nat) (d : Int × Int), j < n → l[j]? = some d → 1 ≤ d.1 ∧ d.1 ≤ 4
  | [], h => by obtain ⟨c, h, _⟩ := h; simp at h
  | a :: l, h => by
    by_cases ha : 1 ≤ a.1 ∧ a.1 ≤ 4
    · obtain ⟨c, hc, hb⟩ := h
      have hcl : c ∈ l := by
        rcases List.mem_cons.1 hc with rfl | h
        · exact absurd ha hb
        · exact h
      obtain ⟨n, d, h1, h2, h3⟩ := first_bad l ⟨c, hcl, hb⟩
      refine ⟨n + 1, d, (List.getElem?_cons_succ).trans h1, h2, fun j e hj he => ?_⟩
      cases j with
      | zero => simp at he; subst he; exact ha
      | succ j => exact h3 j e (by omega) (by simpa using he)
    · exact ⟨0, a, rfl, ha, fun j d hj => by omega⟩

set_option maxHeartbeats 400000 in
theorem stacks_bad (G : Nat → Nat) (xa : Option Addr) (m c : Nat) (xs : List Value) (ya : Option Addr) (k c2 : Nat) (l : List (Int × Int)) (w : World) (hm : m ≤ 256) (hl : xs.length = m) (hx : Reads w xa xs) (hone : ∀ u ∈ xs, u.oneCell' = true)
    (hk : k ≤ 128) (hlk : l.length = k) (hy : Reads w ya (cellsR l)) (hbad : ∃ c ∈ l, ¬ (1 ≤ c.1 ∧ c.1 ≤ 4)) :
    Calls Tryz.prog 49 #[.slice xa m c, .slice ya k c2] w fun e w' => e = .returned (.tuple #[.pointer none, .pointer none, .int .i64 2]) ∧ ∃ G', Adv (fun _ => False) w G w' G' := by
  obtain ⟨n0, c0, hn0, hc0, hbef⟩ := first_bad l hbad
  have hn0k : n0 < k := by rw [← hlk]; exact (List.getElem?_eq_some_iff.1 hn0).1
  obtain ⟨G1, hA, hU, hR⟩ := two_new w
  have hx1 := hx.adv hA (fun _ _ => by omega)
  have HX := Lib.hid hx1
  have HY0 := Lib.hid hy
  have HL := Lib.hid hl
  have HLK := Lib.hid hlk
  have HA := Lib.hid hA
  have HU := Lib.hid hU
  have HR := Lib.hid hR
  have HN := Lib.hid hn0
  have HC := Lib.hid hc0
  have HB := Lib.hid hbef
  clear hl hA hU hR hx1 hx hy hlk hbad hn0 hc0 hbef
  go_enter Tryz.func49, Tryz.ntmps49
  go_wp2_with fail
  refine (pushU_ok 128 G1 1 w.heap.size (.slice none 0 0) 0 [] xa m c xs _ HU.out (by omega) HL.out HX.out hone).mono ?_
  rintro e w' ⟨rfl, G2, v1, ha, hp⟩
  have hR := HR.out.adv ha (by omega)
  have HA2 := Lib.hid (HA.out.trans (ha.mono (fun _ h => .inl h)))
  have HR2 := Lib.hid hR
  have HY2 := Lib.hid (HY0.out.adv HA2.out (fun _ _ => by omega))
  clear ha hp hR
  go_wp2_with fail
  refine (pushR_ok 132 G2 2 (w.heap.size + 1) (.slice none 0 0) 0 [] ya k c2 (cellsR l) _ HR2.out (by omega) (by rw [cellsR_length, HLK.out]) HY2.out (cellsR_one l)).mono ?_
  rintro e w2 ⟨rfl, G3, v2, ha, hp⟩
  have HA3 := Lib.hid (HA2.out.trans (ha.mono (fun _ h => .inr h)))
  clear ha hp
  go_wp2_with fail
  go_loopw [27] (fun i wr => ∃ n : Nat, n ≤ n0 ∧ i = .int .i64 n ∧ ∃ Gr, Adv (fun _ => False) w2 G3 wr Gr) (fun i _ => k - (intOf i).toNat)
  case atStart => exact ⟨0, by omega, rfl, G3, Adv.refl _ _ _⟩
  case round =>
    obtain ⟨n, hn, rfl, Gr, har⟩ := hrel
    have hlt : n < k := by omega
    obtain ⟨c, hc⟩ : ∃ c, l[n]? = some c := ⟨l[n]'(by rw [HLK.out]; exact hlt), by simp⟩
    obtain ⟨b, o, hya, hc1, hc2, hb⟩ := (HY0.out.adv (HA3.out.trans (har.mono (fun _ h => h.elim))) (fun _ _ => by omega)).atR n c hc
    rw [hya]
    have HAR := Lib.hid har
    have HCC := Lib.hid hc
    clear har hc
    by_cases hnn : n < n0
    · have hg := HB.out n c hnn HCC.out
      have hg1 : decide (c.1 < 1) = false := by simp; omega
      have hg2 : decide (4 < c.1) = false := by simp; omega
      clear hg
      go_wp2
      go_roundw
      case rel => exact ⟨n + 1, by omega, by go_num, _, HAR.out.alloc _ 0⟩
      case measure => simp [intOf]; omega
    · have hcc : c = c0 := by
        have h1 := HCC.out
        have h2 := HN.out
        rw [show n = n0 from by omega, h2] at h1
        simpa using h1.symm
      have hbb := HC.out
      rw [← hcc] at hbb
      clear hcc hn hnn
      by_cases hg1 : c.1 < 1
      · have hg1' : decide (c.1 < 1) = true := by simpa using hg1
        clear hbb
        go_wp2
        go_ret3
        exact ⟨rfl, named w G (own1 wr Gr 0) 0 0, (HA3.out.trans ((HAR.out.alloc _ 0).mono (fun _ h => h.elim))).relabel (fun _ _ => by omega) (fun _ hb => named_old hb)⟩
      · have hg1' : decide (c.1 < 1) = false := by simpa using hg1
        have hg2' : decide (4 < c.1) = true := by simp; omega
        clear hbb
        go_wp2
        go_ret3
        exact ⟨rfl, named w G (own1 wr Gr 0) 0 0, (HA3.out.trans ((HAR.out.alloc _ 0).mono (fun _ h => h.elim))).relabel (fun _ _ => by omega) (fun _ hb => named_old hb)⟩
end Go.Proofs.YtdnalhjdmlkbmaaGreatDoor
namespace Go.Proofs.YtdnalhjdmlkbmaaGreatDoor
open Go.RowKit

def cellsU (l : List Int) : List Value := l.map (.int .u16)
theorem cellsU_length (l : List Int) : (cellsU l).length = l.length := List.length_map _
theorem cellsU_append (l m : List Int) : cellsU (l ++ m) = cellsU l ++ cellsU m := List.map_append
theorem cellsU_one (l : List Int) : ∀ u ∈ cellsU l, u.oneCell' = true := by
  intro u hu
  simp only [cellsU, List.mem_map] at hu
  obtain ⟨x, _, rfl⟩ := hu; rfl
theorem cellsU_at (l : List Int) (k : Nat) (x : Int) (h : l[k]? = some x) : (cellsU l)[k]? = some (.int .u16 x) := by simp [cellsU, h]
theorem Reads.atU {w : World} {a : Option Addr} {l : List Int} (h : Reads w a (cellsU l)) (k : Nat) (x : Int) (hk : l[k]? = .some x) : ∃ b o, a = .some ⟨b, o, none⟩ ∧ w.cell? ⟨b, o + k, none⟩ = .some (.int .u16 x) ∧ b < w.heap.size := by
  have h1 := cellsU_at l k x hk
  obtain ⟨b, o, rfl, h, hb⟩ := h.some (by intro e; rw [e] at h1; simp at h1)
  exact ⟨b, o, rfl, h _ _ h1, hb⟩

theorem Reads.takeU {w : World} {a : Option Addr} {l : List Int} (h : Reads w a (cellsU l)) (n : Nat) : Reads w a (cellsU (l.take n)) := by
  by_cases he : cellsU (l.take n) = []
  · exact .inl he
  · obtain ⟨b, o, rfl, hr, _⟩ := h.some (fun e => he (by simp only [cellsU, List.map_eq_nil_iff] at e ⊢; rw [e]; simp))
    refine .inr ⟨b, o, rfl, fun j u hu => hr j u ?_⟩
    simp only [cellsU, List.map_take] at hu ⊢
    rw [List.getElem?_take] at hu
    split at hu
    · exact hu
    · cases hu
theorem needF_nat (n : Int) (p q : Int) : needF n p q = needF n p.toNat q.toNat := by
  unfold needF
  rw [show max ((p.toNat : Int)) 0 = max p 0 from by omega, show max ((q.toNat : Int)) 0 = max q 0 from by omega]
theorem madeU (n : Nat) : madeCells (Value.int .u16 0).cells n = (cellsU (List.replicate n 0)).toArray := by
  apply Array.ext
  · simp [madeCells, cellsU]
  · intro i h1 h2
    simp [madeCells, cellsU, Value.cells, Nat.mod_one]
theorem run_makeU (w : World) (n : Nat) (hn : n ≤ 100000000000000) : (Instr.makeSlice 22 (.int .i64 n) (.int .i64 n)).run Tryz.prog w = .ok (.slice (some ⟨w.heap.size, 0, none⟩) n n) (w.alloc (.cells (cellsU (List.replicate n 0)).toArray 31)) := by
  obtain ⟨i0, hi, hz0, hz1, hz2⟩ := info_parts Tryz.info31
  have h := run_make (P := Tryz.prog) w 22 31 i0 (.int .u16 0) Tryz.underlying22 hi hz0 .i64 .i64 n n (by omega) (by omega) (by rw [hz2]; omega) (by omega)
  rwa [hz1, Int.toNat_natCast, Nat.mul_one, madeU] at h
/-- A data stack that holds these numbers; a return stack that holds these cells. -/
def PU (w : World) (G : Nat → Nat) (i D : Nat) (l : List Int) : Prop := ∃ v, Pile 31 128 1 w G i D v l.length (cellsU l)
def PR (w : World) (G : Nat → Nat) (i D : Nat) (l : List (Int × Int)) : Prop := ∃ v, Pile 111 132 2 w G i D v l.length (cellsR l)
theorem PU.adv {w w' : World} {G G' : Nat → Nat} {i D : Nat} {l : List Int} {S : Nat → Prop} (h : PU w G i D l) (ha : Adv S w G w' G') (hs : ¬ S i) : PU w' G' i D l := h.imp fun _ h => h.adv ha hs
theorem PR.adv {w w' : World} {G G' : Nat → Nat} {i D : Nat} {l : List (Int × Int)} {S : Nat → Prop} (h : PR w G i D l) (ha : Adv S w G w' G') (hs : ¬ S i) : PR w' G' i D l := h.imp fun _ h => h.adv ha hs
theorem PU.drewN {w : World} {G : Nat → Nat} {i D : Nat} {l : List Int} (h : PU w G i D l) (d : Nat) : PU (w.drewN d) G i D l := h.imp fun _ h => h.drewN d
theorem PR.drewN {w : World} {G : Nat → Nat} {i D : Nat} {l : List (Int × Int)} (h : PR w G i D l) (d : Nat) : PR (w.drewN d) G i D l := h.imp fun _ h => h.drewN d
theorem PU.drew {w : World} {G : Nat → Nat} {i D : Nat} {l : List Int} (h : PU w G i D l) : PU w.drew G i D l := h.drewN 1
theorem PR.drew {w : World} {G : Nat → Nat} {i D : Nat} {l : List (Int × Int)} (h : PR w G i D l) : PR w.drew G i D l := h.drewN 1
theorem PU.alloc {w : World} {G : Nat → Nat} {i D : Nat} {l : List Int} (h : PU w G i D l) (o : Obj) (k : Nat) : PU (w.alloc o) (own1 w G k) i D l := h.imp fun _ h => h.alloc o k
theorem PR.alloc {w : World} {G : Nat → Nat} {i D : Nat} {l : List (Int × Int)} (h : PR w G i D l) (o : Obj) (k : Nat) : PR (w.alloc o) (own1 w G k) i D l := h.imp fun _ h => h.alloc o k
theorem PU.lt {w : World} {G : Nat → Nat} {i D : Nat} {l : List Int} (h : PU w G i D l) : D < w.heap.size := h.elim fun _ h => h.lt
theorem PR.lt {w : World} {G : Nat → Nat} {i D : Nat} {l : List (Int × Int)} (h : PR w G i D l) : D < w.heap.size := h.elim fun _ h => h.lt

theorem needPU (G : Nat → Nat) (i D : Nat) (l : List Int) (p q : Int) (w : World) (hp : PU w G i D l) (hn : l.length ≤ 100000) (h1 : p ≤ 9223372036854775807) (h2 : q ≤ 9223372036854775807) :
    Calls Tryz.prog 77 #[.pointer (some ⟨D, 0, none⟩), .int .i64 p, .int .i64 q] w fun e w' => e = .returned (.int .i64 (needF l.length p q)) ∧ w = w' := by
  obtain ⟨v, h⟩ := hp
  obtain ⟨a, c, rfl⟩ := h.slice
  exact needU_any D a _ c p q w h.cell hn h1 h2
theorem popPU (G : Nat → Nat) (i D : Nat) (l : List Int) (x : Int) (w : World) (hp : PU w G i D (l ++ [x])) :
    Calls Tryz.prog 147 #[.pointer (some ⟨D, 0, none⟩)] w fun e w' => e = .returned (.int .u16 x) ∧ Adv (· = i) w G w' G ∧ PU w' G i D l := by
  obtain ⟨v, h⟩ := hp
  obtain ⟨a, c, rfl⟩ := h.slice
  rw [List.length_append, cellsU_append] at h
  exact (popU_some 128 G i D a l.length c (cellsU l) x w h).mono fun e w' h => ⟨h.1, h.2.1, _, h.2.2⟩
theorem popPU_nil (G : Nat → Nat) (i D : Nat) (w : World) (hp : PU w G i D []) : Calls Tryz.prog 147 #[.pointer (some ⟨D, 0, none⟩)] w fun e w' => e = .returned (.int .u16 0) ∧ w = w' := by
  obtain ⟨v, h⟩ := hp
  obtain ⟨a, c, rfl⟩ := h.slice
  exact popU_none D a c w h.cell
theorem pushPU (G : Nat → Nat) (i D : Nat) (l m : List Int) (xa : Option Addr) (n c : Nat) (w : World) (hp : PU w G i D l) (hn : m.length = n) (hroom : l.length + n ≤ 256) (hr : Reads w xa (cellsU m)) :
    Calls Tryz.prog 39 #[.pointer (some ⟨D, 0, none⟩), .slice xa n c] w fun e w' => e = .returned (.int .i64 0) ∧ ∃ G', Adv (· = i) w G w' G' ∧ PU w' G' i D (l ++ m) := by
  obtain ⟨v, h⟩ := hp
  refine (pushU_ok 128 G i D v l.length (cellsU l) xa n c (cellsU m) w h hroom (by rw [cellsU_length, hn]) hr (cellsU_one m)).mono fun e w' h => ?_
  obtain ⟨h1, G', v', h2, h3⟩ := h
  exact ⟨h1, G', h2, v', by rw [List.length_append, cellsU_append, hn]; exact h3⟩
theorem pushPU_no (G : Nat → Nat) (i D : Nat) (l : List Int) (xa : Option Addr) (n c : Nat) (w : World) (hp : PU w G i D l) (hl : l.length ≤ 256) (hn : n ≤ 9223372036854775807) (hfull : 256 < l.length + n) :
    Calls Tryz.prog 39 #[.pointer (some ⟨D, 0, none⟩), .slice xa n c] w fun e w' => e = .returned (.int .i64 2) ∧ w = w' := by
  obtain ⟨v, h⟩ := hp
  exact pushU_no 128 G i D v l.length (cellsU l) xa n c w h hl hn hfull
/-- Cells: of no cells nil; else new memory. -/
theorem cellsPU_nil (G : Nat → Nat) (i D : Nat) (w : World) (hp : PU w G i D []) : Calls Tryz.prog 30 #[.pointer (some ⟨D, 0, none⟩)] w fun e w' => e = .returned (.slice none 0 0) ∧ w = w' := by
  obtain ⟨v, h⟩ := hp
  obtain ⟨a, c, rfl⟩ := h.slice
  exact cellsU_none D a c w h.cell
theorem cellsPU (G : Nat → Nat) (i D : Nat) (l : List Int) (w : World) (hp : PU w G i D l) (h0 : l ≠ []) (h1 : l.length ≤ 1000) :
    Calls Tryz.prog 30 #[.pointer (some ⟨D, 0, none⟩)] w fun e w' => e = .returned (.slice (some ⟨w.heap.size, 0, none⟩) l.length l.length) ∧ w' = w.alloc (.cells (cellsU l).toArray 31) := by
  obtain ⟨v, h⟩ := hp
  obtain ⟨a, c, rfl⟩ := h.slice
  obtain ⟨b, o, rfl, hr, hb⟩ := h.reads.1.some (by intro e; exact h0 (by simpa [cellsU] using e))
  exact cellsU_some D _ l.length c (cellsU l) w (List.length_pos_iff.2 h0) h1 (cellsU_length l) (cellsU_one l) h.cell (Reads.add hr) hb

theorem lenPR (G : Nat → Nat) (i D : Nat) (l : List (Int × Int)) (w : World) (hp : PR w G i D l) : Calls Tryz.prog 79 #[.pointer (some ⟨D, 0, none⟩)] w fun e w' => e = .returned (.int .i64 l.length) ∧ w = w' := by
  obtain ⟨v, h⟩ := hp
  obtain ⟨a, c, rfl⟩ := h.slice
  exact lenR_any D a _ c w h.cell
theorem atPR (G : Nat → Nat) (i D : Nat) (l : List (Int × Int)) (n kind : Int) (w : World) (hp : PR w G i D l) (hm : l.length ≤ 100000) :
    Calls Tryz.prog 125 #[.pointer (some ⟨D, 0, none⟩), .int .i64 n, .int .i64 kind] w fun e w' => e = .returned (.tuple #[.int .u16 (atV l n kind), .int .i64 (atE l n kind)]) ∧ ∃ d, w' = w.drewN d := by
  obtain ⟨v, h⟩ := hp
  obtain ⟨a, c, rfl⟩ := h.slice
  exact atR_any 132 G i D a l.length c l n kind w h hm
theorem popPR_not (G : Nat → Nat) (i D : Nat) (l : List (Int × Int)) (kind : Int) (w : World) (hp : PR w G i D l) (hm : l.length ≤ 100000) (hne : (atE l 0 kind == 0) = false) :
    Calls Tryz.prog 149 #[.pointer (some ⟨D, 0, none⟩), .int .i64 kind] w fun e w' => e = .returned (.tuple #[.int .u16 (atV l 0 kind), .int .i64 (atE l 0 kind)]) ∧ ∃ d, w' = w.drewN d := by
  obtain ⟨v, h⟩ := hp
  obtain ⟨a, c, rfl⟩ := h.slice
  exact popR_not 132 G i D a l.length c l kind w h hm hne
theorem popPR (G : Nat → Nat) (i D : Nat) (l : List (Int × Int)) (c : Int × Int) (w : World) (hp : PR w G i D (l ++ [c])) (hm : l.length < 100000) :
    Calls Tryz.prog 149 #[.pointer (some ⟨D, 0, none⟩), .int .i64 c.1] w fun e w' => e = .returned (.tuple #[.int .u16 c.2, .int .i64 0]) ∧ ∃ G', Adv (· = i) w G w' G' ∧ PR w' G' i D l := by
  obtain ⟨v, h⟩ := hp
  obtain ⟨a, cap, rfl⟩ := h.slice
  rw [List.length_append] at h
  refine (popR_is 132 G i D a l.length cap l c w rfl h hm).mono fun e w' h => ?_
  obtain ⟨h1, G', h2, h3⟩ := h
  exact ⟨h1, G', h2, _, h3⟩
theorem setPR_nil (G : Nat → Nat) (i D : Nat) (x : Int) (w : World) (hp : PR w G i D []) : Calls Tryz.prog 169 #[.pointer (some ⟨D, 0, none⟩), .int .u16 x] w fun e w' => e = .returned (.tuple #[]) ∧ w = w' := by
  obtain ⟨v, h⟩ := hp
  obtain ⟨a, c, rfl⟩ := h.slice
  exact setR_none D a c x w h.cell
theorem setPR (G : Nat → Nat) (i D : Nat) (l : List (Int × Int)) (c : Int × Int) (x : Int) (w : World) (hp : PR w G i D (l ++ [c])) (hm : l.length < 100000) :
    Calls Tryz.prog 169 #[.pointer (some ⟨D, 0, none⟩), .int .u16 x] w fun e w' => e = .returned (.tuple #[]) ∧ Adv (· = i) w G w' G ∧ PR w' G i D (l ++ [(c.1, x)]) := by
  obtain ⟨v, h⟩ := hp
  obtain ⟨a, cap, rfl⟩ := h.slice
  rw [List.length_append] at h
  refine (setR_some 132 G i D a l.length cap l c x rfl hm w h).mono fun e w' h => ⟨h.1, h.2.1, _, by rw [List.length_append]; exact h.2.2⟩
theorem pushPR (G : Nat → Nat) (i D : Nat) (l m : List (Int × Int)) (xa : Option Addr) (n c : Nat) (w : World) (hp : PR w G i D l) (hn : m.length = n) (hroom : l.length + n ≤ 128) (hr : Reads w xa (cellsR m)) :
    Calls Tryz.prog 41 #[.pointer (some ⟨D, 0, none⟩), .slice xa n c] w fun e w' => e = .returned (.int .i64 0) ∧ ∃ G', Adv (· = i) w G w' G' ∧ PR w' G' i D (l ++ m) := by
  obtain ⟨v, h⟩ := hp
  refine (pushR_ok 132 G i D v l.length (cellsR l) xa n c (cellsR m) w h hroom (by rw [cellsR_length, hn]) hr (cellsR_one m)).mono fun e w' h => ?_
  obtain ⟨h1, G', v', h2, h3⟩ := h
  exact ⟨h1, G', h2, v', by rw [List.length_append, cellsR_append, hn]; exact h3⟩
theorem pushPR_no (G : Nat → Nat) (i D : Nat) (l : List (Int × Int)) (xa : Option Addr) (n c : Nat) (w : World) (hp : PR w G i D l) (hl : l.length ≤ 128) (hn : n ≤ 9223372036854775807) (hfull : 128 < l.length + n) :
    Calls Tryz.prog 41 #[.pointer (some ⟨D, 0, none⟩), .slice xa n c] w fun e w' => e = .returned (.int .i64 4) ∧ w = w' := by
  obtain ⟨v, h⟩ := hp
  exact pushR_no 132 G i D v l.length (cellsR l) xa n c w h hl hn hfull
theorem cellsPR_nil (G : Nat → Nat) (i D : Nat) (w : World) (hp : PR w G i D []) : Calls Tryz.prog 31 #[.pointer (some ⟨D, 0, none⟩)] w fun e w' => e = .returned (.slice none 0 0) ∧ w = w' := by
  obtain ⟨v, h⟩ := hp
  obtain ⟨a, c, rfl⟩ := h.slice
  exact cellsOR_none D a c w h.cell
theorem cellsPR (G : Nat → Nat) (i D : Nat) (l : List (Int × Int)) (w : World) (hp : PR w G i D l) (h0 : l ≠ []) (h1 : l.length ≤ 1000) :
    Calls Tryz.prog 31 #[.pointer (some ⟨D, 0, none⟩)] w fun e w' => e = .returned (.slice (some ⟨w.heap.size, 0, none⟩) l.length l.length) ∧ w' = w.alloc (.cells (cellsR l).toArray 111) := by
  obtain ⟨v, h⟩ := hp
  obtain ⟨a, c, rfl⟩ := h.slice
  obtain ⟨b, o, rfl, hr, hb⟩ := h.reads.1.some (by intro e; have := congrArg List.length e; rw [cellsR_length] at this; exact h0 (List.eq_nil_of_length_eq_zero (by simp only [List.length_nil] at this; omega)))
  exact cellsOR_some D _ l.length c (cellsR l) w (List.length_pos_iff.2 h0) h1 (cellsR_length l) (cellsR_one l) h.cell (Reads.add hr) hb

/-- Stacks. -/
theorem stacksP (G : Nat → Nat) (i j : Nat) (xa : Option Addr) (m c : Nat) (xs : List Int) (ya : Option Addr) (k c2 : Nat) (l : List (Int × Int)) (w : World) (hl : xs.length = m) (hm : m ≤ 256) (hx : Reads w xa (cellsU xs))
    (hlk : l.length = k) (hk : k ≤ 128) (hy : Reads w ya (cellsR l)) (hgood : ∀ c ∈ l, 1 ≤ c.1 ∧ c.1 ≤ 4) :
    Calls Tryz.prog 49 #[.slice xa m c, .slice ya k c2] w fun e w' => ∃ D R G', e = .returned (.tuple #[.pointer (some ⟨D, 0, none⟩), .pointer (some ⟨R, 0, none⟩), .int .i64 0]) ∧ Adv (fun _ => False) w G w' G' ∧ PU w' G' i D xs ∧ PR w' G' j R l := by
  refine (stacks_ok G i j xa m c (cellsU xs) ya k c2 l w hm (by rw [cellsU_length, hl]) hx (cellsU_one xs) hk hlk hy hgood).mono ?_
  rintro e w' ⟨D, R, G', vd, vr, rfl, ha, hD, hR⟩
  exact ⟨D, R, G', rfl, ha, ⟨vd, by rw [hl]; exact hD⟩, vr, by rw [hlk]; exact hR⟩
theorem stacksP_no (G : Nat → Nat) (xa : Option Addr) (m c : Nat) (xs : List Int) (ya : Option Addr) (k c2 : Nat) (l : List (Int × Int)) (w : World) (hl : xs.length = m) (hm : m ≤ 9223372036854775807) (hx : Reads w xa (cellsU xs))
    (hlk : l.length = k) (hk : k ≤ 9223372036854775807) (hy : Reads w ya (cellsR l)) (hno : 256 < m ∨ 128 < k ∨ ∃ c ∈ l, ¬ (1 ≤ c.1 ∧ c.1 ≤ 4)) :
    Calls Tryz.prog 49 #[.slice xa m c, .slice ya k c2] w fun e w' => e = .returned (.tuple #[.pointer none, .pointer none, .int .i64 2]) ∧ ∃ G', Adv (fun _ => False) w G w' G' := by
  by_cases h1 : 256 < m
  · exact stacks_noU G xa m c _ w hm h1
  · by_cases h2 : 128 < k
    · exact stacks_noR G xa m c (cellsU xs) ya k c2 w (by omega) (by rw [cellsU_length, hl]) hx (cellsU_one xs) hk h2
    · rcases hno with h | h | h
      · exact absurd h h1
      · exact absurd h h2
      · exact stacks_bad G xa m c (cellsU xs) ya k c2 l w (by omega) (by rw [cellsU_length, hl]) hx (cellsU_one xs) (by omega) hlk hy h
end Go.Proofs.YtdnalhjdmlkbmaaGreatDoor
namespace Go.Proofs.YtdnalhjdmlkbmaaGreatDoor
open Go.RowKit
set_option linter.unusedVariables false

/-- Old blocks are whose they were, new ones whose they are. -/
def joined (w : World) (G Gx : Nat → Nat) : Nat → Nat := fun b => if b < w.heap.size then G b else Gx b
theorem joined_old {w : World} {G Gx : Nat → Nat} {b : Nat} (h : b < w.heap.size) : joined w G Gx b = G b := if_pos h
theorem joined_new {S : Nat → Prop} {w w' : World} {G Gx : Nat → Nat} {i : Nat} (h : Adv S w (fun _ => 0) w' Gx) (hi : i ≠ 0) : ∀ b, b < w'.heap.size → Gx b = i → joined w G Gx b = i := by
  intro b _ h1
  unfold joined
  rw [if_neg (fun hb => hi (by rw [← h1, h.own b hb])), h1]
theorem joined_adv {S : Nat → Prop} {w w' : World} {G Gx : Nat → Nat} (h : Adv S w (fun _ => 0) w' Gx) (h0 : ¬ S 0) : Adv (fun _ => False) w G w' (joined w G Gx) :=
  h.relabel (fun _ _ => h0) (fun _ hb => joined_old hb)
theorem PU.relabel {w : World} {G H : Nat → Nat} {i i' D : Nat} {l : List Int} (h : PU w G i D l) (hH : ∀ b, b < w.heap.size → G b = i → H b = i') : PU w H i' D l := h.imp fun _ h => h.relabel hH
theorem PR.relabel {w : World} {G H : Nat → Nat} {i i' D : Nat} {l : List (Int × Int)} (h : PR w G i D l) (hH : ∀ b, b < w.heap.size → G b = i → H b = i') : PR w H i' D l := h.imp fun _ h => h.relabel hH
theorem PMx.relabel {w : World} {G H : Nat → Nat} {i i' D B : Nat} {bs : List Nat} {tv : Value} {M : MemS} (h : PMx w G i D B bs tv M) (hH : ∀ b, b < w.heap.size → G b = i → H b = i') : PMx w H i' D B bs tv M :=
  ⟨h.head, hH _ h.lt h.hown, h.map, hH _ h.map.lt h.mown, h.blen, fun k p b hp hb => by
    obtain ⟨⟨C, h1, h2⟩, h3⟩ := h.bank k p b hp hb
    exact ⟨⟨C, h1, h2⟩, hH b (Array.getElem?_eq_some_iff.1 h1).1 h3⟩, ⟨h.tones.row, fun b e => hH b (h.tones.row.lt b e).2 (h.tones.own b e)⟩, h.nodup, h.ne, h.net, h.neb⟩
theorem PM.relabel {w : World} {G H : Nat → Nat} {i i' D : Nat} {M : MemS} (h : PM w G i D M) (hH : ∀ b, b < w.heap.size → G b = i → H b = i') : PM w H i' D M := by
  obtain ⟨B, bs, tv, h⟩ := h
  exact ⟨B, bs, tv, h.relabel hH⟩

def banks2 : List (Int × List Int) := [(0, [1, 2, 3]), (9, [4])]
def banksW (w : World) : World := ((w.alloc (.cells #[.int .u8 1, .int .u8 2, .int .u8 3] 5)).alloc (.cells #[.int .u8 4] 5)).alloc (.cells #[.int .i64 0, .slice (some ⟨w.heap.size, 0, none⟩) 3 3, .int .i64 9, .slice (some ⟨w.heap.size + 1, 0, none⟩) 1 1] 47)
theorem bankIn2 (w : World) (G : Nat → Nat) : ∀ (w' : World) (G' : Nat → Nat), Adv (fun _ => False) (banksW w) G w' G' → BankIn w' (some ⟨w.heap.size + 2, 0, none⟩) banks2 := by
  intro w' G' ha k p hp
  have h3 : (banksW w).heap[w.heap.size + 2]? = some (.cells #[.int .i64 0, .slice (some ⟨w.heap.size, 0, none⟩) 3 3, .int .i64 9, .slice (some ⟨w.heap.size + 1, 0, none⟩) 1 1] 47 (0, 0)) := heap_at _ _ _ (by simp)
  have r1 : Reads (banksW w) (some ⟨w.heap.size, 0, none⟩) (u8s [1, 2, 3]) := ((Reads.new w [.int .u8 1, .int .u8 2, .int .u8 3] 5).alloc _).alloc _
  have r2 : Reads (banksW w) (some ⟨w.heap.size + 1, 0, none⟩) (u8s [4]) := by
    have := (Reads.new (w.alloc (.cells #[.int .u8 1, .int .u8 2, .int .u8 3] 5)) [.int .u8 4] 5).alloc (.cells #[.int .i64 0, .slice (some ⟨w.heap.size, 0, none⟩) 3 3, .int .i64 9, .slice (some ⟨w.heap.size + 1, 0, none⟩) 1 1] 47)
    rw [show (w.alloc (.cells #[.int .u8 1, .int .u8 2, .int .u8 3] 5)).heap.size = w.heap.size + 1 from by simp] at this
    exact this
  match k, hp with
  | 0, hp =>
    cases hp
    exact ⟨_, 0, _, 3, rfl, ha.cell_some (block_cell h3 0 _ rfl) id, ha.cell_some (block_cell h3 1 _ rfl) id, r1.adv ha (fun _ _ => id)⟩
  | 1, hp =>
    cases hp
    exact ⟨_, 0, _, 1, rfl, ha.cell_some (block_cell h3 2 _ rfl) id, ha.cell_some (block_cell h3 3 _ rfl) id, r2.adv ha (fun _ _ => id)⟩
  | k + 2, hp => simp [banks2] at hp

/-- The six pointers of a world. -/
def Wld (w : World) (G : Nat → Nat) (K D R M : Nat) : Prop :=
  ∃ x y z, w.heap[K]? = some (.cells #[.pointer (some ⟨D, 0, none⟩), .pointer (some ⟨R, 0, none⟩), .pointer (some ⟨M, 0, none⟩), x, y, z] 82 (0, 0)) ∧ G K = 0

set_option maxRecDepth 100000 in
set_option maxHeartbeats 1000000 in
theorem born0 (G : Nat → Nat) (xa : Option Addr) (m c : Nat) (l : List Int) (w : World) (hl : l.length = m) (hm : m ≤ 256) (hr : Reads w xa (cellsU l)) (hcap : m ≤ c) (_hc2 : c ≤ 100000000000000) :
    Calls Tryz.prog 9 #[.slice xa m c, .slice none 0 0] w fun e w' => ∃ K D R M G', e = .returned (.pointer (some ⟨K, 0, none⟩)) ∧ Adv (fun _ => False) w G w' G' ∧ Wld w' G' K D R M ∧ PU w' G' 1 D l ∧ PR w' G' 2 R [] ∧ PM w' G' 3 M (newM banks2) := by
  obtain ⟨i0, hi, hz0, hz1, hz2⟩ := info_parts Tryz.info31
  obtain ⟨j0, hj, hy0, hy1, hy2⟩ := info_parts Tryz.info111
  have HL := Lib.hid hl
  have HX := Lib.hid (hr.alloc (.cells #[] 31))
  have HA0 := Lib.hid ((Adv.refl (fun b => b = 9) w (fun _ => 0)).alloc (.cells #[] 31) 9)
  have HR0 := Lib.hid (Row.new w (fun _ => 0) 31 1 9 0 [] (Nat.zero_le _) rfl)
  have hmin : min (m : Int) 256 = m := by omega
  clear hl hr
  go_enter Tryz.func9, Tryz.ntmps9
  go_wp2_with (first
    | (at_builtin; refine wpList_append_reads rfl (.tmp 14) (.tmp 19) 22 rfl 31 i0 (.int .u16 0) 1 2 Tryz.underlying22 hi hz0 hz1 hz2 rfl (by decide) _ 9 (some ⟨w.heap.size, 0, none⟩) 0 0 [] rfl HR0.out xa m c (cellsU l) rfl (by rw [cellsU_length, HL.out, Nat.mul_one]) HX.out (cellsU_one l) (by unfold maxLen; omega) (by omega) ?_; intro va1 vc1 w1 G1 h1 h2; rw [Nat.zero_add, List.nil_append] at h1; rw [Nat.zero_add]; have HR1 := Lib.hid h1; have HA1 := Lib.hid (HA0.out.trans h2); clear h1 h2))
  obtain ⟨wa, hwa⟩ : ∃ wa, wa = w1.alloc (.cells #[] 111) := ⟨_, rfl⟩
  have hA2 := HA1.out.alloc (.cells #[] 111) 9
  have hRd := HR1.out.adv (S := fun _ => False) ((Adv.refl (fun _ => False) w1 G1).alloc (.cells #[] 111) 9) id
  rw [← hwa] at hA2 hRd ⊢
  obtain ⟨Ga, hGa⟩ : ∃ Ga, Ga = own1 w1 G1 9 := ⟨_, rfl⟩
  rw [← hGa] at hA2 hRd
  have HA2 := Lib.hid hA2
  have HRd := Lib.hid hRd
  clear hA2 hRd hGa
  have hsz : w1.heap.size < wa.heap.size := by rw [hwa]; simp
  clear hwa
  have HA3 := Lib.hid (HA2.out.alloc (.cells #[] 31) 9)
  have HRe := Lib.hid (HRd.out.adv (S := fun _ => False) ((Adv.refl (fun _ => False) wa Ga).alloc (.cells #[] 31) 9) id)
  have HR3 := Lib.hid (Row.new wa Ga 31 1 9 0 [] (Nat.zero_le _) rfl)
  go_loop [5] (fun v => v = .int .i64 0) (fun _ => 0)
  case atStart => rfl
  case round =>
    obtain rfl := hrel
    go_wp2_with (first
      | (at_builtin; refine wpList_append_reads rfl (.tmp 48) (.tmp 49) 22 rfl 31 i0 (.int .u16 0) 1 2 Tryz.underlying22 hi hz0 hz1 hz2 rfl (by decide) _ 9 (some ⟨wa.heap.size, 0, none⟩) 0 0 [] rfl HR3.out va1 m vc1 (cellsU l) rfl (by rw [cellsU_length, HL.out, Nat.mul_one]) HRe.out.reads (cellsU_one l) (by unfold maxLen; omega) (by omega) ?_; intro va2 vc2 w2 G2 h1 h2; rw [Nat.zero_add, List.nil_append] at h1; rw [Nat.zero_add]; have HR4 := Lib.hid h1; have HA4 := Lib.hid (HA3.out.trans h2); clear h1 h2))
    have HA5 := Lib.hid (HA4.out.alloc (.cells #[] 111) 9)
    refine (stacksP (own1 w2 G2 9) 1 2 va2 m vc2 l _ 0 0 [] _ HL.out hm (HR4.out.reads.alloc _) rfl (by omega) (.inl rfl) (fun _ h => by cases h)).mono ?_
    rintro e w3 ⟨D, R, G3, rfl, ha3, hp3, hr3⟩
    have hb1 := ((Adv.refl (fun _ => False) w3 G3).alloc (.cells #[.int .u8 1, .int .u8 2, .int .u8 3] 5) 9).alloc (.cells #[.int .u8 4] 5) 9
    have hb2 := hb1.alloc (.cells #[.int .i64 0, .slice (some ⟨w3.heap.size, 0, none⟩) 3 3, .int .i64 9, .slice (some ⟨w3.heap.size + 1, 0, none⟩) 1 1] 47) 9
    obtain ⟨G4, hG4⟩ : ∃ G4, G4 = own1 ((w3.alloc (.cells #[.int .u8 1, .int .u8 2, .int .u8 3] 5)).alloc (.cells #[.int .u8 4] 5)) (own1 (w3.alloc (.cells #[.int .u8 1, .int .u8 2, .int .u8 3] 5)) (own1 w3 G3 9) 9) 9 := ⟨_, rfl⟩
    rw [← hG4] at hb2
    have HB2 := Lib.hid hb2
    have HA6 := Lib.hid ((HA5.out.trans (ha3.mono (T := fun b => b = 9) (fun _ h => h.elim))).trans (hb2.mono (T := fun b => b = 9) (fun _ h => h.elim)))
    have HP6 := Lib.hid (hp3.adv hb2 id)
    have HR6 := Lib.hid (hr3.adv hb2 id)
    clear ha3 hp3 hr3 hb1 hb2 hG4
    go_wp2_with fail
    refine (new_ok G4 3 (by omega) _ 2 2 banks2 rfl (by omega) (by decide) _ (bankIn2 w3 G4)).mono ?_
    rintro e w5 ⟨M, G5, rfl, ha5, hm5⟩
    have HA7 := Lib.hid (HA6.out.trans (ha5.mono (T := fun b => b = 9) (fun _ h => h.elim)))
    have HP7 := Lib.hid (HP6.out.adv ha5 id)
    have HR7 := Lib.hid (HR6.out.adv ha5 id)
    have HM7 := Lib.hid hm5
    have HI7 := Lib.hid (fun (w' : World) (G' : Nat → Nat) (h : Adv (fun _ => False) w5 G5 w' G') => bankIn2 w3 G4 w' G' (ha5.trans h))
    clear ha5 hm5
    go_wp2_with fail
    refine (refNew_any G5 _ 2 2 banks2 rfl (by omega) (by decide) _ HI7.out).mono ?_
    rintro e w6 ⟨Z, G6, rfl, ha6⟩
    have HA8 := Lib.hid (HA7.out.trans (ha6.mono (T := fun b => b = 9) (fun _ h => h.elim)))
    have HP8 := Lib.hid (HP7.out.adv ha6 id)
    have HR8 := Lib.hid (HR7.out.adv ha6 id)
    have HM8 := Lib.hid (HM7.out.adv ha6 id)
    clear ha6
    go_wp2_with fail
    go_ret
    have hx := (((HA8.out.alloc (.cells #[.slice va1 m vc1] 119) 9).alloc (.cells #[.slice (some ⟨w1.heap.size, 0, none⟩) 0 0] 121) 9).alloc (.cells #[.pointer (some ⟨D, 0, none⟩), .pointer (some ⟨R, 0, none⟩), .pointer (some ⟨M, 0, none⟩), .pointer (some ⟨w6.heap.size, 0, none⟩), .pointer (some ⟨w6.heap.size + 1, 0, none⟩), .pointer (some ⟨Z, 0, none⟩)] 82) 0)
    have hf := (((Adv.refl (fun _ => False) w6 G6).alloc (.cells #[.slice va1 m vc1] 119) 9).alloc (.cells #[.slice (some ⟨w1.heap.size, 0, none⟩) 0 0] 121) 9).alloc (.cells #[.pointer (some ⟨D, 0, none⟩), .pointer (some ⟨R, 0, none⟩), .pointer (some ⟨M, 0, none⟩), .pointer (some ⟨w6.heap.size, 0, none⟩), .pointer (some ⟨w6.heap.size + 1, 0, none⟩), .pointer (some ⟨Z, 0, none⟩)] 82) 0
    refine ⟨w6.heap.size + 1 + 1, D, R, M, _, rfl, joined_adv hx (by omega), ⟨_, _, _, heap_at _ _ _ (by simp), ?_⟩, (HP8.out.adv hf id).relabel (joined_new hx (by omega)), (HR8.out.adv hf id).relabel (joined_new hx (by omega)), (HM8.out.adv hf id).relabel (joined_new hx (by omega))⟩
    have hs := HA8.out.size
    unfold joined
    rw [if_neg (by omega)]
    simp [own1]
end Go.Proofs.YtdnalhjdmlkbmaaGreatDoor
namespace Go.Proofs.YtdnalhjdmlkbmaaGreatDoor
open Go.RowKit
set_option linter.unusedVariables false

def bankC (l : List (Int × List Int)) (bs : List Nat) : List Value := (List.zipWith (fun p b => [Value.int .i64 p.1, .slice (some ⟨b, 0, none⟩) 16384 16384]) l bs).flatten
theorem bankC_snoc {l : List (Int × List Int)} {bs : List Nat} (h : bs.length = l.length) (p : Int × List Int) (b : Nat) : bankC (l ++ [p]) (bs ++ [b]) = bankC l bs ++ [.int .i64 p.1, .slice (some ⟨b, 0, none⟩) 16384 16384] := by
  unfold bankC
  rw [List.zipWith_append (by omega)]
  simp
/-- Block D is the document's memory m: owners d (the block), d+1 (the list of banks), d+2 (bytes), d+3 (tones). -/
structure RMx (w : World) (G : Nat → Nat) (d D ra sa : Nat) (bs : List Nat) (bv tv : Value) (m : MemS) : Prop where
  head : w.heap[D]? = some (.cells #[bv, .slice (some ⟨ra, 0, none⟩) 16384 16384, .slice (some ⟨sa, 0, none⟩) 3072 3072, .int .u8 m.chosen, .int .u8 m.pad, .int .u16 m.pitch, .int .u8 m.volume, .int .u16 m.time, .int .i64 m.cycle, tv] 74 (0, 0))
  hown : G D = d
  row : Row 47 2 w G (d + 1) bv m.banks.length (bankC m.banks bs)
  blen : bs.length = m.banks.length
  ram : Row 5 1 w G (d + 2) (.slice (some ⟨ra, 0, none⟩) 16384 16384) 16384 (u8s m.ram)
  scr : Row 5 1 w G (d + 2) (.slice (some ⟨sa, 0, none⟩) 3072 3072) 3072 (u8s m.screen)
  bank : ∀ (k : Nat) (p : Int × List Int) (b : Nat), m.banks[k]? = some p → bs[k]? = some b → Row 5 1 w G (d + 2) (.slice (some ⟨b, 0, none⟩) 16384 16384) 16384 (u8s p.2)
  tones : Row 152 3 w G (d + 3) tv m.tones.length (tonesC m.tones)
  nodup : (ra :: sa :: bs).Nodup
def RM (w : World) (G : Nat → Nat) (d D : Nat) (m : MemS) : Prop := ∃ ra sa bs bv tv, RMx w G d D ra sa bs bv tv m
section
variable {w w' : World} {G G' H : Nat → Nat} {d D ra sa : Nat} {bs : List Nat} {bv tv : Value} {m : MemS} {S : Nat → Prop}
theorem RMx.lt (h : RMx w G d D ra sa bs bv tv m) : D < w.heap.size := (Array.getElem?_eq_some_iff.1 h.head).1
theorem RMx.adv (h : RMx w G d D ra sa bs bv tv m) (ha : Adv S w G w' G') (hs : ∀ k, k < 4 → ¬ S (d + k)) : RMx w' G' d D ra sa bs bv tv m :=
  ⟨(ha.keep D h.lt (by rw [h.hown]; exact hs 0 (by omega))).trans h.head, (ha.own D h.lt).trans h.hown, h.row.adv ha (hs 1 (by omega)), h.blen, h.ram.adv ha (hs 2 (by omega)), h.scr.adv ha (hs 2 (by omega)),
    fun k p b hp hb => (h.bank k p b hp hb).adv ha (hs 2 (by omega)), h.tones.adv ha (hs 3 (by omega)), h.nodup⟩
theorem RM.adv (h : RM w G d D m) (ha : Adv S w G w' G') (hs : ∀ k, k < 4 → ¬ S (d + k)) : RM w' G' d D m := by
  obtain ⟨ra, sa, bs, bv, tv, h⟩ := h
  exact ⟨ra, sa, bs, bv, tv, h.adv ha hs⟩
theorem Row.relabel {e size i j n : Nat} {v : Value} {xs : List Value} (h : Row e size w G i v n xs) (hH : ∀ b, b < w.heap.size → G b = i → H b = j) : Row e size w H j v n xs :=
  ⟨h.row, fun b e => hH b (h.row.lt b e).2 (h.own b e)⟩
theorem RMx.relabel (h : RMx w G d D ra sa bs bv tv m) (hH : ∀ k, k < 4 → ∀ b, b < w.heap.size → G b = d + k → H b = d + k) : RMx w H d D ra sa bs bv tv m :=
  ⟨h.head, hH 0 (by omega) D h.lt h.hown, h.row.relabel (hH 1 (by omega)), h.blen, h.ram.relabel (hH 2 (by omega)), h.scr.relabel (hH 2 (by omega)), fun k p b hp hb => (h.bank k p b hp hb).relabel (hH 2 (by omega)), h.tones.relabel (hH 3 (by omega)), h.nodup⟩
theorem RM.relabel (h : RM w G d D m) (hH : ∀ k, k < 4 → ∀ b, b < w.heap.size → G b = d + k → H b = d + k) : RM w H d D m := by
  obtain ⟨ra, sa, bs, bv, tv, h⟩ := h
  exact ⟨ra, sa, bs, bv, tv, h.relabel hH⟩
theorem RMx.olds (h : RMx w G d D ra sa bs bv tv m) : ∀ b ∈ ra :: sa :: bs, b < w.heap.size := by
  intro b hb
  rcases List.mem_cons.1 hb with rfl | hb
  · exact (h.ram.at (by omega)).1
  rcases List.mem_cons.1 hb with rfl | hb
  · exact (h.scr.at (by omega)).1
  obtain ⟨k, hk⟩ := List.getElem?_of_mem hb
  have hkl : k < bs.length := (List.getElem?_eq_some_iff.1 hk).1
  exact ((h.bank k _ b (List.getElem?_eq_getElem (by rw [← h.blen]; exact hkl)) hk).at (by omega)).1
end
theorem RMx.made {w : World} {G : Nat → Nat} {d D ra sa : Nat} (hh : w.heap[D]? = some (.cells #[.slice none 0 0, .slice (some ⟨ra, 0, none⟩) 16384 16384, .slice (some ⟨sa, 0, none⟩) 3072 3072, .int .u8 0, .int .u8 0, .int .u16 0, .int .u8 0, .int .u16 0, .int .i64 0, .slice none 0 0] 74 (0, 0))) (hG : G D = d)
    (h1 : Row 5 1 w G (d + 2) (.slice (some ⟨ra, 0, none⟩) 16384 16384) 16384 (u8s (List.replicate 16384 0))) (h2 : Row 5 1 w G (d + 2) (.slice (some ⟨sa, 0, none⟩) 3072 3072) 3072 (u8s (List.replicate 3072 0))) (hne : ra ≠ sa) : RMx w G d D ra sa [] (.slice none 0 0) (.slice none 0 0) (newM []) :=
  ⟨hh, hG, Row.nil _ _ _ _ _, rfl, h1, h2, fun k p b hp _ => by have hp : ([] : List (Int × List Int))[k]? = some p := hp; simp at hp, Row.nil _ _ _ _ _, by simp [hne]⟩
theorem RMx.born1 (w1 : World) (G1 : Nat → Nat) (d : Nat) : RMx (((w1.alloc (.cells ramC 5)).alloc (.cells scrC 5)).alloc (.cells #[.slice none 0 0, .slice (some ⟨w1.heap.size, 0, none⟩) 16384 16384, .slice (some ⟨w1.heap.size + 1, 0, none⟩) 3072 3072, .int .u8 0, .int .u8 0, .int .u16 0, .int .u8 0, .int .u16 0, .int .i64 0, .slice none 0 0] 74)).drew (own1 ((w1.alloc (.cells ramC 5)).alloc (.cells scrC 5)) (own1 (w1.alloc (.cells ramC 5)) (own1 w1 G1 (d + 2)) (d + 2)) d) d (w1.heap.size + 1 + 1) w1.heap.size (w1.heap.size + 1) [] (.slice none 0 0) (.slice none 0 0) (newM []) := by
  have e1 : Row 5 1 (w1.alloc (.cells ramC 5)) (own1 w1 G1 (d + 2)) (d + 2) (.slice (some ⟨w1.heap.size, 0, none⟩) 16384 16384) 16384 (u8s (List.replicate 16384 0)) := Row.new w1 G1 5 1 (d + 2) 16384 (u8s (List.replicate 16384 0)) (by unfold maxLen; omega) (by rw [u8s_length, List.length_replicate])
  have e2 : Row 5 1 ((w1.alloc (.cells ramC 5)).alloc (.cells scrC 5)) (own1 (w1.alloc (.cells ramC 5)) (own1 w1 G1 (d + 2)) (d + 2)) (d + 2) (.slice (some ⟨w1.heap.size + 1, 0, none⟩) 3072 3072) 3072 (u8s (List.replicate 3072 0)) := by
    have h := Row.new (w1.alloc (.cells ramC 5)) (own1 w1 G1 (d + 2)) 5 1 (d + 2) 3072 (u8s (List.replicate 3072 0)) (by unfold maxLen; omega) (by rw [u8s_length, List.length_replicate])
    rw [show (w1.alloc (.cells ramC 5)).heap.size = w1.heap.size + 1 from by simp] at h
    exact h
  have f1 := (Adv.refl (fun _ => False) (w1.alloc (.cells ramC 5)) (own1 w1 G1 (d + 2))).alloc (.cells scrC 5) (d + 2)
  have e1' := e1.adv f1 id
  have f3 := ((Adv.refl (fun _ => False) ((w1.alloc (.cells ramC 5)).alloc (.cells scrC 5)) (own1 (w1.alloc (.cells ramC 5)) (own1 w1 G1 (d + 2)) (d + 2))).alloc (.cells #[.slice none 0 0, .slice (some ⟨w1.heap.size, 0, none⟩) 16384 16384, .slice (some ⟨w1.heap.size + 1, 0, none⟩) 3072 3072, .int .u8 0, .int .u8 0, .int .u16 0, .int .u8 0, .int .u16 0, .int .i64 0, .slice none 0 0] 74) d).drew
  refine RMx.made (heap_at _ _ _ (by simp)) (by simp [own1]) (e1'.adv f3 id) (e2.adv f3 id) (by omega)
theorem RMx.born2 (w1 : World) (G1 : Nat → Nat) (d : Nat) : RMx (((w1.alloc (.cells scrC 5)).alloc (.cells ramC 5)).alloc (.cells #[.slice none 0 0, .slice (some ⟨w1.heap.size + 1, 0, none⟩) 16384 16384, .slice (some ⟨w1.heap.size, 0, none⟩) 3072 3072, .int .u8 0, .int .u8 0, .int .u16 0, .int .u8 0, .int .u16 0, .int .i64 0, .slice none 0 0] 74)).drew (own1 ((w1.alloc (.cells scrC 5)).alloc (.cells ramC 5)) (own1 (w1.alloc (.cells scrC 5)) (own1 w1 G1 (d + 2)) (d + 2)) d) d (w1.heap.size + 1 + 1) (w1.heap.size + 1) w1.heap.size [] (.slice none 0 0) (.slice none 0 0) (newM []) := by
  have e1 : Row 5 1 (w1.alloc (.cells scrC 5)) (own1 w1 G1 (d + 2)) (d + 2) (.slice (some ⟨w1.heap.size, 0, none⟩) 3072 3072) 3072 (u8s (List.replicate 3072 0)) := Row.new w1 G1 5 1 (d + 2) 3072 (u8s (List.replicate 3072 0)) (by unfold maxLen; omega) (by rw [u8s_length, List.length_replicate])
  have e2 : Row 5 1 ((w1.alloc (.cells scrC 5)).alloc (.cells ramC 5)) (own1 (w1.alloc (.cells scrC 5)) (own1 w1 G1 (d + 2)) (d + 2)) (d + 2) (.slice (some ⟨w1.heap.size + 1, 0, none⟩) 16384 16384) 16384 (u8s (List.replicate 16384 0)) := by
    have h := Row.new (w1.alloc (.cells scrC 5)) (own1 w1 G1 (d + 2)) 5 1 (d + 2) 16384 (u8s (List.replicate 16384 0)) (by unfold maxLen; omega) (by rw [u8s_length, List.length_replicate])
    rw [show (w1.alloc (.cells scrC 5)).heap.size = w1.heap.size + 1 from by simp] at h
    exact h
  have f1 := (Adv.refl (fun _ => False) (w1.alloc (.cells scrC 5)) (own1 w1 G1 (d + 2))).alloc (.cells ramC 5) (d + 2)
  have e1' := e1.adv f1 id
  have f3 := ((Adv.refl (fun _ => False) ((w1.alloc (.cells scrC 5)).alloc (.cells ramC 5)) (own1 (w1.alloc (.cells scrC 5)) (own1 w1 G1 (d + 2)) (d + 2))).alloc (.cells #[.slice none 0 0, .slice (some ⟨w1.heap.size + 1, 0, none⟩) 16384 16384, .slice (some ⟨w1.heap.size, 0, none⟩) 3072 3072, .int .u8 0, .int .u8 0, .int .u16 0, .int .u8 0, .int .u16 0, .int .i64 0, .slice none 0 0] 74) d).drew
  refine RMx.made (heap_at _ _ _ (by simp)) (by simp [own1]) (e2.adv f3 id) (e1'.adv f3 id) (by omega)
theorem newM_len (l : List (Int × List Int)) : (newM l).banks.length = l.length := List.length_map _
theorem newM_more {l : List (Int × List Int)} {k : Nat} {p : Int × List Int} (hp : l[k]? = some p) : newM (l.take (k + 1)) = { newM (l.take k) with banks := (newM (l.take k)).banks ++ [(p.1, p.2 ++ List.replicate (16384 - p.2.length) 0)] } := by
  unfold newM
  rw [List.take_add_one, hp]
  simp only [List.map_append, Option.toList_some, List.map_cons, List.map_nil]
/-- A bank more. -/
theorem RMx.more {w w' : World} {G G' : Nat → Nat} {d D ra sa fb : Nat} {bs : List Nat} {bv bv' tv : Value} {l : List (Int × List Int)} {k : Nat} {p : Int × List Int} (h : RMx w G d D ra sa bs bv tv (newM (l.take k))) (hp : l[k]? = some p)
    (ha : Adv (fun b => b = d ∨ b = d + 1) w G w' G')
    (hh : w'.heap[D]? = some (.cells #[bv', .slice (some ⟨ra, 0, none⟩) 16384 16384, .slice (some ⟨sa, 0, none⟩) 3072 3072, .int .u8 0, .int .u8 0, .int .u16 0, .int .u8 0, .int .u16 0, .int .i64 0, tv] 74 (0, 0))) (hG : G' D = d)
    (hr : Row 47 2 w' G' (d + 1) bv' (k + 1) (bankC (newM (l.take k)).banks bs ++ [.int .i64 p.1, .slice (some ⟨fb, 0, none⟩) 16384 16384]))
    (hb : Row 5 1 w' G' (d + 2) (.slice (some ⟨fb, 0, none⟩) 16384 16384) 16384 (u8s (p.2 ++ List.replicate (16384 - p.2.length) 0))) (hf : w.heap.size ≤ fb) : RMx w' G' d D ra sa (bs ++ [fb]) bv' tv (newM (l.take (k + 1))) := by
  have hkl : k < l.length := (List.getElem?_eq_some_iff.1 hp).1
  have hlen : (newM (l.take k)).banks.length = k := by rw [newM_len, List.length_take]; omega
  have hnod : (ra :: sa :: (bs ++ [fb])).Nodup := by
    rw [show ra :: sa :: (bs ++ [fb]) = (ra :: sa :: bs) ++ [fb] from rfl, List.nodup_append]
    refine ⟨h.nodup, by simp, fun x hx y hy => ?_⟩
    rw [List.mem_singleton] at hy
    have := h.olds x hx
    omega
  rw [newM_more hp]
  refine ⟨hh, hG, ?_, ?_, h.ram.adv ha (by omega), h.scr.adv ha (by omega), ?_, h.tones.adv ha (by omega), hnod⟩
  · rw [bankC_snoc h.blen]
    simpa [hlen] using hr
  · simp [h.blen]
  · intro j q b hq hb'
    by_cases hj : j < bs.length
    · rw [List.getElem?_append_left (by rw [← h.blen]; exact hj)] at hq
      rw [List.getElem?_append_left hj] at hb'
      exact (h.bank j q b hq hb').adv ha (by omega)
    · rw [List.getElem?_append_right (by omega)] at hb'
      have : j - bs.length = 0 := by
        have := (List.getElem?_eq_some_iff.1 hb').1
        simp at this; omega
      have hjk : j = (newM (l.take k)).banks.length := by rw [← h.blen]; omega
      subst hjk
      rw [h.blen] at hb'
      simp at hb' hq
      subst hb'
      rw [← hq]
      exact hb
set_option maxRecDepth 100000 in
set_option maxHeartbeats 1000000 in
theorem refNew_full (d : Nat) (hd : 1 ≤ d ∧ d < 900) (G : Nat → Nat) (la : Option Addr) (n c : Nat) (l : List (Int × List Int)) (hn : l.length = n) (hn2 : n ≤ 1000000) (hmay : mayBanks l = true) (w : World)
    (hin : ∀ (w' : World) (G' : Nat → Nat), Adv (fun _ => False) w G w' G' → BankIn w' la l) :
    Calls Tryz.prog 51 #[.slice la n c] w fun e w' => ∃ D G', e = .returned (.tuple #[.pointer (some ⟨D, 0, none⟩), .int .i64 0]) ∧ Adv (fun _ => False) w G w' G' ∧ RM w' G' d D (newM l) := by
  have hm1 := make_ram
  have hm2 := make_scr
  have HI0 := Lib.hid hin
  have hin2 : ∀ (w' : World) (G' : Nat → Nat), Adv (fun b => b = d + 1) w (fun _ => 0) w' G' → BankIn w' la l := fun w' G' h => hin w' (joined w G G') (joined_adv h (by omega))
  have HI := Lib.hid hin2
  have HN := Lib.hid hn
  have HM0 := Lib.hid hmay
  have HM := Lib.hid (may_go l (-1) hmay)
  obtain ⟨i0, hi, hz0, hz1, hz2⟩ := info_parts infoBank
  clear hin hin2 hn hmay
  go_enter Tryz.func51, Tryz.ntmps51
  go_wp2_with fail
  refine (refMay_yes (fun _ => 0) la n c l HN.out hn2 HM0.out _ (fun w' G' h => HI.out w' G' (h.mono (fun _ h => h.elim)))).mono ?_
  rintro e w1 ⟨rfl, G1, ha1⟩
  have HA1 := Lib.hid (ha1.mono (T := fun b => b = d + 1) (fun _ h => h.elim))
  clear ha1
  go_upto_region 3 with fail
  go_cut [4] (fun s4 wx => ∃ D Gx, s4 = .pointer (some ⟨D, 0, none⟩) ∧ Adv (fun b => b = d + 1) w (fun _ => 0) wx Gx ∧ ∃ ra sa bs bv, RMx wx Gx d D ra sa bs bv (.slice none 0 0) (newM (l.take 0)))
  case first =>
    go_region
    all_goals
      go_wp2_with fail
      go_meet
      first
        | exact ⟨_, _, rfl, (((HA1.out.alloc _ (d + 2)).alloc _ (d + 2)).alloc _ d).drew, _, _, _, _, RMx.born1 w1 G1 d⟩
        | exact ⟨_, _, rfl, (((HA1.out.alloc _ (d + 2)).alloc _ (d + 2)).alloc _ d).drew, _, _, _, _, RMx.born2 w1 G1 d⟩
  case rest =>
    obtain ⟨D, Gx, rfl, h1, h2⟩ := hcut
    obtain ⟨wA, rfl⟩ : ∃ x : World, x = wc := ⟨_, rfl⟩
    have HA2 := Lib.hid h1
    have HR2 := Lib.hid h2
    clear h1 h2
    go_wp2_with fail
    go_loopw [16] (fun v wr => ∃ k : Nat, k ≤ n ∧ v = .int .i64 k ∧ ∃ Gr, Adv (fun b => b = d + 1) w (fun _ => 0) wr Gr ∧ ∃ ra sa bs bv, RMx wr Gr d D ra sa bs bv (.slice none 0 0) (newM (l.take k))) (fun v _ => n - (intOf v).toNat)
    case atStart => exact ⟨0, Nat.zero_le _, rfl, Gx, HA2.out, HR2.out⟩
    case round =>
      obtain ⟨k, hk, rfl, Gr, h1, h2⟩ := hrel
      by_cases hlt : k < n
      · obtain ⟨p, hp⟩ : ∃ p, l[k]? = some p := ⟨l[k]'(by rw [HN.out]; exact hlt), by simp⟩
        obtain ⟨m1, m2, m3, m4, m5⟩ := HM.out k p hp
        obtain ⟨b, o, da, dc, hla, c1, c2, hr⟩ := HI.out wr Gr h1 k p hp
        have hb := World.block_lt_of_cell? wr _ c1
        obtain ⟨ra, sa, bs, bv, h2⟩ := h2
        have HX := Lib.hid h2
        have hh := h2.head
        have hG := h2.hown
        have hkb : (newM (l.take k)).banks.length = k := by have := HN.out; rw [newM_len, List.length_take]; omega
        obtain ⟨xs, hxs⟩ : ∃ xs, xs = bankC (newM (l.take k)).banks bs := ⟨_, rfl⟩
        have hrow := h2.row
        rw [hkb, ← hxs] at hrow
        have HXS := Lib.hid hxs
        have HKP := Lib.hid hp
        clear h2 hkb hxs
        obtain ⟨va, vc, rfl, hvc, hkc, hva⟩ := hrow.slice
        have hDl : D < wr.heap.size := (Array.getElem?_eq_some_iff.1 hh).1
        have cD := block_cell hh 0 _ rfl
        have HA3 := Lib.hid h1
        have HH := Lib.hid hh
        have HGD := Lib.hid hG
        have HROW := Lib.hid hrow
        have HR := Lib.hid hr
        rw [hla]
        clear h1 hp hr m1 m5 hh hG hrow
        go_wp2_with fail
        have HRd := Lib.hid (show Reads (wr.alloc (.cells #[.int .i64 p.1, .slice da p.2.length dc] 47)).drew da (u8s p.2) from HR.out.alloc _)
        have hA4 := (HA3.out.alloc (.cells #[.int .i64 p.1, .slice da p.2.length dc] 47) 1000).drew
        have HA4 := Lib.hid hA4
        clear hA4
        have hA5 := ((Adv.refl (fun _ => False) wr Gr).alloc (.cells #[.int .i64 p.1, .slice da p.2.length dc] 47) 1000).drew
        have HROWa := Lib.hid (HROW.out.adv hA5 id)
        have hDa := (hA5.keep D hDl id).trans HH.out
        have hGa := (hA5.own D hDl).trans HGD.out
        have HDa := Lib.hid (And.intro hDa hGa)
        have hDz := hA5.size
        have HCD := Lib.hid (block_cell hDa 0 _ rfl)
        have hNa : (wr.alloc (.cells #[.int .i64 p.1, .slice da p.2.length dc] 47)).drew.heap[wr.heap.size]? = some (.cells #[.int .i64 p.1, .slice da p.2.length dc] 47 (0, 0)) := heap_alloc_new wr _
        have HCN := Lib.hid (block_cell hNa 0 _ rfl)
        clear hA5 hDa hGa hNa
        have hone : ∀ (x : Int) (y : Option Addr), ∀ u ∈ [Value.int .i64 x, .slice y 16384 16384], u.oneCell' = true := by
          intro x y u hu; simp at hu; rcases hu with rfl | rfl <;> rfl
        go_region_law (first
          | (refine step_append_row rfl (.tmp 24) (.tmp 31) 33 rfl 47 i0 (.agg #[.int .i64 0, .slice none 0 0]) 2 32 Tryz.underlying33 hi hz0 hz1 hz2 rfl (by decide) _ (d + 1) va k vc xs rfl HROW2.out ⟨w2.heap.size, 0, none⟩ 1 1 [.int .i64 p.1, .slice (some ⟨fb, 0, none⟩) 16384 16384] rfl rfl (new_cells w2 _ _) (hone _ _) (by unfold maxLen; omega) (by omega) ?_; (intro va' vc' w3 G3 hr3 ha3; have HR3 := Lib.hid hr3; have HBZ := Lib.hid (HBY.out.adv ha3 (by omega)); have HA3x := Lib.hid ha3; have HD3 := Lib.hid (And.intro ((ha3.keep D (by simp; omega) (by rw [HDb.out.2]; omega)).trans HDb.out.1) ((ha3.own D (by simp; omega)).trans HDb.out.2)); have cD3 := block_cell HD3.out.1 0 _ rfl; have fD3 := block_free HD3.out.1 0; clear hr3 ha3))
          | (go_simp; go_at_call 96; refine (full16 (own1 wr Gr 1000) (d + 2) da p.2.length dc p.2 _ rfl m4 HRd.out).mono ?_; rintro e w2 ⟨fb, G2, rfl, hfb, ha2, hr2⟩; have hA6 := ha2.alloc (.cells #[.int .i64 p.1, .slice (some ⟨fb, 0, none⟩) 16384 16384] 47) 1000; have HBY := Lib.hid (hr2.adv ((Adv.refl (fun _ => False) w2 G2).alloc (.cells #[.int .i64 p.1, .slice (some ⟨fb, 0, none⟩) 16384 16384] 47) 1000) id); have HFB := Lib.hid hfb; have HROW2 := Lib.hid (HROWa.out.adv hA6 id); have HDb := Lib.hid (And.intro ((hA6.keep D (by omega) id).trans HDa.out.1) ((hA6.own D (by omega)).trans HDa.out.2)); have HA6 := Lib.hid hA6; have hs2 := ha2.size; have hDl2 : D < w2.heap.size := (by omega); have cD2 := ha2.cell_some HCD.out id; have cN2 := ha2.cell_some HCN.out id; clear hA6 hr2 ha2))
        all_goals
          have hDw : w.heap.size ≤ D := by
            rcases Nat.lt_or_ge D w.heap.size with hlt2 | hge
            · have := (HA3.out.own D hlt2).symm.trans HGD.out
              omega
            · exact hge
          have hfin := HA3.out.trans (((((Adv.refl (fun _ => False) wr Gr).alloc (.cells #[.int .i64 p.1, .slice da p.2.length dc] 47) 1000).drew.trans HA6.out).mono (T := fun b => b = d + 1) (fun _ h => h.elim)).trans HA3x.out)
          have hmid := ((((Adv.refl (fun _ => False) wr Gr).alloc (.cells #[.int .i64 p.1, .slice da p.2.length dc] 47) 1000).drew.trans HA6.out).mono (T := fun b => b = d ∨ b = d + 1) (fun _ h => h.elim)).trans (HA3x.out.mono (T := fun b => b = d ∨ b = d + 1) fun _ h => .inr h)
          have hset := (Adv.refl (fun b => b = d) w3 G3).setCell (p := ⟨D, 0, none⟩) HD3.out.2 (.slice va' (k + 1) vc')
          have hrm : RMx (w3.setCell ⟨D, 0, none⟩ (.slice va' (k + 1) vc')) G3 d D ra sa (bs ++ [fb]) (.slice va' (k + 1) vc') (.slice none 0 0) (newM (l.take (k + 1))) := by
            refine HX.out.more HKP.out (hmid.setCell (p := ⟨D, 0, none⟩) (.inl HD3.out.2) _) ?_ HD3.out.2 ?_ (HBZ.out.adv hset (by omega)) (by have := HFB.out; simp at this; omega)
            · simp only [World.setCell, Array.getElem?_modify, HD3.out.1]; simp; exact ⟨rfl, rfl, rfl, rfl, rfl, rfl⟩
            · rw [← HXS.out]; exact HR3.out.adv hset (by omega)
          have HF := Lib.hid (And.intro (hfin.setNew (p := ⟨D, 0, none⟩) hDw (.slice va' (k + 1) vc')) hrm)
          clear hfin hrm hDw hmid hset
          go_wp2
          go_roundw
          case rel => exact ⟨k + 1, by omega, by go_num, G3, HF.out.1, _, _, _, _, HF.out.2⟩
          case measure => simp [intOf]; omega
      · have hkn : k = n := by omega
        have HF := Lib.hid (And.intro h1 h2)
        clear h1 h2
        go_wp2
        go_ret2
        obtain ⟨h1, ra, sa, bs, bv, h2⟩ := HF.out
        rw [hkn, List.take_of_length_le (by rw [HN.out]; omega)] at h2
        exact ⟨D, joined w G Gr, rfl, joined_adv h1 (by omega), RM.relabel ⟨_, _, _, _, _, h2⟩ fun k hk => joined_new h1 (by omega)⟩
end Go.Proofs.YtdnalhjdmlkbmaaGreatDoor
namespace Go.Proofs.YtdnalhjdmlkbmaaGreatDoor
open Go.RowKit

/-- A memory's parts have their sizes. -/
structure MemOk (M : MemS) : Prop where
  ram : M.ram.length = 16384
  screen : M.screen.length = 3072
  banks : ∀ p ∈ M.banks, p.2.length = 16384
theorem head_ram (B : Nat) (M : MemS) (tv : Value) (hm : MemOk M) (k : Nat) (hk : k < 16384) : (headC B M tv)[1 + k]? = some (.int .u8 (M.ram.getD k 0)) := by
  have h : (M.ram)[k]? = some (M.ram.getD k 0) := by rw [List.getD_eq_getElem?_getD]; simp [hm.ram, hk]
  unfold headC
  rw [List.append_assoc, List.append_assoc, List.getElem?_append_right (by simp), List.getElem?_append_left (by simp [u8s_length, hm.ram, hk])]
  simpa using u8s_at _ k _ h
theorem head_screen (B : Nat) (M : MemS) (tv : Value) (hm : MemOk M) (k : Nat) (hk : k < 3072) : (headC B M tv)[16385 + k]? = some (.int .u8 (M.screen.getD k 0)) := by
  have h : (M.screen)[k]? = some (M.screen.getD k 0) := by rw [List.getD_eq_getElem?_getD]; simp [hm.screen, hk]
  unfold headC
  rw [List.append_assoc, List.getElem?_append_right (by simp [u8s_length, hm.ram]), List.getElem?_append_left (by simp [u8s_length, hm.ram, hm.screen, hk])]
  have e : 16385 + k - ([Value.map (some B)] ++ u8s M.ram).length = k := by simp [u8s_length, hm.ram]
  rw [e]
  exact u8s_at _ k _ h
theorem head_tail (B : Nat) (M : MemS) (tv : Value) (hm : MemOk M) (k : Nat) : (headC B M tv)[19457 + k]? = ([.int .u8 M.chosen, .int .u8 M.pad, .int .u8 M.volume, .int .u16 M.pitch, .int .u16 M.time, .int .i64 M.cycle, tv] : List Value)[k]? := by
  unfold headC
  rw [List.getElem?_append_right (by simp [u8s_length, hm.ram, hm.screen])]
  have e : 19457 + k - ([Value.map (some B)] ++ u8s M.ram ++ u8s M.screen).length = k := by simp [u8s_length, hm.ram, hm.screen]
  rw [e]
theorem PMx.cell {w : World} {G : Nat → Nat} {i D B : Nat} {bs : List Nat} {tv : Value} {M : MemS} (h : PMx w G i D B bs tv M) (j : Nat) (v : Value) (hv : (headC B M tv)[j]? = some v) : w.cell? ⟨D, j, none⟩ = some v := by
  obtain ⟨C, h1, h2⟩ := h.head
  exact block_cell h1 j v (by rw [← Array.getElem?_toList, h2]; exact hv)
theorem PMx.free {w : World} {G : Nat → Nat} {i D B : Nat} {bs : List Nat} {tv : Value} {M : MemS} (h : PMx w G i D B bs tv M) (j : Nat) : w.frozen? ⟨D, j, none⟩ = false := by
  obtain ⟨C, h1, h2⟩ := h.head
  exact block_free h1 j
theorem PMx.mapc {w : World} {G : Nat → Nat} {i D B : Nat} {bs : List Nat} {tv : Value} {M : MemS} (h : PMx w G i D B bs tv M) : w.cell? ⟨D, 0, none⟩ = some (.map (some B)) := h.cell 0 _ rfl
theorem PMx.ramc {w : World} {G : Nat → Nat} {i D B : Nat} {bs : List Nat} {tv : Value} {M : MemS} (h : PMx w G i D B bs tv M) (hm : MemOk M) (k : Nat) (hk : k < 16384) : w.cell? ⟨D, 1 + k, none⟩ = some (.int .u8 (M.ram.getD k 0)) := h.cell _ _ (head_ram B M tv hm k hk)
theorem PMx.screenc {w : World} {G : Nat → Nat} {i D B : Nat} {bs : List Nat} {tv : Value} {M : MemS} (h : PMx w G i D B bs tv M) (hm : MemOk M) (k : Nat) (hk : k < 3072) : w.cell? ⟨D, 16385 + k, none⟩ = some (.int .u8 (M.screen.getD k 0)) := h.cell _ _ (head_screen B M tv hm k hk)
theorem PMx.ports {w : World} {G : Nat → Nat} {i D B : Nat} {bs : List Nat} {tv : Value} {M : MemS} (h : PMx w G i D B bs tv M) (hm : MemOk M) :
    w.cell? ⟨D, 19457, none⟩ = some (.int .u8 M.chosen) ∧ w.cell? ⟨D, 19458, none⟩ = some (.int .u8 M.pad) ∧ w.cell? ⟨D, 19459, none⟩ = some (.int .u8 M.volume) ∧ w.cell? ⟨D, 19460, none⟩ = some (.int .u16 M.pitch) ∧ w.cell? ⟨D, 19461, none⟩ = some (.int .u16 M.time) ∧ w.cell? ⟨D, 19462, none⟩ = some (.int .i64 M.cycle) ∧ w.cell? ⟨D, 19463, none⟩ = some tv :=
  ⟨h.cell _ _ (head_tail B M tv hm 0), h.cell _ _ (head_tail B M tv hm 1), h.cell _ _ (head_tail B M tv hm 2), h.cell _ _ (head_tail B M tv hm 3), h.cell _ _ (head_tail B M tv hm 4), h.cell _ _ (head_tail B M tv hm 5), h.cell _ _ (head_tail B M tv hm 6)⟩
/-- A new memory has its sizes, where no bank is too long. -/
theorem newM_ok (l : List (Int × List Int)) (h : ∀ p ∈ l, p.2.length ≤ 16384) : MemOk (newM l) := by
  refine ⟨List.length_replicate, List.length_replicate, fun p hp => ?_⟩
  have hp' : p ∈ l.map fun p => (p.1, p.2 ++ List.replicate (16384 - p.2.length) 0) := hp
  simp only [List.mem_map] at hp'
  obtain ⟨q, hq, rfl⟩ := hp'
  have := h q hq
  rw [List.length_append, List.length_replicate]; omega
end Go.Proofs.YtdnalhjdmlkbmaaGreatDoor
namespace Go.Proofs.YtdnalhjdmlkbmaaGreatDoor
open Go.RowKit
set_option linter.unusedVariables false

/-- Block K is a desk over these three. -/
def Desk (w : World) (G : Nat → Nat) (K D R : Nat) (M : Option Addr) : Prop :=
  w.heap[K]? = some (.cells #[.pointer (some ⟨D, 0, none⟩), .pointer (some ⟨R, 0, none⟩), .pointer M] 181 (0, 0)) ∧ G K = 0
theorem Desk.adv {S : Nat → Prop} {w w' : World} {G G' : Nat → Nat} {K D R : Nat} {M : Option Addr} (h : Desk w G K D R M) (ha : Adv S w G w' G') (hs : ¬ S 0) : Desk w' G' K D R M := by
  have hl : K < w.heap.size := (Array.getElem?_eq_some_iff.1 h.1).1
  exact ⟨(ha.keep K hl (by rw [h.2]; exact hs)).trans h.1, (ha.own K hl).trans h.2⟩
theorem Desk.lt {w : World} {G : Nat → Nat} {K D R : Nat} {M : Option Addr} (h : Desk w G K D R M) : K < w.heap.size := (Array.getElem?_eq_some_iff.1 h.1).1
theorem Desk.setCell {w : World} {G : Nat → Nat} {K D R : Nat} {M : Option Addr} (h : Desk w G K D R M) {p : Addr} (hp : p.block ≠ K) (u : Value) : Desk (w.setCell p u) G K D R M :=
  ⟨(Below.heap_setCell _ _ _ _ (fun e => hp e.symm)).trans h.1, h.2⟩
theorem Desk.d {w : World} {G : Nat → Nat} {K D R : Nat} {M : Option Addr} (h : Desk w G K D R M) : w.cell? ⟨K, 0, none⟩ = some (.pointer (some ⟨D, 0, none⟩)) := block_cell h.1 0 _ rfl
theorem Desk.r {w : World} {G : Nat → Nat} {K D R : Nat} {M : Option Addr} (h : Desk w G K D R M) : w.cell? ⟨K, 1, none⟩ = some (.pointer (some ⟨R, 0, none⟩)) := block_cell h.1 1 _ rfl
theorem Desk.m {w : World} {G : Nat → Nat} {K D R : Nat} {M : Option Addr} (h : Desk w G K D R M) : w.cell? ⟨K, 2, none⟩ = some (.pointer M) := block_cell h.1 2 _ rfl

/-- The row of taken: what is still to come is 0. -/
theorem taken_set (t : List Int) (m : Nat) (x : Int) (hx : t[m]? = some x) : (cellsU (List.replicate (m + 1) 0 ++ t.drop (m + 1))).set m (.int .u16 x) = cellsU (List.replicate m 0 ++ t.drop m) := by
  have hlt : m < t.length := (List.getElem?_eq_some_iff.1 hx).1
  have hd : t.drop m = x :: t.drop (m + 1) := by
    rw [List.drop_eq_getElem_cons hlt]
    congr 1
    have := (List.getElem?_eq_some_iff.1 hx).2
    exact this
  rw [hd]
  apply List.ext_getElem?
  intro j
  simp only [cellsU, List.map_append, List.map_replicate, List.map_cons, List.getElem?_set, List.length_append, List.length_replicate, List.length_map, List.length_drop]
  rcases Nat.lt_trichotomy j m with h | h | h
  · rw [if_neg (by omega), List.getElem?_append_left (by simp; omega), List.getElem?_append_left (by simp; omega), List.getElem?_replicate, List.getElem?_replicate, if_pos (by omega), if_pos h]
  · subst h
    rw [if_pos rfl, if_pos (by omega), List.getElem?_append_right (by simp)]
    simp
  · rw [if_neg (by omega), List.getElem?_append_right (by simp; omega), List.getElem?_append_right (by simp; omega)]
    simp only [List.length_replicate]
    rw [show j - m = (j - (m + 1)) + 1 from by omega, List.getElem?_cons_succ]

set_option maxRecDepth 100000 in
set_option maxHeartbeats 1000000 in
theorem taken_any (G : Nat → Nat) (i D K R : Nat) (M : Option Addr) (base t : List Int) (n : Nat) (hn : t.length = n) (h0 : 0 < n) (h4 : n ≤ 100) (hi : i ≠ 0) (w : World) (hp : PU w G i D (base ++ t)) (hk : Desk w G K D R M) :
    Calls Tryz.prog 179 #[.pointer (some ⟨K, 0, none⟩), .int .i64 n] w fun e w' =>
      ∃ b G', e = .returned (.slice (some ⟨b, 0, none⟩) n n) ∧ Adv (· = i) w G w' G' ∧ PU w' G' i D base ∧ Row 31 1 w' G' 0 (.slice (some ⟨b, 0, none⟩) n n) n (cellsU t) := by
  have hmk := run_makeU w n (by omega)
  have hKl := hk.lt
  have HN := Lib.hid hn
  have HA0 := Lib.hid ((Adv.refl (· = i) w G).alloc (.cells (cellsU (List.replicate n 0)).toArray 31) 0)
  have hAf := (Adv.refl (fun _ => False) w G).alloc (.cells (cellsU (List.replicate n 0)).toArray 31) 0
  have HP := Lib.hid (hp.adv hAf id)
  have HK := Lib.hid (hk.adv hAf id)
  have HR := Lib.hid (Row.new w G 31 1 0 n (cellsU (List.replicate n 0)) (by unfold maxLen; omega) (by simp [cellsU]))
  clear hn hp hk hAf
  go_enter Tryz.func179, Tryz.ntmps179
  go_wp2_with fail
  go_loopw [11] (fun v wr => ∃ j : Nat, j ≤ n ∧ v = .int .i64 j ∧ ∃ Gr, Adv (· = i) w G wr Gr ∧ PU wr Gr i D (base ++ t.take (n - j)) ∧ Desk wr Gr K D R M ∧ Row 31 1 wr Gr 0 (.slice (some ⟨w.heap.size, 0, none⟩) n n) n (cellsU (List.replicate (n - j) 0 ++ t.drop (n - j)))) (fun v _ => n - (intOf v).toNat)
  case atStart => exact ⟨0, Nat.zero_le _, rfl, _, HA0.out, by rw [List.take_of_length_le (by rw [HN.out]; omega)]; exact HP.out, HK.out, by rw [List.drop_of_length_le (by rw [HN.out]; omega), List.append_nil]; exact HR.out⟩
  case round =>
    obtain ⟨j, hj, rfl, Gr, h1, h2, h3, h4⟩ := hrel
    by_cases hlt : j < n
    · obtain ⟨x, hx⟩ : ∃ x, t[n - 1 - j]? = some x := ⟨t[n - 1 - j]'(by rw [HN.out]; omega), by simp⟩
      have htk : base ++ t.take (n - j) = (base ++ t.take (n - 1 - j)) ++ [x] := by
        rw [List.append_assoc]; congr 1
        rw [show n - j = n - 1 - j + 1 from by omega, List.take_add_one, hx]; rfl
      rw [htk] at h2
      have hset := taken_set t (n - 1 - j) x hx
      rw [show n - 1 - j + 1 = n - j from by omega] at hset
      have hD := h3.d
      have HX := Lib.hid hset
      have H1 := Lib.hid h1
      have H2 := Lib.hid h2
      have H3 := Lib.hid h3
      have H4 := Lib.hid h4
      clear hx htk hset h1 h2 h3 h4
      go_wp2_with fail
      refine (popPU Gr i D (base ++ t.take (n - 1 - j)) x _ H2.out).mono ?_
      rintro e w1 ⟨rfl, ha, hp1⟩
      have hR1 := H4.out.adv ha (by omega)
      obtain ⟨hg, hG, hf, hc⟩ := hR1.at h0
      have hlen : n - 1 - j < (cellsU (List.replicate (n - j) 0 ++ t.drop (n - j))).length := by rw [hR1.nlen]; omega
      have hc1 := hc (n - 1 - j) _ (List.getElem?_eq_getElem hlen)
      have hf1 := hf (n - 1 - j)
      have HS := Lib.hid (hR1.store (n - 1 - j) hlen (.int .u16 x))
      have HP1 := Lib.hid hp1
      have HA1 := Lib.hid (H1.out.trans ha)
      have HK1 := Lib.hid (H3.out.adv ha (by omega))
      clear hc hf ha hp1 hR1 hG
      go_wp2
      go_roundw
      case rel =>
        refine ⟨j + 1, by omega, by go_num, Gr, HA1.out.setNew (Nat.le_refl _) _, ?_, HK1.out.setCell (fun e => by simp at e; omega) _, ?_⟩
        · rw [show n - (j + 1) = n - 1 - j from by omega]; exact HP1.out.adv HS.out.1 (by omega)
        · rw [show n - (j + 1) = n - 1 - j from by omega, ← HX.out]; exact HS.out.2
      case measure => simp [intOf]; omega
    · have hjn : j = n := by omega
      have HJ := Lib.hid hjn
      have HB := Lib.hid (And.intro h1 (And.intro h2 (And.intro h3 h4)))
      clear hjn h1 h2 h3 h4
      go_wp2
      go_ret
      obtain ⟨h1, h2, h3, h4⟩ := HB.out
      rw [HJ.out, Nat.sub_self, List.take_zero, List.append_nil] at h2
      rw [HJ.out, Nat.sub_self, List.drop_zero, List.replicate_zero, List.nil_append] at h4
      exact ⟨w.heap.size, Gr, rfl, h1, h2, h4⟩

/-- What a shuffle puts: the cells at these places. -/
def cellsI (ps : List Nat) : List Value := ps.map fun (p : Nat) => Value.int .i64 (p : Int)
def picks (t : List Int) (ps : List Nat) : List Int := ps.map fun p => t.getD p 0
set_option maxRecDepth 100000 in
set_option maxHeartbeats 1000000 in
theorem shuffle_any (G : Nat → Nat) (i D K R : Nat) (M : Option Addr) (base t : List Int) (n : Nat) (hn : t.length = n) (h0 : 0 < n) (h4 : n ≤ 100) (ps : List Nat) (hps : ∀ p ∈ ps, p < n) (hroom : base.length + ps.length ≤ 256) (hi : i ≠ 0)
    (B1 B2 : Nat) (la : Option Addr) (lc : Nat) (w : World) (hp : PU w G i D (base ++ t)) (hk : Desk w G K D R M)
    (hB1 : w.cell? ⟨B1, 0, none⟩ = some (.int .i64 n)) (_hG1 : G B1 = 0) (hB2 : w.cell? ⟨B2, 0, none⟩ = some (.slice la ps.length lc)) (hG2 : G B2 = 0)
    (hla : Reads w la (cellsI ps)) (hGl : ∀ ad, la = some ad → G ad.block = 0 ∧ ad.block < w.heap.size) :
    Calls Tryz.prog 178 #[.pointer (some ⟨K, 0, none⟩), .pointer (some ⟨B1, 0, none⟩), .pointer (some ⟨B2, 0, none⟩)] w fun e w' =>
      e = .returned (.tuple #[]) ∧ ∃ G', Adv (· = i) w G w' G' ∧ PU w' G' i D (base ++ picks t ps) := by
  have HP := Lib.hid hp
  have HK := Lib.hid hk
  have HN := Lib.hid hn
  have HLA := Lib.hid hla
  have HGL := Lib.hid hGl
  have HPS := Lib.hid hps
  clear hp hk hn hla hGl hps
  go_enter Tryz.func178, Tryz.ntmps178
  go_wp2_with fail
  refine (taken_any G i D K R M base t n HN.out h0 h4 hi _ HP.out HK.out).mono ?_
  rintro e w1 ⟨b, G1, rfl, ha, hp1, hr1⟩
  have hB2' := ha.cell_some (p := ⟨B2, 0, none⟩) hB2 (by rw [hG2]; omega)
  have HA := Lib.hid ha
  have HP1 := Lib.hid hp1
  have HR1 := Lib.hid hr1
  have HK1 := Lib.hid (HK.out.adv ha (by omega))
  have HL1 := Lib.hid (HLA.out.adv ha (fun ad e => by rw [(HGL.out ad e).1]; omega))
  clear ha hp1 hr1
  go_wp2_with fail
  go_loopw [12] (fun v wr => ∃ j : Nat, j ≤ ps.length ∧ v = .int .i64 j ∧ ∃ Gr, Adv (· = i) w1 G1 wr Gr ∧ PU wr Gr i D (base ++ picks t (ps.take j))) (fun v _ => ps.length - (intOf v).toNat)
  case atStart => exact ⟨0, Nat.zero_le _, rfl, G1, Adv.refl _ _ _, by simpa [picks] using HP1.out⟩
  case round =>
    obtain ⟨j, hj, rfl, Gr, h1, h2⟩ := hrel
    by_cases hlt : j < ps.length
    · obtain ⟨p, hpj⟩ : ∃ p, ps[j]? = some p := ⟨ps[j], by simp [hlt]⟩
      have hpn := HPS.out p (List.mem_of_getElem? hpj)
      have hcj : (cellsI ps)[j]? = some (.int .i64 p) := by simp [cellsI, hpj]
      obtain ⟨bl, ol, hla, hcl, hbl⟩ := (HL1.out.adv h1 (fun ad e => by
        have := HGL.out ad e
        rw [HA.out.own _ this.2, this.1]; omega)).some (by intro e; rw [e] at hcj; simp at hcj)
      have hcl1 := hcl j _ hcj
      have hrow := HR1.out.adv h1 (by omega)
      obtain ⟨hg, hG, hf, hc⟩ := hrow.at h0
      obtain ⟨x, hx⟩ : ∃ x, t[p]? = some x := ⟨t[p]'(by rw [HN.out]; exact hpn), by simp⟩
      have hcx := hc p _ (cellsU_at t p x hx)
      have hD := (HK1.out.adv h1 (by omega)).d
      have hKz := (HK1.out.adv h1 (by omega)).lt
      have hpk : picks t (ps.take (j + 1)) = picks t (ps.take j) ++ [x] := by
        rw [List.take_add_one, hpj]; simp [picks, hx]
      have HPK := Lib.hid hpk
      have H1 := Lib.hid h1
      have H2 := Lib.hid h2
      clear h1 h2 hpk hcl hc hf hcj hpj hx hG hrow
      rw [hla]
      go_wp2_with fail
      have HZ := Lib.hid (show Reads (wr.alloc (.cells #[.int .u16 x] 31)).drew (some ⟨wr.heap.size, 0, none⟩) (cellsU [x]) from Reads.new wr [.int .u16 x] 31)
      have HL := Lib.hid (show (base ++ picks t (ps.take j)).length + 1 ≤ 256 from by simp [picks]; omega)
      go_region_with (go_at_call 39; refine (pushPU (own1 wr Gr 0) i D (base ++ picks t (ps.take j)) [x] _ 1 1 _ (H2.out.alloc (.cells #[.int .u16 x] 31) 0).drew rfl HL.out HZ.out).mono ?_; rintro e w2 ⟨rfl, G2, ha2, hp2⟩)
      all_goals
        have HA2 := Lib.hid (H1.out.trans (((Adv.refl (· = i) wr Gr).alloc (.cells #[.int .u16 x] 31) 0).drew.trans ha2))
        clear ha2
        go_wp2
        go_roundw
        case rel => exact ⟨j + 1, by omega, by go_num, G2, HA2.out, by rw [HPK.out, ← List.append_assoc]; exact hp2⟩
        case measure => simp [intOf]; omega
    · have hjn : j = ps.length := by omega
      have HJ := Lib.hid hjn
      have HB := Lib.hid (And.intro h1 h2)
      clear hjn h1 h2
      go_wp2
      go_end0
      rw [HJ.out, List.take_length] at HB
      exact ⟨rfl, Gr, HA.out.trans HB.out.1, HB.out.2⟩
end Go.Proofs.YtdnalhjdmlkbmaaGreatDoor
namespace Go.Proofs.YtdnalhjdmlkbmaaGreatDoor
open Go.RowKit

def bankF : List (Int × List Int) → Int → Option (List Int)
  | [], _ => none
  | p :: l, c => if p.1 = c then some p.2 else bankF l c
def portF (M : MemS) (a : Int) : Int :=
  if a = 65280 then M.chosen else if a = 65282 then M.pad else if a = 65284 then IntKind.wrap .u8 M.pitch else if a = 65285 then IntKind.wrap .u8 (M.pitch / 256)
  else if a = 65286 then M.volume else if a = 65288 then IntKind.wrap .u8 M.time else if a = 65289 then IntKind.wrap .u8 (M.time / 256) else 0
def loadF (M : MemS) (a : Int) : Int :=
  if a < 16384 then 0 else if a < 32768 then ((bankF M.banks M.chosen).getD []).getD (a - 16384).toNat 0
  else if a < 49152 then M.ram.getD (a - 32768).toNat 0 else if a < 52224 then M.screen.getD (a - 49152).toNat 0 else portF M a
theorem load_low (D : Nat) (M : MemS) (a : Int) (h : a < 16384) (w : World) : Calls Tryz.prog 69 #[.pointer (some ⟨D, 0, none⟩), .int .u16 a] w fun e w' => e = .returned (.int .u8 (loadF M a)) ∧ w = w' := by
  have hv : loadF M a = 0 := if_pos h
  rw [hv]
  have b1 : decide (a < 16384) = true := by simpa using h
  go_enter Tryz.func69, Tryz.ntmps69
  go_wp2
  go_ret
  exact ⟨rfl, rfl⟩
theorem load_ram (G : Nat → Nat) (i D B : Nat) (bs : List Nat) (tv : Value) (M : MemS) (hm : MemOk M) (k : Nat) (hk : k < 16384) (w : World) (hp : PMx w G i D B bs tv M) : Calls Tryz.prog 69 #[.pointer (some ⟨D, 0, none⟩), .int .u16 (32768 + (k : Int))] w fun e w' => e = .returned (.int .u8 (loadF M (32768 + (k : Int)))) ∧ w = w' := by
  have hv : loadF M (32768 + (k : Int)) = M.ram.getD k 0 := by
    unfold loadF
    rw [if_neg (by omega), if_neg (by omega), if_pos (by omega), show (32768 + (k : Int) - 32768).toNat = k from by omega]
  rw [hv]
  have b1 : decide (32768 + (k : Int) < 16384) = false := by simp; omega
  have b2 : decide (32768 + (k : Int) < 32768) = false := by simp; omega
  have b3 : decide (32768 + (k : Int) < 49152) = true := by simp; omega
  have c1 := hp.ramc hm k hk
  clear hv hp
  go_enter Tryz.func69, Tryz.ntmps69
  go_wp2
  go_ret
  exact ⟨by simp, rfl⟩
theorem load_screen (G : Nat → Nat) (i D B : Nat) (bs : List Nat) (tv : Value) (M : MemS) (hm : MemOk M) (k : Nat) (hk : k < 3072) (w : World) (hp : PMx w G i D B bs tv M) : Calls Tryz.prog 69 #[.pointer (some ⟨D, 0, none⟩), .int .u16 (49152 + (k : Int))] w fun e w' => e = .returned (.int .u8 (loadF M (49152 + (k : Int)))) ∧ w = w' := by
  have hv : loadF M (49152 + (k : Int)) = M.screen.getD k 0 := by
    unfold loadF
    rw [if_neg (by omega), if_neg (by omega), if_neg (by omega), if_pos (by omega), show (49152 + (k : Int) - 49152).toNat = k from by omega]
  rw [hv]
  have b1 : decide (49152 + (k : Int) < 16384) = false := by simp; omega
  have b2 : decide (49152 + (k : Int) < 32768) = false := by simp; omega
  have b3 : decide (49152 + (k : Int) < 49152) = false := by simp; omega
  have b4 : decide (49152 + (k : Int) < 52224) = true := by simp; omega
  have c1 := hp.screenc hm k hk
  clear hv hp
  go_enter Tryz.func69, Tryz.ntmps69
  go_wp2
  go_ret
  exact ⟨by simp, rfl⟩
theorem load_65280 (G : Nat → Nat) (i D B : Nat) (bs : List Nat) (tv : Value) (M : MemS) (hm : MemOk M) (w : World) (hp : PMx w G i D B bs tv M) : Calls Tryz.prog 69 #[.pointer (some ⟨D, 0, none⟩), .int .u16 65280] w fun e w' => e = .returned (.int .u8 (loadF M 65280)) ∧ w = w' := by
  obtain ⟨c0, c1, c2, c3, c4, -, -⟩ := hp.ports hm
  have hv : loadF M 65280 = M.chosen := rfl
  rw [hv]
  clear hv hp
  go_enter Tryz.func69, Tryz.ntmps69
  go_wp2
  go_ret
  exact ⟨rfl, rfl⟩
theorem load_65282 (G : Nat → Nat) (i D B : Nat) (bs : List Nat) (tv : Value) (M : MemS) (hm : MemOk M) (w : World) (hp : PMx w G i D B bs tv M) : Calls Tryz.prog 69 #[.pointer (some ⟨D, 0, none⟩), .int .u16 65282] w fun e w' => e = .returned (.int .u8 (loadF M 65282)) ∧ w = w' := by
  obtain ⟨c0, c1, c2, c3, c4, -, -⟩ := hp.ports hm
  have hv : loadF M 65282 = M.pad := rfl
  rw [hv]
  clear hv hp
  go_enter Tryz.func69, Tryz.ntmps69
  go_wp2
  go_ret
  exact ⟨rfl, rfl⟩
theorem load_65284 (G : Nat → Nat) (i D B : Nat) (bs : List Nat) (tv : Value) (M : MemS) (hm : MemOk M) (w : World) (hp : PMx w G i D B bs tv M) : Calls Tryz.prog 69 #[.pointer (some ⟨D, 0, none⟩), .int .u16 65284] w fun e w' => e = .returned (.int .u8 (loadF M 65284)) ∧ w = w' := by
  obtain ⟨c0, c1, c2, c3, c4, -, -⟩ := hp.ports hm
  have hv : loadF M 65284 = IntKind.wrap .u8 M.pitch := rfl
  rw [hv]
  clear hv hp
  go_enter Tryz.func69, Tryz.ntmps69
  go_wp2
  go_ret
  exact ⟨rfl, rfl⟩
theorem load_65285 (G : Nat → Nat) (i D B : Nat) (bs : List Nat) (tv : Value) (M : MemS) (hm : MemOk M) (w : World) (hp : PMx w G i D B bs tv M) : Calls Tryz.prog 69 #[.pointer (some ⟨D, 0, none⟩), .int .u16 65285] w fun e w' => e = .returned (.int .u8 (loadF M 65285)) ∧ w = w' := by
  obtain ⟨c0, c1, c2, c3, c4, -, -⟩ := hp.ports hm
  have hv : loadF M 65285 = IntKind.wrap .u8 (M.pitch / 256) := rfl
  rw [hv]
  clear hv hp
  go_enter Tryz.func69, Tryz.ntmps69
  go_wp2
  go_ret
  exact ⟨rfl, rfl⟩
theorem load_65286 (G : Nat → Nat) (i D B : Nat) (bs : List Nat) (tv : Value) (M : MemS) (hm : MemOk M) (w : World) (hp : PMx w G i D B bs tv M) : Calls Tryz.prog 69 #[.pointer (some ⟨D, 0, none⟩), .int .u16 65286] w fun e w' => e = .returned (.int .u8 (loadF M 65286)) ∧ w = w' := by
  obtain ⟨c0, c1, c2, c3, c4, -, -⟩ := hp.ports hm
  have hv : loadF M 65286 = M.volume := rfl
  rw [hv]
  clear hv hp
  go_enter Tryz.func69, Tryz.ntmps69
  go_wp2
  go_ret
  exact ⟨rfl, rfl⟩
theorem load_65288 (G : Nat → Nat) (i D B : Nat) (bs : List Nat) (tv : Value) (M : MemS) (hm : MemOk M) (w : World) (hp : PMx w G i D B bs tv M) : Calls Tryz.prog 69 #[.pointer (some ⟨D, 0, none⟩), .int .u16 65288] w fun e w' => e = .returned (.int .u8 (loadF M 65288)) ∧ w = w' := by
  obtain ⟨c0, c1, c2, c3, c4, -, -⟩ := hp.ports hm
  have hv : loadF M 65288 = IntKind.wrap .u8 M.time := rfl
  rw [hv]
  clear hv hp
  go_enter Tryz.func69, Tryz.ntmps69
  go_wp2
  go_ret
  exact ⟨rfl, rfl⟩
theorem load_65289 (G : Nat → Nat) (i D B : Nat) (bs : List Nat) (tv : Value) (M : MemS) (hm : MemOk M) (w : World) (hp : PMx w G i D B bs tv M) : Calls Tryz.prog 69 #[.pointer (some ⟨D, 0, none⟩), .int .u16 65289] w fun e w' => e = .returned (.int .u8 (loadF M 65289)) ∧ w = w' := by
  obtain ⟨c0, c1, c2, c3, c4, -, -⟩ := hp.ports hm
  have hv : loadF M 65289 = IntKind.wrap .u8 (M.time / 256) := rfl
  rw [hv]
  clear hv hp
  go_enter Tryz.func69, Tryz.ntmps69
  go_wp2
  go_ret
  exact ⟨rfl, rfl⟩
/-- The bank of a number, as the map has it. -/
theorem zip_find : ∀ (l : List (Int × List Int)) (bs : List Nat), bs.length = l.length → ∀ c : Int,
    (bankF l c = none ∧ valI (List.zipWith (fun (p : Int × List Int) (b : Nat) => (p.1, Value.pointer (some ⟨b, 0, none⟩))) l bs) c = none) ∨
    ∃ (k : Nat) (p : Int × List Int) (b : Nat), l[k]? = some p ∧ bs[k]? = some b ∧ p.1 = c ∧ bankF l c = some p.2 ∧ valI (List.zipWith (fun (p : Int × List Int) (b : Nat) => (p.1, Value.pointer (some ⟨b, 0, none⟩))) l bs) c = some (.pointer (some ⟨b, 0, none⟩))
  | [], _, _, _ => .inl ⟨rfl, rfl⟩
  | _ :: _, [], h, _ => by simp at h
  | p :: l, b :: bs, h, c => by
    by_cases e : p.1 = c
    · exact .inr ⟨0, p, b, rfl, rfl, e, by simp [bankF, e], by simp [valI, e]⟩
    · rcases zip_find l bs (by simpa using h) c with ⟨h1, h2⟩ | ⟨k, q, d, h1, h2, h3, h4, h5⟩
      · exact .inl ⟨by simp [bankF, e, h1], by simp only [List.zipWith_cons_cons, valI, if_neg e]; exact h2⟩
      · exact .inr ⟨k + 1, q, d, by rw [List.getElem?_cons_succ]; exact h1, by rw [List.getElem?_cons_succ]; exact h2, h3, by simp [bankF, e, h4], by simp only [List.zipWith_cons_cons, valI, if_neg e]; exact h5⟩
theorem load_none (D : Nat) (M : MemS) (a : Int) (h1 : 52224 ≤ a) (h9 : a < 65536) (hn : portF M a = 0) (n1 : a ≠ 65280) (n2 : a ≠ 65282) (n3 : a ≠ 65284) (n4 : a ≠ 65285) (n5 : a ≠ 65286) (n6 : a ≠ 65288) (n7 : a ≠ 65289) (w : World) :
    Calls Tryz.prog 69 #[.pointer (some ⟨D, 0, none⟩), .int .u16 a] w fun e w' => e = .returned (.int .u8 (loadF M a)) ∧ w = w' := by
  have hv : loadF M a = 0 := by
    unfold loadF
    rw [if_neg (by omega), if_neg (by omega), if_neg (by omega), if_neg (by omega), hn]
  rw [hv]
  have b1 : decide (a < 16384) = false := by simp; omega
  have b2 : decide (a < 32768) = false := by simp; omega
  have b3 : decide (a < 49152) = false := by simp; omega
  have b4 : decide (a < 52224) = false := by simp; omega
  have d1 : (a == 65280) = false := by simpa using n1
  have d2 : (a == 65282) = false := by simpa using n2
  have d3 : (a == 65284) = false := by simpa using n3
  have d4 : (a == 65285) = false := by simpa using n4
  have d5 : (a == 65286) = false := by simpa using n5
  have d6 : (a == 65288) = false := by simpa using n6
  have d7 : (a == 65289) = false := by simpa using n7
  have h0 : 0 ≤ a := by omega
  clear hv hn
  go_enter Tryz.func69, Tryz.ntmps69
  go_wp2
  go_ret
  exact ⟨rfl, rfl⟩
set_option maxRecDepth 100000 in
theorem load_window (G : Nat → Nat) (i D B : Nat) (bs : List Nat) (tv : Value) (M : MemS) (hm : MemOk M) (k : Nat) (hk : k < 16384) (w : World) (hp : PMx w G i D B bs tv M) : Calls Tryz.prog 69 #[.pointer (some ⟨D, 0, none⟩), .int .u16 (16384 + (k : Int))] w fun e w' => e = .returned (.int .u8 (loadF M (16384 + (k : Int)))) ∧ ∃ d, w' = w.drewN d := by
  have hv : loadF M (16384 + (k : Int)) = ((bankF M.banks M.chosen).getD []).getD k 0 := by
    unfold loadF
    rw [if_neg (by omega), if_pos (by omega), show (16384 + (k : Int) - 16384).toNat = k from by omega]
  rw [hv]
  have b1 : decide (16384 + (k : Int) < 16384) = false := by simp; omega
  have b2 : decide (16384 + (k : Int) < 32768) = true := by simp; omega
  have c0 := hp.mapc
  obtain ⟨c3, -⟩ := hp.ports hm
  rcases zip_find M.banks bs hp.blen M.chosen with ⟨h1, h2⟩ | ⟨j, p, b, h1, h2, h3, h4, h5⟩
  · rw [h1]
    have hl : ∀ q, (Instr.lookup 166 (.map (some B)) (.int .u8 M.chosen) true).run Tryz.prog (w.drewN q) = .ok (.tuple #[.pointer none, .bool false]) (w.drewN q) := fun q =>
      lookup_I_no (w := w.drewN q) (z := .pointer none) Tryz.underlying166 Tryz.underlying5 (by kernel_rfl) (hp.adv ((Adv.refl (fun _ => False) w G).drewN q) id).map M.chosen h2
    have hl1 : (Instr.lookup 166 (.map (some B)) (.int .u8 M.chosen) true).run Tryz.prog w.drew = .ok (.tuple #[.pointer none, .bool false]) w.drew := hl 1
    clear hl
    clear hv hp h1 h2
    go_enter Tryz.func69, Tryz.ntmps69
    go_upto_region 6 with fail
    go_region
    go_wp2
    go_ret
    exact ⟨by simp, 1, rfl⟩
  · rw [h4]
    have hl1 : (Instr.lookup 166 (.map (some B)) (.int .u8 M.chosen) true).run Tryz.prog w.drew = .ok (.tuple #[.pointer (some ⟨b, 0, none⟩), .bool true]) w.drew :=
      lookup_I (w := w.drew) Tryz.underlying166 Tryz.underlying5 (hp.adv ((Adv.refl (fun _ => False) w G).drew) id).map M.chosen _ h5
    obtain ⟨⟨C, hC, hCl⟩, hb⟩ := hp.bank j p b h1 h2
    have hlen : p.2.length = 16384 := hm.banks p (List.mem_of_getElem? h1)
    have cb : w.cell? ⟨b, k, none⟩ = some (.int .u8 (p.2.getD k 0)) := block_cell hC k _ (by
      rw [← Array.getElem?_toList, hCl]
      exact u8s_at _ k _ (by rw [List.getD_eq_getElem?_getD]; simp [hlen, hk]))
    clear hv hp h1 h2 h3 h4 h5 hC hCl hb
    go_enter Tryz.func69, Tryz.ntmps69
    go_upto_region 6 with fail
    go_region
    go_wp2
    go_ret
    exact ⟨by simp [hlen, hk], 1, rfl⟩
/-- Load, at every address. -/
theorem load_any (G : Nat → Nat) (i D : Nat) (M : MemS) (hm : MemOk M) (a : Int) (h0 : 0 ≤ a) (h9 : a < 65536) (w : World) (hp : PM w G i D M) :
    Calls Tryz.prog 69 #[.pointer (some ⟨D, 0, none⟩), .int .u16 a] w fun e w' => e = .returned (.int .u8 (loadF M a)) ∧ ∃ d, w' = w.drewN d := by
  obtain ⟨B, bs, tv, hp⟩ := hp
  have z : ∀ {e : Ending} {v : Value} {w' : World}, e = .returned v ∧ w = w' → e = .returned v ∧ ∃ d, w' = w.drewN d := fun h => ⟨h.1, 0, h.2.symm⟩
  by_cases c1 : a < 16384
  · exact (load_low D M a c1 w).mono fun _ _ h => z h
  by_cases c2 : a < 32768
  · obtain ⟨k, rfl⟩ : ∃ k : Nat, a = 16384 + (k : Int) := ⟨(a - 16384).toNat, by omega⟩
    exact load_window G i D B bs tv M hm k (by omega) w hp
  by_cases c3 : a < 49152
  · obtain ⟨k, rfl⟩ : ∃ k : Nat, a = 32768 + (k : Int) := ⟨(a - 32768).toNat, by omega⟩
    exact (load_ram G i D B bs tv M hm k (by omega) w hp).mono fun _ _ h => z h
  by_cases c4 : a < 52224
  · obtain ⟨k, rfl⟩ : ∃ k : Nat, a = 49152 + (k : Int) := ⟨(a - 49152).toNat, by omega⟩
    exact (load_screen G i D B bs tv M hm k (by omega) w hp).mono fun _ _ h => z h
  by_cases n1 : a = 65280
  · subst n1; exact (load_65280 G i D B bs tv M hm w hp).mono fun _ _ h => z h
  by_cases n2 : a = 65282
  · subst n2; exact (load_65282 G i D B bs tv M hm w hp).mono fun _ _ h => z h
  by_cases n3 : a = 65284
  · subst n3; exact (load_65284 G i D B bs tv M hm w hp).mono fun _ _ h => z h
  by_cases n4 : a = 65285
  · subst n4; exact (load_65285 G i D B bs tv M hm w hp).mono fun _ _ h => z h
  by_cases n5 : a = 65286
  · subst n5; exact (load_65286 G i D B bs tv M hm w hp).mono fun _ _ h => z h
  by_cases n6 : a = 65288
  · subst n6; exact (load_65288 G i D B bs tv M hm w hp).mono fun _ _ h => z h
  by_cases n7 : a = 65289
  · subst n7; exact (load_65289 G i D B bs tv M hm w hp).mono fun _ _ h => z h
  exact (load_none D M a (by omega) h9 (by simp [portF, n1, n2, n3, n4, n5, n6, n7]) n1 n2 n3 n4 n5 n6 n7 w).mono fun _ _ h => z h
end Go.Proofs.YtdnalhjdmlkbmaaGreatDoor
namespace Go.Proofs.YtdnalhjdmlkbmaaGreatDoor
open Go.RowKit

def nextA (a : Int) : Int := IntKind.wrap .u16 (a + 1)
theorem nextA_lo (a : Int) : 0 ≤ nextA a ∧ nextA a < 65536 := by
  unfold nextA IntKind.wrap
  simp [IntKind.bits, IntKind.signed]
  omega
/-- Cell's answer. -/
def cellF (M : MemS) (a : Int) : Int := bits BinOp.or .u16 (IntKind.wrap .u16 (loadF M a)) (IntKind.wrap .u16 (IntKind.wrap .u16 (loadF M (nextA a)) * 256))
theorem cell_any (G : Nat → Nat) (i D : Nat) (M : MemS) (hm : MemOk M) (a : Int) (h0 : 0 ≤ a) (h9 : a < 65536) (w : World) (hp : PM w G i D M) :
    Calls Tryz.prog 105 #[.pointer (some ⟨D, 0, none⟩), .int .u16 a] w fun e w' => e = .returned (.int .u16 (cellF M a)) ∧ ∃ d, w' = w.drewN d := by
  have HP := Lib.hid hp
  clear hp
  go_enter Tryz.func105, Tryz.ntmps105
  go_wp2_with fail
  refine (load_any G i D M hm a h0 h9 _ HP.out).mono ?_
  rintro e w' ⟨rfl, d, rfl⟩
  go_wp2_with fail
  refine (load_any G i D M hm (IntKind.wrap .u16 (a + 1)) (nextA_lo a).1 (nextA_lo a).2 _ (HP.out.adv ((Adv.refl (fun _ => False) w G).drewN d) id)).mono ?_
  rintro e w' ⟨rfl, d2, rfl⟩
  go_wp2_with fail
  go_ret
  exact ⟨rfl, d + d2, rfl⟩
end Go.Proofs.YtdnalhjdmlkbmaaGreatDoor
namespace Go.Proofs.YtdnalhjdmlkbmaaGreatDoor
open Go.RowKit

/-- One cell of the memory's own block is written. -/
theorem PMx.setHead {w : World} {G : Nat → Nat} {i D B : Nat} {bs : List Nat} {tv : Value} {M M' : MemS} (h : PMx w G i D B bs tv M) (j : Nat) (v : Value)
    (hh : (headC B M tv).set j v = headC B M' tv) (hb : M'.banks = M.banks) (ht : M'.tones = M.tones) : PMx (w.setCell ⟨D, j, none⟩ v) G i D B bs tv M' := by
  have hBD : B ≠ D := by
    intro e
    obtain ⟨es, clk, h1, _⟩ := h.map
    obtain ⟨C, h2, _⟩ := h.head
    rw [e, h2] at h1
    cases h1
  refine ⟨?_, h.hown, ?_, h.mown, by rw [hb]; exact h.blen, ?_, ?_, h.nodup, h.ne, h.net, h.neb⟩
  · obtain ⟨C, h1, h2⟩ := h.head
    refine ⟨C.setIfInBounds j v, ?_, ?_⟩
    · simp only [World.setCell, Array.getElem?_modify, h1]; simp
    · rw [Array.toList_setIfInBounds, h2, hh]
  · unfold bankL
    rw [hb]
    exact h.map.of_block (Below.heap_setCell _ _ _ _ hBD)
  · intro k p b hp hbk
    rw [hb] at hp
    obtain ⟨⟨C, h1, h2⟩, h3⟩ := h.bank k p b hp hbk
    refine ⟨⟨C, (Below.heap_setCell _ _ _ _ ?_).trans h1, h2⟩, h3⟩
    intro e
    exact h.ne (by have := List.mem_of_getElem? hbk; rw [show b = D from e] at this; exact this)
  · rw [ht]
    have hrow := h.tones
    exact ⟨ownsRow_of_block hrow.row fun b e => Below.heap_setCell _ _ _ _ (fun e2 => h.net (by rw [e]; exact congrArg some e2)), hrow.own⟩
theorem head_setRam (B : Nat) (M : MemS) (tv : Value) (hm : MemOk M) (k : Nat) (hk : k < 16384) (x : Int) : (headC B M tv).set (1 + k) (.int .u8 x) = headC B { M with ram := M.ram.set k x } tv := by
  unfold headC
  rw [List.append_assoc, List.append_assoc, List.set_append_right _ _ (by simp), List.set_append_left _ _ (by simp [u8s_length, hm.ram, hk])]
  simp [u8s, List.map_set]
theorem head_setScreen (B : Nat) (M : MemS) (tv : Value) (hm : MemOk M) (k : Nat) (hk : k < 3072) (x : Int) : (headC B M tv).set (16385 + k) (.int .u8 x) = headC B { M with screen := M.screen.set k x } tv := by
  unfold headC
  rw [List.append_assoc, List.set_append_right _ _ (by simp [u8s_length, hm.ram]), List.set_append_left _ _ (by simp [u8s_length, hm.ram, hm.screen, hk])]
  have e : 16385 + k - ([Value.map (some B)] ++ u8s M.ram).length = k := by simp [u8s_length, hm.ram]
  rw [e]
  simp [u8s, List.map_set]
theorem head_setTail (B : Nat) (M : MemS) (tv : Value) (hm : MemOk M) (k : Nat) (v : Value) : (headC B M tv).set (19457 + k) v = [.map (some B)] ++ u8s M.ram ++ u8s M.screen ++ ([.int .u8 M.chosen, .int .u8 M.pad, .int .u8 M.volume, .int .u16 M.pitch, .int .u16 M.time, .int .i64 M.cycle, tv] : List Value).set k v := by
  unfold headC
  rw [List.set_append_right _ _ (by simp [u8s_length, hm.ram, hm.screen])]
  have e : 19457 + k - ([Value.map (some B)] ++ u8s M.ram ++ u8s M.screen).length = k := by simp [u8s_length, hm.ram, hm.screen]
  rw [e]
theorem store_ram (G : Nat → Nat) (i D : Nat) (M : MemS) (hm : MemOk M) (k : Nat) (hk : k < 16384) (x : Int) (w : World) (hp : PM w G i D M) :
    Calls Tryz.prog 29 #[.pointer (some ⟨D, 0, none⟩), .int .u16 (32768 + (k : Int)), .int .u8 x] w fun e w' => e = .returned (.tuple #[]) ∧ Adv (fun o => o = i) w G w' G ∧ PM w' G i D { M with ram := M.ram.set k x } := by
  obtain ⟨B, bs, tv, hp⟩ := hp
  have b1 : decide (32768 + (k : Int) < 16384) = false := by simp; omega
  have b2 : decide (32768 + (k : Int) < 32768) = false := by simp; omega
  have b3 : decide (32768 + (k : Int) < 49152) = true := by simp; omega
  have c1 := hp.ramc hm k hk
  have f1 := hp.free
  have HS := Lib.hid (And.intro ((Adv.refl (fun o => o = i) w G).setCell (p := ⟨D, 1 + k, none⟩) hp.hown (.int .u8 x)) (show PM (w.setCell ⟨D, 1 + k, none⟩ (.int .u8 x)) G i D _ from ⟨B, bs, tv, hp.setHead (1 + k) (.int .u8 x) (head_setRam B M tv hm k hk x) rfl rfl⟩))
  clear hp
  go_enter Tryz.func29, Tryz.ntmps29
  go_wp2
  refine bodyPost_ret (results_none rfl _ _ _) rfl ?_
  exact ⟨rfl, HS.out.1, HS.out.2⟩
theorem store_screen (G : Nat → Nat) (i D : Nat) (M : MemS) (hm : MemOk M) (k : Nat) (hk : k < 3072) (x : Int) (w : World) (hp : PM w G i D M) :
    Calls Tryz.prog 29 #[.pointer (some ⟨D, 0, none⟩), .int .u16 (49152 + (k : Int)), .int .u8 x] w fun e w' => e = .returned (.tuple #[]) ∧ Adv (fun o => o = i) w G w' G ∧ PM w' G i D { M with screen := M.screen.set k x } := by
  obtain ⟨B, bs, tv, hp⟩ := hp
  have b1 : decide (49152 + (k : Int) < 16384) = false := by simp; omega
  have b2 : decide (49152 + (k : Int) < 32768) = false := by simp; omega
  have b3 : decide (49152 + (k : Int) < 49152) = false := by simp; omega
  have b4 : decide (49152 + (k : Int) < 52224) = true := by simp; omega
  have c1 := hp.screenc hm k hk
  have f1 := hp.free
  have HS := Lib.hid (And.intro ((Adv.refl (fun o => o = i) w G).setCell (p := ⟨D, 16385 + k, none⟩) hp.hown (.int .u8 x)) (show PM (w.setCell ⟨D, 16385 + k, none⟩ (.int .u8 x)) G i D _ from ⟨B, bs, tv, hp.setHead (16385 + k) (.int .u8 x) (head_setScreen B M tv hm k hk x) rfl rfl⟩))
  clear hp
  go_enter Tryz.func29, Tryz.ntmps29
  go_wp2
  refine bodyPost_ret (results_none rfl _ _ _) rfl ?_
  exact ⟨rfl, HS.out.1, HS.out.2⟩
theorem store_low (D : Nat) (a x : Int) (h : a < 16384) (w : World) : Calls Tryz.prog 29 #[.pointer (some ⟨D, 0, none⟩), .int .u16 a, .int .u8 x] w fun e w' => e = .returned (.tuple #[]) ∧ w = w' := by
  have b1 : decide (a < 16384) = true := by simpa using h
  go_enter Tryz.func29, Tryz.ntmps29
  go_wp2
  refine bodyPost_ret (results_none rfl _ _ _) rfl ?_
  exact ⟨rfl, rfl⟩
theorem store_none (D : Nat) (a x : Int) (h1 : 52224 ≤ a) (h9 : a < 65536) (n1 : a ≠ 65280) (n3 : a ≠ 65284) (n4 : a ≠ 65285) (n5 : a ≠ 65286) (w : World) :
    Calls Tryz.prog 29 #[.pointer (some ⟨D, 0, none⟩), .int .u16 a, .int .u8 x] w fun e w' => e = .returned (.tuple #[]) ∧ w = w' := by
  have b1 : decide (a < 16384) = false := by simp; omega
  have b2 : decide (a < 32768) = false := by simp; omega
  have b3 : decide (a < 49152) = false := by simp; omega
  have b4 : decide (a < 52224) = false := by simp; omega
  have d1 : (a == 65280) = false := by simpa using n1
  have d3 : (a == 65284) = false := by simpa using n3
  have d4 : (a == 65285) = false := by simpa using n4
  have d5 : (a == 65286) = false := by simpa using n5
  have h0 : 0 ≤ a := by omega
  go_enter Tryz.func29, Tryz.ntmps29
  go_wp2
  go_end0
  exact ⟨rfl, rfl⟩
theorem store_65280 (G : Nat → Nat) (i D : Nat) (M : MemS) (hm : MemOk M) (x : Int) (w : World) (hp : PM w G i D M) :
    Calls Tryz.prog 29 #[.pointer (some ⟨D, 0, none⟩), .int .u16 65280, .int .u8 x] w fun e w' => e = .returned (.tuple #[]) ∧ Adv (fun o => o = i) w G w' G ∧ PM w' G i D { M with chosen := x.tmod 16 } := by
  obtain ⟨B, bs, tv, hp⟩ := hp
  obtain ⟨c0, c1, c2, c3, c4, -, -⟩ := hp.ports hm
  have f1 := hp.free
  have HS := Lib.hid (And.intro ((Adv.refl (fun o => o = i) w G).setCell (p := ⟨D, 19457, none⟩) hp.hown (.int .u8 (x.tmod 16))) (show PM (w.setCell ⟨D, 19457, none⟩ (.int .u8 (x.tmod 16))) G i D { M with chosen := x.tmod 16 } from ⟨B, bs, tv, hp.setHead 19457 _ (head_setTail B M tv hm 0 _) rfl rfl⟩))
  clear hp
  go_enter Tryz.func29, Tryz.ntmps29
  go_wp2
  go_end0
  exact ⟨rfl, HS.out.1, HS.out.2⟩
theorem store_65284 (G : Nat → Nat) (i D : Nat) (M : MemS) (hm : MemOk M) (x : Int) (w : World) (hp : PM w G i D M) :
    Calls Tryz.prog 29 #[.pointer (some ⟨D, 0, none⟩), .int .u16 65284, .int .u8 x] w fun e w' => e = .returned (.tuple #[]) ∧ Adv (fun o => o = i) w G w' G ∧ PM w' G i D { M with pitch := bits BinOp.or .u16 (bits BinOp.and .u16 M.pitch 65280) (IntKind.wrap .u16 x) } := by
  obtain ⟨B, bs, tv, hp⟩ := hp
  obtain ⟨c0, c1, c2, c3, c4, -, -⟩ := hp.ports hm
  have f1 := hp.free
  have HS := Lib.hid (And.intro ((Adv.refl (fun o => o = i) w G).setCell (p := ⟨D, 19460, none⟩) hp.hown (.int .u16 (bits BinOp.or .u16 (bits BinOp.and .u16 M.pitch 65280) (IntKind.wrap .u16 x)))) (show PM (w.setCell ⟨D, 19460, none⟩ (.int .u16 (bits BinOp.or .u16 (bits BinOp.and .u16 M.pitch 65280) (IntKind.wrap .u16 x)))) G i D { M with pitch := bits BinOp.or .u16 (bits BinOp.and .u16 M.pitch 65280) (IntKind.wrap .u16 x) } from ⟨B, bs, tv, hp.setHead 19460 _ (head_setTail B M tv hm 3 _) rfl rfl⟩))
  clear hp
  go_enter Tryz.func29, Tryz.ntmps29
  go_wp2
  go_end0
  exact ⟨rfl, HS.out.1, HS.out.2⟩
theorem store_65285 (G : Nat → Nat) (i D : Nat) (M : MemS) (hm : MemOk M) (x : Int) (w : World) (hp : PM w G i D M) :
    Calls Tryz.prog 29 #[.pointer (some ⟨D, 0, none⟩), .int .u16 65285, .int .u8 x] w fun e w' => e = .returned (.tuple #[]) ∧ Adv (fun o => o = i) w G w' G ∧ PM w' G i D { M with pitch := bits BinOp.or .u16 (bits BinOp.and .u16 M.pitch 255) (IntKind.wrap .u16 (IntKind.wrap .u16 x * 256)) } := by
  obtain ⟨B, bs, tv, hp⟩ := hp
  obtain ⟨c0, c1, c2, c3, c4, -, -⟩ := hp.ports hm
  have f1 := hp.free
  have HS := Lib.hid (And.intro ((Adv.refl (fun o => o = i) w G).setCell (p := ⟨D, 19460, none⟩) hp.hown (.int .u16 (bits BinOp.or .u16 (bits BinOp.and .u16 M.pitch 255) (IntKind.wrap .u16 (IntKind.wrap .u16 x * 256))))) (show PM (w.setCell ⟨D, 19460, none⟩ (.int .u16 (bits BinOp.or .u16 (bits BinOp.and .u16 M.pitch 255) (IntKind.wrap .u16 (IntKind.wrap .u16 x * 256))))) G i D { M with pitch := bits BinOp.or .u16 (bits BinOp.and .u16 M.pitch 255) (IntKind.wrap .u16 (IntKind.wrap .u16 x * 256)) } from ⟨B, bs, tv, hp.setHead 19460 _ (head_setTail B M tv hm 3 _) rfl rfl⟩))
  clear hp
  go_enter Tryz.func29, Tryz.ntmps29
  go_wp2
  go_end0
  exact ⟨rfl, HS.out.1, HS.out.2⟩
end Go.Proofs.YtdnalhjdmlkbmaaGreatDoor
namespace Go.Proofs.YtdnalhjdmlkbmaaGreatDoor
open Go.RowKit

/-- The first bank of a number, with one byte set. -/
def bankSet : List (Int × List Int) → Int → Nat → Int → List (Int × List Int)
  | [], _, _, _ => []
  | p :: l, c, k, x => if p.1 = c then (p.1, p.2.set k x) :: l else p :: bankSet l c k x
theorem bankSet_none : ∀ (l : List (Int × List Int)) (c : Int) (k : Nat) (x : Int), bankF l c = none → bankSet l c k x = l
  | [], _, _, _, _ => rfl
  | p :: l, c, k, x, h => by
    by_cases e : p.1 = c
    · simp [bankF, e] at h
    · simp only [bankF, if_neg e] at h
      simp only [bankSet, if_neg e, bankSet_none l c k x h]
/-- The bank of a number, its place, and what setting a byte of it gives. -/
theorem zip_set : ∀ (l : List (Int × List Int)) (bs : List Nat), bs.length = l.length → ∀ (c : Int) (q : Nat) (x : Int),
    (bankF l c = none ∧ valI (List.zipWith (fun (p : Int × List Int) (b : Nat) => (p.1, Value.pointer (some ⟨b, 0, none⟩))) l bs) c = none) ∨
    ∃ (k : Nat) (p : Int × List Int) (b : Nat), l[k]? = some p ∧ bs[k]? = some b ∧ bankSet l c q x = l.set k (p.1, p.2.set q x) ∧ valI (List.zipWith (fun (p : Int × List Int) (b : Nat) => (p.1, Value.pointer (some ⟨b, 0, none⟩))) l bs) c = some (.pointer (some ⟨b, 0, none⟩))
  | [], _, _, _, _, _ => .inl ⟨rfl, rfl⟩
  | _ :: _, [], h, _, _, _ => by simp at h
  | p :: l, b :: bs, h, c, q, x => by
    by_cases e : p.1 = c
    · exact .inr ⟨0, p, b, rfl, rfl, by simp [bankSet, e], by simp [valI, e]⟩
    · rcases zip_set l bs (by simpa using h) c q x with ⟨h1, h2⟩ | ⟨k, r, d, h1, h2, h4, h5⟩
      · exact .inl ⟨by simp [bankF, e, h1], by simp only [List.zipWith_cons_cons, valI, if_neg e]; exact h2⟩
      · exact .inr ⟨k + 1, r, d, by rw [List.getElem?_cons_succ]; exact h1, by rw [List.getElem?_cons_succ]; exact h2, by simp only [bankSet, if_neg e, h4, List.set_cons_succ], by simp only [List.zipWith_cons_cons, valI, if_neg e]; exact h5⟩
theorem zip_same (f : Int → Nat → Int × Value) : ∀ (l : List (Int × List Int)) (bs : List Nat) (k : Nat) (p : Int × List Int) (y : List Int), l[k]? = some p →
    List.zipWith (fun (p : Int × List Int) (b : Nat) => f p.1 b) (l.set k (p.1, y)) bs = List.zipWith (fun (p : Int × List Int) (b : Nat) => f p.1 b) l bs
  | [], _, _, _, _, h => by simp at h
  | _ :: _, [], _, _, _, _ => by simp
  | r :: l, b :: bs, 0, p, y, h => by
    have e : r = p := by simpa using h
    subst e
    simp
  | r :: l, b :: bs, k + 1, p, y, h => by
    rw [List.getElem?_cons_succ] at h
    simp only [List.set_cons_succ, List.zipWith_cons_cons, zip_same f l bs k p y h]
theorem PMx.setBank {w : World} {G : Nat → Nat} {i D B : Nat} {bs : List Nat} {tv : Value} {M : MemS} (h : PMx w G i D B bs tv M) (j : Nat) (p : Int × List Int) (b : Nat) (hp : M.banks[j]? = some p) (hb : bs[j]? = some b) (q : Nat) (x : Int) :
    PMx (w.setCell ⟨b, q, none⟩ (.int .u8 x)) G i D B bs tv { M with banks := M.banks.set j (p.1, p.2.set q x) } := by
  obtain ⟨⟨C, hC, hCl⟩, hGb⟩ := h.bank j p b hp hb
  have hmem : b ∈ bs := List.mem_of_getElem? hb
  have hBb : B ≠ b := by
    intro e
    obtain ⟨es, clk, h1, _⟩ := h.map
    rw [e, hC] at h1
    cases h1
  have hDb : D ≠ b := fun e => h.ne (by rw [e]; exact hmem)
  refine ⟨?_, h.hown, ?_, h.mown, by simpa using h.blen, ?_, ?_, h.nodup, h.ne, h.net, h.neb⟩
  · obtain ⟨C2, h1, h2⟩ := h.head
    exact ⟨C2, (Below.heap_setCell _ _ _ _ hDb).trans h1, h2⟩
  · unfold bankL
    rw [zip_same (fun c b => (c, Value.pointer (some ⟨b, 0, none⟩))) M.banks bs j p (p.2.set q x) hp]
    exact h.map.of_block (Below.heap_setCell _ _ _ _ hBb)
  · intro k r d hr hd
    by_cases e : k = j
    · subst e
      obtain rfl : b = d := Option.some.inj (hb.symm.trans hd)
      have hr2 : r = (p.1, p.2.set q x) := by
        rw [List.getElem?_set_self (Array.getElem?_eq_some_iff.1 (show M.banks.toArray[k]? = _ from by simpa using hp)).1] at hr
        exact (Option.some.inj hr).symm
      subst hr2
      refine ⟨⟨C.setIfInBounds q (.int .u8 x), ?_, ?_⟩, hGb⟩
      · simp only [World.setCell, Array.getElem?_modify, hC]; simp
      · rw [Array.toList_setIfInBounds, hCl]; simp [u8s, List.map_set]
    · rw [List.getElem?_set_ne (Ne.symm e)] at hr
      obtain ⟨⟨C2, h1, h2⟩, h3⟩ := h.bank k r d hr hd
      refine ⟨⟨C2, (Below.heap_setCell _ _ _ _ ?_).trans h1, h2⟩, h3⟩
      intro e2
      have e3 : d = b := e2
      subst e3
      obtain ⟨hk1, hk2⟩ := List.getElem?_eq_some_iff.1 hd
      obtain ⟨hj1, hj2⟩ := List.getElem?_eq_some_iff.1 hb
      exact e ((List.getElem_inj h.nodup).1 (hk2.trans hj2.symm))
  · have hrow := h.tones
    exact ⟨ownsRow_of_block hrow.row fun d e => Below.heap_setCell _ _ _ _ (fun e2 => h.neb b hmem (by rw [e]; exact congrArg some e2)), hrow.own⟩
set_option maxRecDepth 100000 in
theorem store_window (G : Nat → Nat) (i D : Nat) (M : MemS) (hm : MemOk M) (k : Nat) (hk : k < 16384) (x : Int) (w : World) (hp : PM w G i D M) :
    Calls Tryz.prog 29 #[.pointer (some ⟨D, 0, none⟩), .int .u16 (16384 + (k : Int)), .int .u8 x] w fun e w' => e = .returned (.tuple #[]) ∧ Adv (fun o => o = i) w G w' G ∧ PM w' G i D { M with banks := bankSet M.banks M.chosen k x } := by
  obtain ⟨B, bs, tv, hp⟩ := hp
  have b1 : decide (16384 + (k : Int) < 16384) = false := by simp; omega
  have b2 : decide (16384 + (k : Int) < 32768) = true := by simp; omega
  have c0 := hp.mapc
  obtain ⟨c3, -⟩ := hp.ports hm
  have hpd := hp.adv ((Adv.refl (fun _ => False) w G).drew) id
  rcases zip_set M.banks bs hp.blen M.chosen k x with ⟨h1, h2⟩ | ⟨j, p, b, h1, h2, h4, h5⟩
  · rw [bankSet_none _ _ _ _ h1]
    have hl1 : (Instr.lookup 166 (.map (some B)) (.int .u8 M.chosen) true).run Tryz.prog w.drew = .ok (.tuple #[.pointer none, .bool false]) w.drew :=
      lookup_I_no (w := w.drew) (z := .pointer none) Tryz.underlying166 Tryz.underlying5 (by kernel_rfl) hpd.map M.chosen h2
    have HS := Lib.hid (And.intro ((Adv.refl (fun o => o = i) w G).drew) (show PM w.drew G i D M from ⟨B, bs, tv, hpd⟩))
    clear hp hpd h1 h2
    go_enter Tryz.func29, Tryz.ntmps29
    go_upto_region 3 with fail
    go_region
    go_wp2
    refine bodyPost_ret (results_none rfl _ _ _) rfl ?_
    exact ⟨rfl, HS.out.1, HS.out.2⟩
  · rw [h4]
    have hl1 : (Instr.lookup 166 (.map (some B)) (.int .u8 M.chosen) true).run Tryz.prog w.drew = .ok (.tuple #[.pointer (some ⟨b, 0, none⟩), .bool true]) w.drew :=
      lookup_I (w := w.drew) Tryz.underlying166 Tryz.underlying5 hpd.map M.chosen _ h5
    obtain ⟨⟨C, hC, hCl⟩, hb⟩ := hp.bank j p b h1 h2
    have hlen : p.2.length = 16384 := hm.banks p (List.mem_of_getElem? h1)
    have cb : w.cell? ⟨b, k, none⟩ = some (.int .u8 (p.2.getD k 0)) := block_cell hC k _ (by
      rw [← Array.getElem?_toList, hCl]
      exact u8s_at _ k _ (by rw [List.getD_eq_getElem?_getD]; simp [hlen, hk]))
    have fb := block_free hC
    have HS := Lib.hid (And.intro (((Adv.refl (fun o => o = i) w G).drew).setCell (p := ⟨b, k, none⟩) hb (.int .u8 x)) (show PM (w.drew.setCell ⟨b, k, none⟩ (.int .u8 x)) G i D _ from ⟨B, bs, tv, hpd.setBank j p b h1 h2 k x⟩))
    clear hp hpd h1 h2 h4 h5 hC hCl hb
    go_enter Tryz.func29, Tryz.ntmps29
    go_upto_region 3 with fail
    go_region
    go_wp2
    refine bodyPost_ret (results_none rfl _ _ _) rfl ?_
    exact ⟨rfl, HS.out.1, HS.out.2⟩
end Go.Proofs.YtdnalhjdmlkbmaaGreatDoor
namespace Go.Proofs.YtdnalhjdmlkbmaaGreatDoor
open Go.RowKit

/-- The labels under which the tones' block alone may turn. -/
def toneG (tv : Value) (b : Nat) : Nat := if tv.ownBlock = some b then 1 else 0
theorem PMx.played {w w' : World} {G G3 : Nat → Nat} {i D B : Nat} {bs : List Nat} {tv tv' : Value} {M : MemS} (h : PMx w G i D B bs tv M) (hm : MemOk M) (t : Int × Int × Int) (ha : Adv (fun o => o = 1) w (toneG tv) w' G3)
    (hr : Row 152 3 w' G3 1 tv' (M.tones.length + 1) (tonesC (M.tones ++ [t]))) :
    Adv (fun o => o = i) w G (w'.setCell ⟨D, 19463, none⟩ tv') (fun b => if b < w.heap.size then G b else i) ∧
    PMx (w'.setCell ⟨D, 19463, none⟩ tv') (fun b => if b < w.heap.size then G b else i) i D B bs tv' { M with tones := M.tones ++ [t] } := by
  have hDl := h.lt
  have hBl := h.map.lt
  have hrow := h.tones
  have hBD : B ≠ D := by
    intro e
    obtain ⟨es, clk, h1, _⟩ := h.map
    obtain ⟨C, h2, _⟩ := h.head
    rw [e, h2] at h1
    cases h1
  have gD : toneG tv D = 0 := if_neg h.net
  have gB : toneG tv B = 0 := if_neg (fun e => by
    obtain ⟨es, clk, h1, _⟩ := h.map
    rcases hrow.row.2 with ⟨e2, _⟩ | ⟨g, cap, cur, e2, _, hg, _⟩
    · rw [e2] at e; cases e
    · rw [e2] at e
      have : g = B := by simpa [Value.ownBlock] using e
      rw [this, h1] at hg
      cases hg)
  have gb : ∀ b ∈ bs, toneG tv b = 0 := fun b hb => if_neg (h.neb b hb)
  have kD : w'.heap[D]? = w.heap[D]? := ha.keep D hDl (by show ¬ (toneG tv D = 1); rw [gD]; decide)
  have kB : w'.heap[B]? = w.heap[B]? := ha.keep B hBl (by show ¬ (toneG tv B = 1); rw [gB]; decide)
  have nD : tv'.ownBlock ≠ some D := fun e => by
    have h1 := hr.own D e
    rw [ha.own D hDl, gD] at h1
    cases h1
  refine ⟨⟨ha.os, ha.tape, ha.output, by simpa using ha.size, fun b hb => if_pos hb, fun b hb hs => ?_⟩, ⟨?_, ?_, ?_, ?_, h.blen, ?_, ?_, h.nodup, h.ne, nD, ?_⟩⟩
  · have hbD : b ≠ D := fun e => hs (by rw [e]; exact h.hown)
    refine (Below.heap_setCell _ _ _ _ hbD).trans (ha.keep b hb ?_)
    show ¬ (toneG tv b = 1)
    unfold toneG
    split
    · rename_i e
      exact fun _ => hs (hrow.own b e)
    · decide
  · obtain ⟨C, h1, h2⟩ := h.head
    refine ⟨C.setIfInBounds 19463 tv', ?_, ?_⟩
    · simp only [World.setCell, Array.getElem?_modify, kD, h1]; simp
    · rw [Array.toList_setIfInBounds, h2]
      exact head_setTail B M tv hm 6 tv'
  · show (if D < w.heap.size then G D else i) = i
    rw [if_pos hDl]; exact h.hown
  · exact h.map.of_block ((Below.heap_setCell _ _ _ _ hBD).trans kB)
  · show (if B < w.heap.size then G B else i) = i
    rw [if_pos hBl]; exact h.mown
  · intro k p b hp hb
    obtain ⟨⟨C, h1, h2⟩, h3⟩ := h.bank k p b hp hb
    have hmem := List.mem_of_getElem? hb
    have hbl : b < w.heap.size := (Array.getElem?_eq_some_iff.1 h1).1
    have hbD : b ≠ D := fun e => h.ne (by rw [← e]; exact hmem)
    refine ⟨⟨C, (Below.heap_setCell _ _ _ _ hbD).trans ((ha.keep b hbl (by show ¬ (toneG tv b = 1); rw [gb b hmem]; decide)).trans h1), h2⟩, ?_⟩
    show (if b < w.heap.size then G b else i) = i
    rw [if_pos hbl]; exact h3
  · refine ⟨?_, fun b e => ?_⟩
    · have := ownsRow_of_block hr.row (w' := w'.setCell ⟨D, 19463, none⟩ tv') fun b e => Below.heap_setCell _ _ _ _ (fun e2 => nD (by rw [e]; exact congrArg some e2))
      simpa using this
    · show (if b < w.heap.size then G b else i) = i
      by_cases hb : b < w.heap.size
      · rw [if_pos hb]
        have h1 := hr.own b e
        rw [ha.own b hb] at h1
        unfold toneG at h1
        split at h1
        · rename_i e2; exact hrow.own b e2
        · cases h1
      · rw [if_neg hb]
  · intro b hb e
    have hbl : b < w.heap.size := by
      obtain ⟨k, hk⟩ := List.getElem?_of_mem hb
      have hkl := (List.getElem?_eq_some_iff.1 hk).1
      obtain ⟨⟨C, h1, _⟩, _⟩ := h.bank k (M.banks[k]'(by rw [← h.blen]; exact hkl)) b (by simp) hk
      exact (Array.getElem?_eq_some_iff.1 h1).1
    have h1 := hr.own b e
    rw [ha.own b hbl, gb b hb] at h1
    cases h1
theorem Tryz.info152 : (Tryz.prog.info? 152).map (fun i => (i.zero, i.size, i.bytes)) = some (some (.agg #[.int .i64 0, .int .u16 0, .int .u8 0]), 3, 16) := by kernel_rfl
set_option maxRecDepth 100000 in
set_option maxHeartbeats 1000000 in
theorem store_65286 (G : Nat → Nat) (i D : Nat) (M : MemS) (hm : MemOk M) (hn : M.tones.length ≤ 1000000) (x : Int) (w : World) (hp : PM w G i D M) :
    Calls Tryz.prog 29 #[.pointer (some ⟨D, 0, none⟩), .int .u16 65286, .int .u8 x] w fun e w' => e = .returned (.tuple #[]) ∧ ∃ G', Adv (fun o => o = i) w G w' G' ∧ PM w' G' i D { M with volume := x, tones := M.tones ++ [(M.cycle, M.pitch, x)] } := by
  obtain ⟨B, bs, tv, hp⟩ := hp
  obtain ⟨i0, hi, hz0, hz1, hz2⟩ := info_parts Tryz.info152
  obtain ⟨-, -, c2, -⟩ := hp.ports hm
  have f1 := hp.free
  have h1 : PMx (w.setCell ⟨D, 19459, none⟩ (.int .u8 x)) G i D B bs tv { M with volume := x } := hp.setHead 19459 _ (head_setTail B M tv hm 2 _) rfl rfl
  have hm1 : MemOk { M with volume := x } := ⟨hm.ram, hm.screen, hm.banks⟩
  obtain ⟨va, vc, rfl, hvc, hnc, -⟩ := hp.tones.slice
  obtain ⟨-, -, -, d3, -, d5, d6⟩ := h1.ports hm1
  have g1 := h1.free
  have ha1 := (Adv.refl (fun o => o = i) w G).setCell (p := ⟨D, 19459, none⟩) hp.hown (.int .u8 x)
  have hrow : Row 152 3 ((w.setCell ⟨D, 19459, none⟩ (.int .u8 x)).drew.alloc (.cells #[.int .i64 M.cycle, .int .u16 M.pitch, .int .u8 x] 152)) (own1 (w.setCell ⟨D, 19459, none⟩ (.int .u8 x)).drew (toneG (.slice va M.tones.length vc)) 0) 1 (.slice va M.tones.length vc) M.tones.length (tonesC M.tones) :=
    (Row.adv (S := fun _ => False) (G := toneG (.slice va M.tones.length vc)) ⟨h1.tones.row, fun b e => if_pos e⟩ (((Adv.refl (fun _ => False) _ _).drew).alloc _ 0) id)
  have HROW := Lib.hid hrow
  have H1 := Lib.hid (And.intro h1 (And.intro hm1 ha1))
  have hone : ∀ u ∈ [Value.int .i64 M.cycle, .int .u16 M.pitch, .int .u8 x], u.oneCell' = true := by
    intro u hu; simp at hu; rcases hu with rfl | rfl | rfl <;> rfl
  have hce : ∀ (j : Nat) (u : Value), [Value.int .i64 M.cycle, .int .u16 M.pitch, .int .u8 x][j]? = some u → (((w.setCell ⟨D, 19459, none⟩ (.int .u8 x)).alloc (.cells #[.int .i64 M.cycle, .int .u16 M.pitch, .int .u8 x] 152)).drew).cell? ((⟨w.heap.size, 0, none⟩ : Addr).add j) = some u := fun j u h => by
    have := new_cells (w.setCell ⟨D, 19459, none⟩ (.int .u8 x)) [Value.int .i64 M.cycle, .int .u16 M.pitch, .int .u8 x] 152 j u h
    rw [World.size_setCell] at this
    exact this
  have HCE := Lib.hid hce
  have hDl := h1.lt
  have hnet := h1.net
  obtain ⟨C, hC, hCl⟩ := h1.head
  have hkeep : ∀ (w2 : World) (G2 : Nat → Nat), Adv (fun o => o = 1) ((w.setCell ⟨D, 19459, none⟩ (.int .u8 x)).drew.alloc (.cells #[.int .i64 M.cycle, .int .u16 M.pitch, .int .u8 x] 152)) (own1 (w.setCell ⟨D, 19459, none⟩ (.int .u8 x)).drew (toneG (.slice va M.tones.length vc)) 0) w2 G2 →
      w2.cell? ⟨D, 19463, none⟩ = some (.slice va M.tones.length vc) ∧ w2.frozen? ⟨D, 19463, none⟩ = false := fun w2 G2 h => by
    have hD2 := (h.keep D (Nat.lt_of_lt_of_le hDl (by simp)) (by
      show ¬ (own1 _ _ 0 D = 1)
      unfold own1
      split
      · decide
      · unfold toneG; rw [if_neg hnet]; decide)).trans ((heap_past _ _ D hDl).trans hC)
    exact ⟨block_cell hD2 19463 _ (by rw [← Array.getElem?_toList, hCl]; exact head_tail B _ _ hm1 6), block_free hD2 19463⟩
  have HKP := Lib.hid hkeep
  have hDl0 : D < w.heap.size := by simpa using hDl
  clear hp h1 hm1 ha1 hrow hce hkeep hC hCl hDl hnet
  go_enter Tryz.func29, Tryz.ntmps29
  go_upto_region 19 with fail
  go_region_law (refine step_append_row rfl (.tmp 101) (.tmp 112) 72 rfl 152 i0 (.agg #[.int .i64 0, .int .u16 0, .int .u8 0]) 3 16 Tryz.underlying72 hi hz0 hz1 hz2 rfl (by decide) _ 1 va M.tones.length vc (tonesC M.tones) rfl HROW.out ⟨w.heap.size, 0, none⟩ 1 1 [.int .i64 M.cycle, .int .u16 M.pitch, .int .u8 x] rfl rfl HCE.out hone (by unfold maxLen; omega) (by omega) ?_; intro va2 vc2 w2 G2 h1 h2; obtain ⟨k1, k2⟩ := HKP.out _ _ h2; have HR2 := Lib.hid h1; have HA2 := Lib.hid h2; clear h1 h2)
  all_goals
    go_wp2
    go_end0
    have e : tonesC (M.tones ++ [(M.cycle, M.pitch, x)]) = tonesC M.tones ++ [.int .i64 M.cycle, .int .u16 M.pitch, .int .u8 x] := by simp [tonesC]
    have hpl := H1.out.1.played H1.out.2.1 (M.cycle, M.pitch, x) ((((Adv.refl (fun o => o = 1) _ _).drew).alloc _ 0).trans HA2.out) (by rw [e]; exact HR2.out)
    exact ⟨rfl, _, H1.out.2.2.trans hpl.1, B, bs, _, hpl.2⟩
end Go.Proofs.YtdnalhjdmlkbmaaGreatDoor
namespace Go.Proofs.YtdnalhjdmlkbmaaGreatDoor
open Go.RowKit
/-- Block r is an iterator over the map in block B, which holds l; rest is still to come. -/
def RangeI (q : IntKind) (w : World) (B r : Nat) (l rest : List (Int × Value)) : Prop :=
  ∃ es clk since seen c0, w.heap[B]? = some (.map es clk) ∧ es.toList.map (fun e => (e.key, e.val)) = l.map (fun p => (Value.int q p.1, p.2)) ∧ MapKept.Stamped es clk ∧
    w.heap[r]? = some (.mapIter (some B) since seen c0) ∧ (∀ x ∈ es.toList, x.born < since) ∧ since ≤ c0 ∧ since ≤ clk ∧
    (leftOf es seen).toList.map (fun e => (e.key, e.val)) = rest.map (fun p => (Value.int q p.1, p.2))
section
variable {q : IntKind} {w w' : World} {B r : Nat} {l rest : List (Int × Value)}
theorem RangeI.map (h : RangeI q w B r l rest) : MapI q w B l := by
  obtain ⟨es, clk, since, seen, c0, h1, h2, h3, _⟩ := h
  exact ⟨es, clk, h1, h2, h3⟩
theorem RangeI.lt (h : RangeI q w B r l rest) : r < w.heap.size := by
  obtain ⟨es, clk, since, seen, c0, _, _, _, h4, _⟩ := h
  exact (Array.getElem?_eq_some_iff.1 h4).1
theorem RangeI.ne (h : RangeI q w B r l rest) : r ≠ B := by
  obtain ⟨es, clk, since, seen, c0, h1, _, _, h4, _⟩ := h
  rintro rfl
  rw [h1] at h4; cases h4
theorem RangeI.of_blocks (h : RangeI q w B r l rest) (hb : w'.heap[B]? = w.heap[B]?) (hr : w'.heap[r]? = w.heap[r]?) : RangeI q w' B r l rest := by
  obtain ⟨es, clk, since, seen, c0, h1, h2, h3, h4, h5⟩ := h
  exact ⟨es, clk, since, seen, c0, hb.trans h1, h2, h3, hr.trans h4, h5⟩
theorem RangeI.left_eq (h : RangeI q w B r l rest) : w.rangeLeft B r = rest.length := by
  obtain ⟨es, clk, since, seen, c0, h1, _, _, h4, _, _, _, h5⟩ := h
  have := congrArg List.length h5
  simp only [List.length_map, Array.length_toList] at this
  simp only [World.rangeLeft, h1, h4]
  exact this
theorem RangeI.adv {S : Nat → Prop} {G G' : Nat → Nat} (h : RangeI q w B r l rest) (ha : Adv S w G w' G') (h1 : ¬ S (G B)) (h2 : ¬ S (G r)) : RangeI q w' B r l rest :=
  h.of_blocks (ha.keep B h.map.lt h1) (ha.keep r h.lt h2)
theorem Adv.ofGrown1 {w w' : World} {G : Nat → Nat} {r : Nat} (hg : w.grownBy w' (some r)) {S : Nat → Prop} (hr : S (G r)) : Adv S w G w' (newTo w G 0) :=
  ⟨hg.os, hg.tape, hg.output, hg.size, fun _ hb => newTo_old hb, fun b hb hs => hg.block b hb fun e => by cases e; exact hs hr⟩
/-- Keys stand once. -/
theorem MapI.nodup (h : MapI q w B l) : (l.map (·.1)).Nodup := by
  obtain ⟨es, clk, _, h2, _, _, h3⟩ := h
  have e : es.toList.map (·.key) = (l.map (·.1)).map (Value.int q) := by
    have := congrArg (List.map Prod.fst) h2
    simpa [List.map_map, Function.comp_def] using this
  rw [e] at h3
  exact (List.pairwise_map.1 h3).imp fun {a b} h e => h (congrArg (Value.int q) e)
theorem range_I {P : Program} {t kt e : TypeId} (ht : P.underlying t = some (.map kt e)) (h : MapI q w B l) :
    (Instr.range t (.map (some B))).run P w = .ok (.pointer (some ⟨w.heap.size, 0, none⟩)) (w.alloc ((match w.heap[B]? with | some (.map _ c) => Obj.mapIter (some B) c #[] c | _ => Obj.mapIter none 0 #[] 0))) ∧
    RangeI q (w.alloc ((match w.heap[B]? with | some (.map _ c) => Obj.mapIter (some B) c #[] c | _ => Obj.mapIter none 0 #[] 0))) B w.heap.size l l := by
  have hlt := h.lt
  obtain ⟨es, clk, h1, h2, h3⟩ := h
  simp only [h1]
  refine ⟨run_range_map w t kt e B es clk ht h1, es, clk, clk, #[], clk, (heap_past _ _ _ hlt).trans h1, h2, h3, heap_alloc_new _ _, h3.1, Nat.le_refl _, Nat.le_refl _, ?_⟩
  rw [← h2]
  have hf : es.toList.filter (fun _ => true) = es.toList := List.filter_eq_self.2 fun _ _ => rfl
  simp [leftOf, hf]
theorem left_push (es : Array MapEntry) (seen : Array Nat) (b : Nat) : (leftOf es (seen.push b)).toList = (leftOf es seen).toList.filter (fun x => !(x.born == b)) := by
  unfold leftOf
  simp only [Array.toList_filter, List.filter_filter]
  congr 1
  funext x
  rw [contains_push]
  cases seen.contains x.born <;> cases (x.born == b) <;> rfl
theorem filter_one {e : MapEntry} : ∀ {L : List MapEntry}, (L.map (·.born)).Nodup → e ∈ L → ∃ a b, L = a ++ e :: b ∧ L.filter (fun x => !(x.born == e.born)) = a ++ b
  | [], _, h => by cases h
  | x :: L, hn, h => by
    simp only [List.map_cons, List.nodup_cons] at hn
    by_cases hx : x.born = e.born
    · have he : x = e := by
        rcases List.mem_cons.1 h with h | h
        · exact h.symm
        · exact absurd (List.mem_map.2 ⟨e, h, hx.symm⟩) hn.1
      subst he
      refine ⟨[], L, rfl, ?_⟩
      simp only [List.filter_cons, beq_self_eq_true, Bool.not_true, List.nil_append]
      rw [if_neg (by simp)]
      refine List.filter_eq_self.2 fun y hy => ?_
      have : y.born ≠ x.born := fun e => hn.1 (List.mem_map.2 ⟨y, hy, e⟩)
      simpa using this
    · have hm : e ∈ L := by
        rcases List.mem_cons.1 h with h | h
        · exact absurd (congrArg MapEntry.born h.symm) hx
        · exact h
      obtain ⟨a, b, rfl, hf⟩ := filter_one hn.2 hm
      refine ⟨x :: a, b, rfl, ?_⟩
      rw [List.filter_cons, if_pos (by simpa using hx), hf]; rfl
/-- The step. -/
theorem RangeI.next {P : Program} (h : RangeI q w B r l rest) (ty : TypeId) :
    (rest = [] ∧ (Instr.next (.pointer (some ⟨r, 0, none⟩)) false ty).run P w = .ok (.tuple #[.bool false]) w) ∨
    ∃ pre p post w', rest = pre ++ p :: post ∧ (Instr.next (.pointer (some ⟨r, 0, none⟩)) false ty).run P w = .ok (.tuple #[.bool true, .int q p.1, p.2]) w' ∧
      RangeI q w' B r l (pre ++ post) ∧ w.grownBy w' (some r) ∧ w'.heap.size = w.heap.size ∧ (Instr.entry (.pointer (some ⟨r, 0, none⟩))).run P w' = .ok (.tuple #[.int q p.1, p.2]) w' := by
  have hne := h.ne
  obtain ⟨es, clk, since, seen, c0, hb, hl, hst, hr, hold, hsc, hsk, hleft⟩ := h
  rcases run_next_at (P := P) w ty r B since c0 seen es clk hr hb hold hsc with ⟨h0, hrun⟩ | ⟨e, he, w1, hal, hrun⟩
  · refine .inl ⟨?_, hrun⟩
    have e0 : (leftOf es seen).toList = [] := List.eq_nil_of_length_eq_zero (by simpa using h0)
    rw [e0] at hleft
    cases rest with
    | nil => rfl
    | cons a b => simp at hleft
  · obtain ⟨hem, hes⟩ := mem_left he
    have hnd : ((leftOf es seen).toList.map (·.born)).Nodup := by
      have : (leftOf es seen).toList.Sublist es.toList := by
        unfold leftOf
        rw [Array.toList_filter]; exact List.filter_sublist
      exact (this.map _).nodup hst.2.1
    obtain ⟨a, b, hab, hf⟩ := filter_one hnd he
    have hr1 : w1.heap[r]? = some (.mapIter (some B) since seen c0) := by rcases hal with rfl | rfl <;> exact hr
    have hb1 : w1.heap[B]? = some (.map es clk) := by rcases hal with rfl | rfl <;> exact hb
    have hset := MapKept.heap_set (o' := .mapIter (some B) since (seen.push e.born) clk) hr1
    have hb' : (ChangeMaps.setBlock w1 r (.mapIter (some B) since (seen.push e.born) clk)).heap[B]? = some (.map es clk) := (hset.2 B (fun e1 => hne e1.symm)).trans hb1
    rw [hab, List.map_append, List.map_cons] at hleft
    obtain ⟨pre, r2, hr2, hpre, hr3⟩ := List.map_eq_append_iff.1 hleft.symm
    obtain ⟨p, post, hr4, hp, hpost⟩ := List.map_eq_cons_iff.1 hr3
    subst hr4
    have hpk : e.key = .int q p.1 := (congrArg Prod.fst hp).symm
    have hpv : e.val = p.2 := (congrArg Prod.snd hp).symm
    refine .inr ⟨pre, p, post, _, hr2, by rw [← hpk, ← hpv]; exact hrun, ⟨es, clk, since, seen.push e.born, clk, hb', hl, hst, hset.1, hold, hsk, hsk, ?_⟩, ?_, ?_, ?_⟩
    · rw [left_push, hf, List.map_append, List.map_append, hpre, hpost]
    · rcases hal with rfl | rfl <;> exact ⟨rfl, rfl, rfl, by simp [ChangeMaps.setBlock], fun i _ hi => hset.2 i (fun e1 => hi (by rw [e1]))⟩
    · rcases hal with rfl | rfl <;> simp [ChangeMaps.setBlock]
    · rw [← hpk, ← hpv]
      exact run_entry_at _ r B since seen es clk e hset.1 hb' hem hst.2.1
end
section
variable {P : Program} {w : World} {ops : Array Oper} {rest : List Oper} {o : Oper} {a : Act} {Q : Exit → Act → World → Prop}
theorem wpList_range_I {q : IntKind} (hg : o.guard = none) (m : Operand) (t : TypeId) (hop : o.op = Op.range t m) (kt e : TypeId) (ht : P.underlying t = some (.map kt e)) (B : Nat) (l : List (Int × Value))
    (hm : a.eval m = .map (some B)) (h : MapI q w B l)
    (hK : ∀ ob, RangeI q (w.alloc ob) B w.heap.size l l → wpList P ops Q rest (a.put o.dst (.pointer (some ⟨w.heap.size, 0, none⟩))) (w.alloc ob)) :
    wpList P ops Q (o :: rest) a w := by
  refine wpList_plain hg fun K' hK' => ?_
  obtain ⟨hrun, h2⟩ := range_I (P := P) ht h
  unfold Oper.wp
  simp [execOp, hop, hm, hrun, Result.andThen]
  exact hK' _ _ (hK _ h2)
theorem wpList_next_I {q : IntKind} (hg : o.guard = none) (it : Operand) (hop : o.op = Op.next it false) (B r : Nat) (l re : List (Int × Value)) (hit : a.eval it = .pointer (some ⟨r, 0, none⟩)) (h : RangeI q w B r l re)
    (hDone : re = [] → wpList P ops Q rest (a.put o.dst (.tuple #[.bool false])) w)
    (hMore : ∀ pre p post w', re = pre ++ p :: post → RangeI q w' B r l (pre ++ post) → w.grownBy w' (some r) → w'.heap.size = w.heap.size →
      (Instr.entry (.pointer (some ⟨r, 0, none⟩))).run P w' = .ok (.tuple #[.int q p.1, p.2]) w' → wpList P ops Q rest (a.put o.dst (.tuple #[.bool true, .int q p.1, p.2])) w') :
    wpList P ops Q (o :: rest) a w := by
  refine wpList_plain hg fun K' hK' => ?_
  unfold Oper.wp
  rcases h.next (P := P) o.type with ⟨h0, hrun⟩ | ⟨pre, p, post, w', h1, hrun, h2, h3, h4, h5⟩
  · simp [execOp, hop, hit, hrun, Result.andThen]
    exact hK' _ _ (hDone h0)
  · simp [execOp, hop, hit, hrun, Result.andThen]
    exact hK' _ _ (hMore pre p post w' h1 h2 h3 h4 h5)
end
end Go.Proofs.YtdnalhjdmlkbmaaGreatDoor
namespace Go.Proofs.YtdnalhjdmlkbmaaGreatDoor
open Go.RowKit
section
variable {F : Fence} {n : Nat} {P : Program} {w : World} {ops : Array Oper} {rest : List Oper} {o : Oper} {a : Act} {Q : Exit → Act → World → Prop}
theorem wpListIn_range_I {q : IntKind} (hg : o.guard = none) (m : Operand) (t : TypeId) (hop : o.op = Op.range t m) (kt e : TypeId) (ht : P.underlying t = some (.map kt e)) (B : Nat) (l : List (Int × Value))
    (hm : a.eval m = .map (some B)) (h : MapI q w B l)
    (hK : ∀ ob, RangeI q (w.alloc ob) B w.heap.size l l → wpListIn F n P ops Q rest (a.put o.dst (.pointer (some ⟨w.heap.size, 0, none⟩))) (w.alloc ob)) :
    wpListIn F n P ops Q (o :: rest) a w := by
  refine wpListIn_plain hg fun K' hK' => ?_
  obtain ⟨hrun, h2⟩ := range_I (P := P) ht h
  unfold Oper.wpIn
  refine ⟨by simp [Oper.about, hop], ?_⟩
  rw [Oper.semAt_plain F _ _ (by rw [hop]; intro c hc'; cases hc')]
  simp [execOp, hop, hm, hrun, Result.andThen]
  exact hK' _ _ (hK _ h2)
theorem wpListIn_next_I {q : IntKind} (hg : o.guard = none) (it : Operand) (hop : o.op = Op.next it false) (B r : Nat) (l re : List (Int × Value)) (hit : a.eval it = .pointer (some ⟨r, 0, none⟩)) (h : RangeI q w B r l re)
    (hDone : re = [] → wpListIn F n P ops Q rest (a.put o.dst (.tuple #[.bool false])) w)
    (hMore : ∀ pre p post w', re = pre ++ p :: post → RangeI q w' B r l (pre ++ post) → w.grownBy w' (some r) → w'.heap.size = w.heap.size →
      (Instr.entry (.pointer (some ⟨r, 0, none⟩))).run P w' = .ok (.tuple #[.int q p.1, p.2]) w' → wpListIn F n P ops Q rest (a.put o.dst (.tuple #[.bool true, .int q p.1, p.2])) w') :
    wpListIn F n P ops Q (o :: rest) a w := by
  refine wpListIn_plain hg fun K' hK' => ?_
  unfold Oper.wpIn
  refine ⟨by simp [Oper.about, hop], ?_⟩
  rw [Oper.semAt_plain F _ _ (by rw [hop]; intro c hc'; cases hc')]
  rcases h.next (P := P) o.type with ⟨h0, hrun⟩ | ⟨pre, p, post, w', h1, hrun, h2, h3, h4, h5⟩
  · simp [execOp, hop, hit, hrun, Result.andThen]
    exact hK' _ _ (hDone h0)
  · simp [execOp, hop, hit, hrun, Result.andThen]
    exact hK' _ _ (hMore pre p post w' h1 h2 h3 h4 h5)
end
theorem RangeI.walks {q : IntKind} {w w' : World} {B r : Nat} {l rest : List (Int × Value)} (h : RangeI q w B r l rest) (hk : KeepsWalks w w') : RangeI q w' B r l rest := by
  obtain ⟨es, clk, since, seen, c0, h1, h2, h3, h4, h5⟩ := h
  exact ⟨es, clk, since, seen, c0, hk.same _ _ h1 rfl, h2, h3, hk.same _ _ h4 rfl, h5⟩
theorem RangeI.walk {q : IntKind} {w : World} {B r : Nat} {l rest : List (Int × Value)} (h : RangeI q w B r l rest) : ∃ o : Obj, w.heap[r]? = some o ∧ o.isWalk = true := by
  obtain ⟨es, clk, since, seen, c0, _, _, _, h4, _⟩ := h
  exact ⟨_, h4, rfl⟩
end Go.Proofs.YtdnalhjdmlkbmaaGreatDoor
namespace Go.Proofs.YtdnalhjdmlkbmaaGreatDoor
open Go.RowKit Go.Shelf
attribute [local go_sem] Oper.semAt_some
set_option linter.unusedVariables false
def u8v (x : Int) : Value := .int .u8 x
set_option maxRecDepth 100000 in
set_option maxHeartbeats 1000000 in
/-- The iterator over a map's keys: whatever the caller keeps between its rounds. -/
theorem keys1_in (n : Nat) (hn : 1 ≤ n) (y Bm B : Nat) (l : List (Int × Value)) (J Jx : List Int → World → Prop) (W : World) (hJ : AbidesFrom W.heap.size J) (hm : W.cell? ⟨Bm, 0, none⟩ = some (.map (some B))) (hmap : MapI .u8 W B l)
    (hY : ∀ pre x W1, J pre W1 → pre.length < l.length → YieldAt Fence.wide (n - 1) Tryz.prog y #[u8v x] W1 fun e W' =>
      (e = .returned (.bool true) ∧ J (pre ++ [x]) W' ∧ KeepsWalks W1 W') ∨ (e = .returned (.bool false) ∧ Jx (pre ++ [x]) W'))
    (h0 : J [] W) :
    CallsIn Fence.wide n Tryz.prog 165 #[.func (.yield y) #[] #[], .pointer (some ⟨Bm, 0, none⟩)] W fun e W' => (∃ v, e = .returned v) ∧
      ((∃ xs : List Int, xs.Perm (l.map (·.1)) ∧ J xs W') ∨ (∃ pre, True ∧ Jx pre W')) := by
  have HJ := Lib.hid hJ
  have HY := Lib.hid hY
  clear hJ hY
  refine callsIn_of_wp Tryz.func165 rfl trivial ?_ rfl
  simp only [Tryz.ntmps165, List.size_toArray, List.length_cons, List.length_nil, Nat.reduceAdd, Nat.reduceSub, Array.replicate_succ, Array.replicate_zero, List.push_toArray, List.append_toArray, List.nil_append, List.cons_append]
  gi_wp2_with (first | (gi_at_range; refine wpListIn_range_I (q := .u8) rfl (.tmp 4) 166 rfl 5 188 Tryz.underlying166 B l rfl hmap ?_; intro ob hri) | gi_in)
  have h1 := HJ.out _ _ _ _ h0 (World.grownBy_alloc W ob none) (fun r e => by cases e)
  obtain ⟨W0, hW0⟩ : ∃ v, v = W.alloc ob := ⟨_, rfl⟩
  rw [← hW0] at hri h1 ⊢
  have HRI := Lib.hid hri
  have H1 := Lib.hid h1
  clear hri h1 hW0
  go_frame
  gi_loopw [3] (fun _ wr => ∃ (rz : List (Int × Value)) (ss : List Int), (ss ++ rz.map (·.1)).Perm (l.map (·.1)) ∧ RangeI .u8 wr B W.heap.size l rz ∧ J ss wr) (fun _ wr => wr.rangeLeft B W.heap.size)
  case atStart => exact ⟨l, [], by simp, HRI.out, H1.out⟩
  case round =>
    obtain ⟨rz, ss, hp, hri, hj⟩ := hrel
    have HP := Lib.hid hp
    have HJS := Lib.hid hj
    have HL := Lib.hid hri.left_eq
    have HRR := Lib.hid hri
    clear hp hj hri
    gi_wp2_with (first | (gi_at_next; refine wpListIn_next_I (q := .u8) rfl (.tmp 5) rfl B W.heap.size l rz rfl HRR.out ?_ ?_) | gi_in)
    · intro hz
      subst hz
      gi_wp2
      go_end0
      exact ⟨⟨_, rfl⟩, .inl ⟨ss, by simpa using HP.out, HJS.out⟩⟩
    · intro pre a b post w' hrz hri2 hgrow hsize hentry
      have hJ2 := HJ.out ss wr w' (some W.heap.size) HJS.out hgrow (fun r e => by cases e; exact ⟨Nat.le_refl _, HRR.out.walk⟩)
      have hlen : ss.length < l.length := by
        have := HP.out.length_eq
        rw [hrz] at this
        simp at this
        omega
      obtain ⟨fn, tmps, assign, body, hy, hR⟩ := HY.out ss a w' hJ2 hlen
      have HRZ := Lib.hid hrz
      have HR2 := Lib.hid hri2
      clear hsize hrz hri2 hJ2 hgrow
      unfold u8v at hy
      gi_wp2
      refine hR.mono ?_
      rintro e W3 (⟨rfl, hJ3, hk3⟩ | ⟨rfl, hJx3⟩)
      · have H3 := Lib.hid (And.intro hJ3 (HR2.out.walks hk3))
        clear hJ3 hk3
        gi_wp2
        go_roundw
        case rel =>
          refine ⟨pre ++ post, ss ++ [a], ?_, H3.out.2, H3.out.1⟩
          refine List.Perm.trans ?_ HP.out
          rw [HRZ.out]
          simp only [List.map_append, List.map_cons, List.append_assoc, List.cons_append, List.nil_append]
          exact List.Perm.append_left _ (List.perm_middle.symm)
        case measure =>
          rw [H3.out.2.left_eq, HL.out, HRZ.out]
          simp
      · gi_wp2
        refine bodyPost_ret (results_none rfl _ _ _) rfl ?_
        exact ⟨⟨_, rfl⟩, .inr ⟨ss ++ [a], trivial, hJx3⟩⟩
theorem keys_any (B : Nat) (w : World) : Calls Tryz.prog 129 #[.map (some B)] w fun e w' => e = .returned (.func (.func 165) #[] #[.pointer (some ⟨w.heap.size, 0, none⟩)]) ∧ w' = w.alloc (.cells #[.map (some B)] 166) := by
  go_enter Tryz.func129, Tryz.ntmps129
  go_wp2
  go_ret
  exact ⟨rfl, rfl⟩
/-- The iterator that maps.Keys hands back. -/
theorem keys_stops (n : Nat) (hn : 1 ≤ n) (Bm B : Nat) (l : List (Int × Value)) (w : World) (hBm : Bm < w.heap.size) (hm : w.cell? ⟨Bm, 0, none⟩ = some (.map (some B))) (hmap : MapI .u8 w B l) :
    SeqStopsK Fence.wide n Tryz.prog 165 #[.pointer (some ⟨Bm, 0, none⟩)] (fun x : Int => #[u8v x]) KeepsWalks (fun ys => ys.Perm (l.map (·.1))) (fun _ => True) l.length w := fun y J Jx W hW hJ _ hY h0 =>
  keys1_in n hn y Bm B l J Jx W hJ ((hW.cell (p := ⟨Bm, 0, none⟩) hBm).trans hm) (hmap.of_block (hW.block B hmap.lt)) hY h0
end Go.Proofs.YtdnalhjdmlkbmaaGreatDoor
namespace Go.Proofs.YtdnalhjdmlkbmaaGreatDoor
open Go.RowKit Go.Shelf
attribute [local go_sem] Oper.semAt_some
set_option linter.unusedVariables false
theorem info8 : (Tryz.prog.info? 5).map (fun i => (i.zero, i.size, i.bytes)) = some (some (.int .u8 0), 1, 1) := by kernel_rfl
/-- What has been collected: the keys, in some order, in a row of the call's own. -/
def GotU8 (w : World) (l : List (Int × Value)) (e : Ending) (w' : World) : Prop :=
  ∃ (v : Value) (ss : List Int), e = .returned v ∧ ss.Perm (l.map (·.1)) ∧ w'.ownsRow w.heap.size 5 1 v ss.length (ss.map u8v) ∧ (v = .slice none 0 0 ↔ ss = []) ∧ Below w.heap.size w w'
set_option maxRecDepth 100000 in
set_option maxHeartbeats 2000000 in
theorem appendSeq_in (Bm B : Nat) (l : List (Int × Value)) (hlen : l.length ≤ 1000000) (w : World) (hBm : Bm < w.heap.size) (hm : w.cell? ⟨Bm, 0, none⟩ = some (.map (some B))) (hmap : MapI .u8 w B l) :
    CallsIn Fence.wide 5 Tryz.prog 195 #[.slice none 0 0, .func (.func 165) #[] #[.pointer (some ⟨Bm, 0, none⟩)]] w (GotU8 w l) := by
  obtain ⟨i0, hi, hz0, hz1, hz2⟩ := info_parts info8
  refine callsIn_of_wp_marks Tryz.func195 rfl trivial ?_ rfl
  simp only [Tryz.ntmps195, List.size_toArray, List.length_cons, List.length_nil, Nat.reduceAdd, Nat.reduceSub, Array.replicate_succ, Array.replicate_zero, List.push_toArray, List.append_toArray, List.nil_append, List.cons_append]
  gi_wp2_with (fail)
  have bO := Boxed.new w 30 (.slice none 0 0)
  have hB0 : Below w.heap.size w (w.alloc (.cells #[.slice none 0 0] 30)) := (Below.refl _ w).alloc (Nat.le_refl _) _
  have hm0 : (w.alloc (.cells #[.slice none 0 0] 30)).cell? ⟨Bm, 0, none⟩ = some (.map (some B)) := (hB0.cell (p := ⟨Bm, 0, none⟩) hBm).trans hm
  have hmap0 : MapI .u8 (w.alloc (.cells #[.slice none 0 0] 30)) B l := hmap.of_block (heap_past _ _ _ hmap.lt)
  refine wpIn_rangeFunc_ownG rfl (by omega) (gf := 165) (lb := #[.pointer (some ⟨Bm, 0, none⟩)]) rfl trivial (enters_of Tryz.func165 (by kernel_rfl) rfl)
    (keys_stops 4 (by omega) Bm B l _ (by simp; omega) hm0 hmap0) walksK_t walksK_b (Below.refl _ _) (fun _ => rfl)
    (fun pre W => (∃ v, Boxed W w.heap.size 30 v ∧ W.ownsRow w.heap.size 5 1 v pre.length (pre.map u8v) ∧ (v = .slice none 0 0 ↔ pre = [])) ∧ Below w.heap.size w W)
    (fun _ _ _ => False)
    (OwnFrom.and (Own.from (holdsRow_own w.heap.size w.heap.size 30 5 1 (fun pre => pre.length) (fun pre => pre.map u8v) (fun pre v => v = .slice none 0 0 ↔ pre = [])) _) (ownFrom_below (Nat.le_refl _) (by simp)))
    (fun _ _ _ _ _ hs _ _ => hs)
    ⟨⟨_, bO, World.ownsRow_nil _ _ _ _, by simp⟩, hB0⟩
    (fun x => { tmps := #[.slice none 0 0, .func (.func 165) #[] #[.pointer (some ⟨Bm, 0, none⟩)], .pointer (some ⟨w.heap.size, 0, none⟩), undef, .slice none 0 0, u8v x, .func (.func 165) #[] #[.pointer (some ⟨Bm, 0, none⟩)], u8v x, undef, undef, undef, undef, undef], defers := [] }) ?assign ?body ?done ?stop
  case assign =>
    intro y x W K hK
    gi_wp2
    exact hK
  case body =>
    rintro y pre x W ⟨⟨v, hv, hrow, hnil⟩, hB⟩ hlt
    have hc := hv.cell
    unfold u8v
    gi_wp2_with (gi_at_builtin; refine wpListIn_append_own _ rfl _ _ 30 rfl w.heap.size 5 i0 (.int .u8 0) 1 1 Tryz.underlying30 hi hz0 hz1 hz2 rfl (by decide) _ _ _ rfl (hrow.alloc _) ⟨W.heap.size, 0, none⟩ 1 1 [.int .u8 x] rfl rfl (cell_one_new _ _ _) (by simp [Value.oneCell']) (by unfold maxLen; omega) (by omega) (by have := hB.size; simp; omega) ?_; intro v' w1 hown' hgrow _; obtain ⟨g', cap', rfl⟩ := ownsRow_succ hown'; obtain ⟨hv1, hv2, hr2, hk2, hb2⟩ := hv.appended (by decide) hrow hB.size (Nat.le_refl _) hown' hgrow; have hc1 := hv1.cell; have hf1 := hv1.frozen)
    exact ⟨hk2.from _, hk2.walks, ⟨_, hv2, by rw [List.length_append, List.map_append]; exact hr2, by simp⟩, hB.trans hb2⟩
  case done =>
    rintro D ys W hD hperm ⟨⟨v, hv, hrow, hnil⟩, hB⟩ hK
    have hc := hv.cell
    have HPm := Lib.hid hperm
    have HN := Lib.hid hnil
    clear hperm hnil
    gi_wp2
    refine ⟨by simp, .inl ⟨_, _, rfl, run_takeDeferred hK, ?_⟩⟩
    exact ⟨_, results_tmp rfl _ _ _, v, ys, rfl, HPm.out, ownsRow_putObj hrow _ hK rfl, HN.out, hB.trans (belowK_b (w := w) (Nat.le_refl _) W D _ _ (by simp at hD; omega) hK rfl rfl)⟩
  case stop =>
    rintro D c pre W _ _ h _
    exact h.elim
set_option maxHeartbeats 1000000 in
theorem collect_any (Bm B : Nat) (l : List (Int × Value)) (hlen : l.length ≤ 1000000) (w : World) (hBm : Bm < w.heap.size) (hm : w.cell? ⟨Bm, 0, none⟩ = some (.map (some B))) (hmap : MapI .u8 w B l) :
    Calls Tryz.prog 163 #[.func (.func 165) #[] #[.pointer (some ⟨Bm, 0, none⟩)]] w (GotU8 w l) := by
  have hA := callsIn_wide.1 (appendSeq_in Bm B l hlen w hBm hm hmap)
  go_enter Tryz.func163, Tryz.ntmps163
  go_wp2_with fail
  refine hA.mono ?_
  rintro e w' ⟨v, ss, rfl, h1, h2, h3, h4⟩
  go_wp2_with fail
  go_ret
  exact ⟨v, ss, rfl, h1, h2, h3, h4⟩
end Go.Proofs.YtdnalhjdmlkbmaaGreatDoor
namespace Go.Proofs.YtdnalhjdmlkbmaaGreatDoor
open Go.RowKit
set_option linter.unusedVariables false
theorem nan_any (x : Int) (w : World) : Calls Tryz.prog 221 #[.int .u8 x] w fun e w' => e = .returned (.bool false) ∧ w = w' := by
  go_enter Tryz.func221, Tryz.ntmps221
  go_wp2
  go_ret
  exact ⟨by simp, rfl⟩
theorem less_any (x y : Int) (w : World) : Calls Tryz.prog 211 #[.int .u8 x, .int .u8 y] w fun e w' => e = .returned (.bool (decide (x < y))) ∧ w' = w := by
  go_enter Tryz.func211, Tryz.ntmps211
  go_wp2_with fail
  refine (nan_any x w).mono ?_
  rintro e w' ⟨rfl, rfl⟩
  go_wp2_with fail
  go_ret
  exact ⟨rfl, rfl⟩
def sort2 (a b : Int) : List Int := if b < a then [b, a] else [a, b]
set_option maxRecDepth 100000 in
set_option maxHeartbeats 2000000 in
theorem insertion2 (G : Nat → Nat) (i g c : Nat) (a b : Int) (w : World) (h : Row 5 1 w G i (.slice (some ⟨g, 0, none⟩) 2 c) 2 ([a, b].map u8v)) :
    Calls Tryz.prog 205 #[.slice (some ⟨g, 0, none⟩) 2 c, .int .i64 0, .int .i64 2] w fun e w' => e = .returned (.tuple #[]) ∧ Adv (fun o => o = i) w G w' G ∧ Row 5 1 w' G i (.slice (some ⟨g, 0, none⟩) 2 c) 2 ((sort2 a b).map u8v) := by
  have H := Lib.hid h
  have hw0 : IntKind.i64.wrap 0 = 0 := by decide
  clear h
  go_enter Tryz.func205, Tryz.ntmps205
  go_wp2_with fail
  go_loopw [6] (fun v6 wr => ∃ k : Nat, v6 = .int .i64 k ∧ 1 ≤ k ∧ k ≤ 2 ∧ Adv (fun o => o = i) w G wr G ∧ Row 5 1 wr G i (.slice (some ⟨g, 0, none⟩) 2 c) 2 ((if k = 1 then [a, b] else sort2 a b).map u8v)) (fun v6 _ => 2 - (intOf v6).toNat)
  case atStart => exact ⟨1, rfl, by omega, by omega, Adv.refl _ _ _, by simpa using H.out⟩
  case round =>
    obtain ⟨k, rfl, k1, k2, ha, hr⟩ := hrel
    by_cases hk : k = 1
    · subst hk
      have HA := Lib.hid ha
      have HR := Lib.hid (show Row 5 1 wr G i (.slice (some ⟨g, 0, none⟩) 2 c) 2 ([a, b].map u8v) from by simpa using hr)
      clear ha hr H k1 k2
      go_wp2_with fail
      go_loopw [7] (fun v7 wq => (v7 = .int .i64 1 ∧ Adv (fun o => o = i) w G wq G ∧ Row 5 1 wq G i (.slice (some ⟨g, 0, none⟩) 2 c) 2 ([a, b].map u8v)) ∨ (v7 = .int .i64 0 ∧ b < a ∧ Adv (fun o => o = i) w G wq G ∧ Row 5 1 wq G i (.slice (some ⟨g, 0, none⟩) 2 c) 2 ([b, a].map u8v))) (fun v7 _ => (intOf v7).toNat)
      case atStart => exact .inl ⟨rfl, HA.out, HR.out⟩
      case round =>
        clear HA HR
        rcases hrel with ⟨rfl, ha, hr⟩ | ⟨rfl, hba, ha, hr⟩
        · have HA := Lib.hid ha
          have HR := Lib.hid hr
          obtain ⟨hg, -, hfz, hc⟩ := hr.at (by omega)
          have c0 := hc 0 (.int .u8 a) rfl
          have c1 := hc 1 (.int .u8 b) rfl
          have f0 := hfz 0
          have f1 := hfz 1
          clear ha hr hc hfz
          by_cases hlt : b < a
          · have hd : decide (b < a) = true := by simpa using hlt
            have HLT := Lib.hid hlt
            clear hlt
            go_wp2_with fail
            go_quiet (first | (go_at_call 211; refine Calls.quiet_of_same (less_any _ _ _)))
            go_wp2_with fail
            go_region
            all_goals
              have R1 := HR.out.adv ((Adv.refl (fun _ => False) wr G).drewN (nq + 1)) id
              go_wp2_with fail
              first
                | (have s1 := R1.store 1 (by simp) (.int .u8 a)
                   have s2 := s1.2.store 0 (by simp) (.int .u8 b)
                   have S2 := Lib.hid (And.intro (s1.1.trans s2.1) s2.2)
                   clear s1 s2 R1
                   exact ⟨.inr ⟨rfl, HLT.out, (HA.out.drewN (nq + 1)).trans S2.out.1, S2.out.2⟩, by simp [intOf]⟩)
                | (have s1 := R1.store 0 (by simp) (.int .u8 b)
                   have s2 := s1.2.store 1 (by simp) (.int .u8 a)
                   have S2 := Lib.hid (And.intro (s1.1.trans s2.1) s2.2)
                   clear s1 s2 R1
                   exact ⟨.inr ⟨rfl, HLT.out, (HA.out.drewN (nq + 1)).trans S2.out.1, S2.out.2⟩, by simp [intOf]⟩)
          · have hd : decide (b < a) = false := by simpa using hlt
            have HLT := Lib.hid hlt
            clear hlt
            go_wp2_with fail
            go_quiet (first | (go_at_call 211; refine Calls.quiet_of_same (less_any _ _ _)))
            go_wp2_with fail
            go_roundw
            case rel => exact ⟨2, rfl, by omega, by omega, HA.out.drewN _, by rw [if_neg (by decide), show sort2 a b = [a, b] from if_neg (by have := HLT.out; omega)]; exact HR.out.adv ((Adv.refl (fun _ => False) _ G).drewN _) id⟩
            case measure => simp [intOf]
        · have HA := Lib.hid ha
          have HR := Lib.hid hr
          have HLT := Lib.hid hba
          clear ha hr hba
          go_wp2_with fail
          go_quiet (fail)
          go_wp2_with fail
          go_roundw
          case rel => exact ⟨2, rfl, by omega, by omega, HA.out.drewN _, by rw [if_neg (by decide), show sort2 a b = [b, a] from if_pos HLT.out]; exact HR.out.adv ((Adv.refl (fun _ => False) _ G).drewN _) id⟩
          case measure => simp [intOf]
    · obtain rfl : k = 2 := by omega
      have HA := Lib.hid ha
      have HR := Lib.hid hr
      clear ha hr
      go_wp2_with fail
      go_end0
      exact ⟨rfl, HA.out, by simpa using HR.out⟩
end Go.Proofs.YtdnalhjdmlkbmaaGreatDoor
