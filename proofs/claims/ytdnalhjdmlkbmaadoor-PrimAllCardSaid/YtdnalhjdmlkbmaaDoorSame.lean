/- What the references' comparisons answer. -/
import Derived.Test.YtdnalhjdmlkbmaaDoorPU
import Derived.Laws.StructEq
namespace Go.Proofs.YtdnalhjdmlkbmaaDoor
open Go.RowKit

theorem Tryd.stood59 : Tryd.prog.stoodInHeld 59 = false := by kernel_rfl
theorem eql43 (a b c d : Int) (w : World) : (Op.equalIn 10000 59 (.agg #[.int .i64 a, .int .u16 b]) (.agg #[.int .i64 c, .int .u16 d])).run Tryd.prog w = .ok (a == c && b == d) w := by
  have ht : Tryd.prog.underlying 59 = some (.struct (Tryd.prog.fieldsOf 59)) := by simp only [Program.fieldsOf, Tryd.underlying59]
  rw [show (10000 : Nat) = 9998 + 1 + 1 from rfl, run_equalIn_struct w (9998 + 1) 59 _ _ ht Tryd.stood59]
  simp only [Program.fieldsOf, Tryd.underlying59]
  by_cases e : a = c
  · by_cases e2 : b = d
    · simp [Op.eqFields, go_sem, e, e2]
    · have e2' : (b == d) = false := by simpa using e2
      simp [Op.eqFields, go_sem, e, e2']
  · have e' : (a == c) = false := by simpa using e
    simp [Op.eqFields, go_sem, e']
theorem take_ext {α : Type} {l m : List α} {k : Nat} (h : l.take k = m.take k) {x y : α} (hx : l[k]? = some x) (hy : m[k]? = some y) (e : x = y) : l.take (k + 1) = m.take (k + 1) := by
  rw [List.take_add_one, List.take_add_one, h, hx, hy, e]

set_option maxHeartbeats 400000 in
theorem sameR_any (a b : Option Addr) (n c m d : Nat) (l k : List (Int × Int)) (w : World) (hl : l.length = n) (hk : k.length = m) (hn : n ≤ 9223372036854775807) (hm : m ≤ 9223372036854775807) (ha : Reads w a (cellsR l)) (hb : Reads w b (cellsR k)) :
    Calls Tryd.prog 25 #[.slice a n c, .slice b m d] w fun e w' => e = .returned (.bool (decide (l = k))) ∧ ∃ q, w' = w.drewN q := by
  have HL := Lib.hid hl
  have HK := Lib.hid hk
  have HA := Lib.hid ha
  have HB := Lib.hid hb
  clear hl hk ha hb
  by_cases hnm : n = m
  · subst hnm
    go_enter Tryd.func25, Tryd.ntmps25
    go_wp2
    go_loopw [5] (fun s5 wr => ∃ j : Nat, j ≤ n ∧ s5 = .int .i64 j ∧ l.take j = k.take j ∧ ∃ q, wr = w.drewN q) (fun s5 _ => n - (intOf s5).toNat)
    case atStart => exact ⟨0, by omega, rfl, rfl, 0, rfl⟩
    case round =>
      obtain ⟨j, hj, rfl, htk, q, rfl⟩ := hrel
      have HT := Lib.hid htk
      clear htk
      by_cases hlt : j < n
      · obtain ⟨x, hx⟩ : ∃ x, l[j]? = some x := ⟨l[j]'(by rw [HL.out]; omega), by simp⟩
        obtain ⟨y, hy⟩ : ∃ y, k[j]? = some y := ⟨k[j]'(by rw [HK.out]; omega), by simp⟩
        obtain ⟨ab, ao, rfl, hx1, hx2, _⟩ := HA.out.atR j x hx
        obtain ⟨bb, bo, rfl, hy1, hy2, _⟩ := HB.out.atR j y hy
        have HX := Lib.hid hx
        have HY := Lib.hid hy
        have hj0 : (0 : Int) ≤ (j : Int) := Int.natCast_nonneg _
        have hj1 : (j : Int) < (n : Int) := by omega
        clear hx hy
        have hE := eql43
        by_cases hxy : x = y
        · subst hxy
          go_wp2_with fail
          go_quiet (fail)
          go_wp2
          go_roundw
          case rel => exact ⟨j + 1, by omega, by go_num, take_ext HT.out HX.out HY.out rfl, _, rfl⟩
          case measure => simp [intOf]; omega
        · have hb : (x.1 == y.1 && x.2 == y.2) = false := by
            simp only [Bool.and_eq_false_iff, beq_eq_false_iff_ne]
            by_cases e : x.1 = y.1
            · exact .inr fun e2 => hxy (Prod.ext e e2)
            · exact .inl e
          have hne : l ≠ k := by
            intro e
            have h1 := HX.out
            have h2 := HY.out
            rw [e, h2] at h1
            exact hxy (by simpa using h1.symm)
          have HNE := Lib.hid hne
          clear hxy hne
          go_wp2_with fail
          go_quiet (fail)
          go_wp2
          go_ret
          exact ⟨by rw [decide_eq_false HNE.out]; rfl, q + nq, by simp⟩
      · have heq : l = k := by
          have h := HT.out
          rwa [List.take_of_length_le (by rw [HL.out]; omega), List.take_of_length_le (by rw [HK.out]; omega)] at h
        have HEQ := Lib.hid heq
        clear heq
        go_wp2
        go_ret
        exact ⟨by rw [decide_eq_true HEQ.out]; rfl, _, rfl⟩
  · have hne : l ≠ k := by
      intro e
      have h1 := HL.out
      rw [e, HK.out] at h1
      exact hnm h1.symm
    have HNE := Lib.hid hne
    have hb : ((n : Int) == (m : Int)) = false := by simp; omega
    have hb2 : ((n : Int) != (m : Int)) = true := by simp; omega
    clear hne
    go_enter Tryd.func25, Tryd.ntmps25
    go_wp2
    go_ret
    exact ⟨by rw [decide_eq_false HNE.out]; rfl, 0, rfl⟩

set_option maxHeartbeats 400000 in
theorem sameU_any (a b : Option Addr) (n c m d : Nat) (l k : List Int) (w : World) (hl : l.length = n) (hk : k.length = m) (hn : n ≤ 9223372036854775807) (hm : m ≤ 9223372036854775807) (ha : Reads w a (cellsU l)) (hb : Reads w b (cellsU k)) :
    Calls Tryd.prog 47 #[.slice a n c, .slice b m d] w fun e w' => e = .returned (.bool (decide (l = k))) ∧ ∃ q, w' = w.drewN q := by
  have HL := Lib.hid hl
  have HK := Lib.hid hk
  have HA := Lib.hid ha
  have HB := Lib.hid hb
  clear hl hk ha hb
  by_cases hnm : n = m
  · subst hnm
    go_enter Tryd.func47, Tryd.ntmps47
    go_wp2
    go_loopw [5] (fun s5 wr => ∃ j : Nat, j ≤ n ∧ s5 = .int .i64 j ∧ l.take j = k.take j ∧ ∃ q, wr = w.drewN q) (fun s5 _ => n - (intOf s5).toNat)
    case atStart => exact ⟨0, by omega, rfl, rfl, 0, rfl⟩
    case round =>
      obtain ⟨j, hj, rfl, htk, q, rfl⟩ := hrel
      have HT := Lib.hid htk
      clear htk
      by_cases hlt : j < n
      · obtain ⟨x, hx⟩ : ∃ x, l[j]? = some x := ⟨l[j]'(by rw [HL.out]; omega), by simp⟩
        obtain ⟨y, hy⟩ : ∃ y, k[j]? = some y := ⟨k[j]'(by rw [HK.out]; omega), by simp⟩
        obtain ⟨ab, ao, rfl, hx1, _⟩ := HA.out.atU j x hx
        obtain ⟨bb, bo, rfl, hy1, _⟩ := HB.out.atU j y hy
        have HX := Lib.hid hx
        have HY := Lib.hid hy
        have hj0 : (0 : Int) ≤ (j : Int) := Int.natCast_nonneg _
        have hj1 : (j : Int) < (n : Int) := by omega
        clear hx hy
        by_cases hxy : x = y
        · subst hxy
          go_wp2_with fail
          go_quiet (fail)
          go_wp2
          go_roundw
          case rel => exact ⟨j + 1, by omega, by go_num, take_ext HT.out HX.out HY.out rfl, _, rfl⟩
          case measure => simp [intOf]; omega
        · have hb : (x != y) = true := by simpa using hxy
          have hb2 : (x == y) = false := by simpa using hxy
          have hne : l ≠ k := by
            intro e
            have h1 := HX.out
            have h2 := HY.out
            rw [e, h2] at h1
            exact hxy (by simpa using h1.symm)
          have HNE := Lib.hid hne
          clear hne
          go_wp2_with fail
          go_quiet (fail)
          go_wp2
          go_ret
          exact ⟨by rw [decide_eq_false HNE.out]; rfl, q + nq, by simp⟩
      · have heq : l = k := by
          have h := HT.out
          rwa [List.take_of_length_le (by rw [HL.out]; omega), List.take_of_length_le (by rw [HK.out]; omega)] at h
        have HEQ := Lib.hid heq
        clear heq
        go_wp2
        go_ret
        exact ⟨by rw [decide_eq_true HEQ.out]; rfl, _, rfl⟩
  · have hne : l ≠ k := by
      intro e
      have h1 := HL.out
      rw [e, HK.out] at h1
      exact hnm h1.symm
    have HNE := Lib.hid hne
    have hb : ((n : Int) == (m : Int)) = false := by simp; omega
    have hb2 : ((n : Int) != (m : Int)) = true := by simp; omega
    clear hne
    go_enter Tryd.func47, Tryd.ntmps47
    go_wp2
    go_ret
    exact ⟨by rw [decide_eq_false HNE.out]; rfl, 0, rfl⟩

end Go.Proofs.YtdnalhjdmlkbmaaDoor
