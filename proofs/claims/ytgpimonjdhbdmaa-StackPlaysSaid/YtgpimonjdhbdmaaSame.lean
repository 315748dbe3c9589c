/- What the references' comparisons answer. -/
import Derived.Test.YtgpimonjdhbdmaaPU
import Derived.Laws.StructEq
namespace Go.Proofs.Ytgpimonjdhbdmaa
open Go.RowKit

theorem Try.stood43 : Try.prog.stoodInHeld 43 = false := by kernel_rfl
theorem eql43 (a b c d : Int) (w : World) : (Op.equalIn 10000 43 (.agg #[.int .i64 a, .int .u16 b]) (.agg #[.int .i64 c, .int .u16 d])).run Try.prog w = .ok (a == c && b == d) w := by
  have ht : Try.prog.underlying 43 = some (.struct (Try.prog.fieldsOf 43)) := by simp only [Program.fieldsOf, Try.underlying43]
  rw [show (10000 : Nat) = 9998 + 1 + 1 from rfl, run_equalIn_struct w (9998 + 1) 43 _ _ ht Try.stood43]
  simp only [Program.fieldsOf, Try.underlying43]
  by_cases e : a = c
  · by_cases e2 : b = d
    · simp [Op.eqFields, go_sem, e, e2]
    · have e2' : (b == d) = false := by simpa using e2
      simp [Op.eqFields, go_sem, e, e2']
  · have e' : (a == c) = false := by simpa using e
    simp [Op.eqFields, go_sem, e']
theorem take_ext {α : Type} {l m : List α} {k : Nat} (h : l.take k = m.take k) {x y : α} (hx : l[k]? = some x) (hy : m[k]? = some y) (e : x = y) : l.take (k + 1) = m.take (k + 1) := by
  rw [List.take_add_one, List.take_add_one, h, hx, hy, e]

set_option maxHeartbeats 400000 in
theorem sameR_any (a b : Option Addr) (n c m d : Nat) (l k : List (Int × Int)) (w : World) (hl : l.length = n) (hk : k.length = m) (hn : n ≤ 9223372036854775807) (hm : m ≤ 9223372036854775807) (ha : Reads w a (cellsR l)) (hb : Reads w b (cellsR k)) :
    Calls Try.prog 20 #[.slice a n c, .slice b m d] w fun e w' => e = .returned (.bool (decide (l = k))) ∧ ∃ q, w' = w.drewN q := by
  have HL := Lib.hid hl
  have HK := Lib.hid hk
  have HA := Lib.hid ha
  have HB := Lib.hid hb
  clear hl hk ha hb
  by_cases hnm : n = m
  · subst hnm
    go_enter Try.func20, Try.ntmps20
    go_wp2
    go_loopw [5] (fun s5 wr => ∃ j : Nat, j ≤ n ∧ s5 = .int .i64 j ∧ l.take j = k.take j ∧ ∃ q, wr = w.drewN q) (fun s5 _ => n - (intOf s5).toNat)
    case atStart => exact ⟨0, by omega, rfl, rfl, 0, rfl⟩
    case round =>
      obtain ⟨j, hj, rfl, htk, q, rfl⟩ := hrel
      have HT := Lib.hid htk
      clear htk
      by_cases hlt : j < n
      · obtain ⟨x, hx⟩ : ∃ x, l[j]? = some x := ⟨l[j]'(by rw [HL.out]; omega), by simp⟩
        obtain ⟨y, hy⟩ : ∃ y, k[j]? = some y := ⟨k[j]'(by rw [HK.out]; omega), by simp⟩
        obtain ⟨ab, ao, rfl, hx1, hx2, _⟩ := HA.out.atR j x hx
        obtain ⟨bb, bo, rfl, hy1, hy2, _⟩ := HB.out.atR j y hy
        have HX := Lib.hid hx
        have HY := Lib.hid hy
        have hj0 : (0 : Int) ≤ (j : Int) := Int.natCast_nonneg _
        have hj1 : (j : Int) < (n : Int) := by omega
        clear hx hy
        have hE := eql43
        by_cases hxy : x = y
        · subst hxy
          go_wp2_with fail
          go_quiet (fail)
          go_wp2
          go_roundw
          case rel => exact ⟨j + 1, by omega, by go_num, take_ext HT.out HX.out HY.out rfl, _, rfl⟩
          case measure => simp [intOf]; omega
        · have hb : (x.1 == y.1 && x.2 == y.2) = false := by
            simp only [Bool.and_eq_false_iff, beq_eq_false_iff_ne]
            by_cases e : x.1 = y.1
            · exact .inr fun e2 => hxy (Prod.ext e e2)
            · exact .inl e
          have hne : l ≠ k := by
            intro e
            have h1 := HX.out
            have h2 := HY.out
            rw [e, h2] at h1
            exact hxy (by simpa using h1.symm)
          have HNE := Lib.hid hne
          clear hxy hne
          go_wp2_with fail
          go_quiet (fail)
          go_wp2
          go_ret
          exact ⟨by rw [decide_eq_false HNE.out]; rfl, q + nq, by simp⟩
      · have heq : l = k := by
          have h := HT.out
          rwa [List.take_of_length_le (by rw [HL.out]; omega), List.take_of_length_le (by rw [HK.out]; omega)] at h
        have HEQ := Lib.hid heq
        clear heq
        go_wp2
        go_ret
        exact ⟨by rw [decide_eq_true HEQ.out]; rfl, _, rfl⟩
  · have hne : l ≠ k := by
      intro e
      have h1 := HL.out
      rw [e, HK.out] at h1
      exact hnm h1.symm
    have HNE := Lib.hid hne
    have hb : ((n : Int) == (m : Int)) = false := by simp; omega
    have hb2 : ((n : Int) != (m : Int)) = true := by simp; omega
    clear hne
    go_enter Try.func20, Try.ntmps20
    go_wp2
    go_ret
    exact ⟨by rw [decide_eq_false HNE.out]; rfl, 0, rfl⟩

set_option maxHeartbeats 400000 in
theorem sameU_any (a b : Option Addr) (n c m d : Nat) (l k : List Int) (w : World) (hl : l.length = n) (hk : k.length = m) (hn : n ≤ 9223372036854775807) (hm : m ≤ 9223372036854775807) (ha : Reads w a (cellsU l)) (hb : Reads w b (cellsU k)) :
    Calls Try.prog 47 #[.slice a n c, .slice b m d] w fun e w' => e = .returned (.bool (decide (l = k))) ∧ ∃ q, w' = w.drewN q := by
  have HL := Lib.hid hl
  have HK := Lib.hid hk
  have HA := Lib.hid ha
  have HB := Lib.hid hb
  clear hl hk ha hb
  by_cases hnm : n = m
  · subst hnm
    go_enter Try.func47, Try.ntmps47
    go_wp2
    go_loopw [5] (fun s5 wr => ∃ j : Nat, j ≤ n ∧ s5 = .int .i64 j ∧ l.take j = k.take j ∧ ∃ q, wr = w.drewN q) (fun s5 _ => n - (intOf s5).toNat)
    case atStart => exact ⟨0, by omega, rfl, rfl, 0, rfl⟩
    case round =>
      obtain ⟨j, hj, rfl, htk, q, rfl⟩ := hrel
      have HT := Lib.hid htk
      clear htk
      by_cases hlt : j < n
      · obtain ⟨x, hx⟩ : ∃ x, l[j]? = some x := ⟨l[j]'(by rw [HL.out]; omega), by simp⟩
        obtain ⟨y, hy⟩ : ∃ y, k[j]? = some y := ⟨k[j]'(by rw [HK.out]; omega), by simp⟩
        obtain ⟨ab, ao, rfl, hx1, _⟩ := HA.out.atU j x hx
        obtain ⟨bb, bo, rfl, hy1, _⟩ := HB.out.atU j y hy
        have HX := Lib.hid hx
        have HY := Lib.hid hy
        have hj0 : (0 : Int) ≤ (j : Int) := Int.natCast_nonneg _
        have hj1 : (j : Int) < (n : Int) := by omega
        clear hx hy
        by_cases hxy : x = y
        · subst hxy
          go_wp2_with fail
          go_quiet (fail)
          go_wp2
          go_roundw
          case rel => exact ⟨j + 1, by omega, by go_num, take_ext HT.out HX.out HY.out rfl, _, rfl⟩
          case measure => simp [intOf]; omega
        · have hb : (x != y) = true := by simpa using hxy
          have hb2 : (x == y) = false := by simpa using hxy
          have hne : l ≠ k := by
            intro e
            have h1 := HX.out
            have h2 := HY.out
            rw [e, h2] at h1
            exact hxy (by simpa using h1.symm)
          have HNE := Lib.hid hne
          clear hne
          go_wp2_with fail
          go_quiet (fail)
          go_wp2
          go_ret
          exact ⟨by rw [decide_eq_false HNE.out]; rfl, q + nq, by simp⟩
      · have heq : l = k := by
          have h := HT.out
          rwa [List.take_of_length_le (by rw [HL.out]; omega), List.take_of_length_le (by rw [HK.out]; omega)] at h
        have HEQ := Lib.hid heq
        clear heq
        go_wp2
        go_ret
        exact ⟨by rw [decide_eq_true HEQ.out]; rfl, _, rfl⟩
  · have hne : l ≠ k := by
      intro e
      have h1 := HL.out
      rw [e, HK.out] at h1
      exact hnm h1.symm
    have HNE := Lib.hid hne
    have hb : ((n : Int) == (m : Int)) = false := by simp; omega
    have hb2 : ((n : Int) != (m : Int)) = true := by simp; omega
    clear hne
    go_enter Try.func47, Try.ntmps47
    go_wp2
    go_ret
    exact ⟨by rw [decide_eq_false HNE.out]; rfl, 0, rfl⟩

/-- May the cells be? -/
def mayB (n : Nat) (l : List (Int × Int)) : Bool := l.all (fun c => decide (1 ≤ c.1 ∧ c.1 ≤ 4)) && decide (n ≤ 256) && decide (l.length ≤ 128)
set_option maxHeartbeats 400000 in
theorem may_any (a b : Option Addr) (n c m d : Nat) (l : List (Int × Int)) (w : World) (hl : l.length = m) (hn : n ≤ 9223372036854775807) (hm : m ≤ 9223372036854775807) (hb : Reads w b (cellsR l)) :
    Calls Try.prog 19 #[.slice a n c, .slice b m d] w fun e w' => e = .returned (.bool (mayB n l)) ∧ w = w' := by
  have HL := Lib.hid hl
  have HB := Lib.hid hb
  clear hl hb
  go_enter Try.func19, Try.ntmps19
  go_wp2
  go_loop [5] (fun s5 => ∃ j : Nat, j ≤ m ∧ s5 = .int .i64 j ∧ ∀ x ∈ l.take j, 1 ≤ x.1 ∧ x.1 ≤ 4) (fun s5 => m - (intOf s5).toNat)
  case atStart => exact ⟨0, by omega, rfl, by simp⟩
  case round =>
    obtain ⟨j, hj, rfl, hall⟩ := hrel
    have HALL := Lib.hid hall
    clear hall
    by_cases hlt : j < m
    · obtain ⟨x, hx⟩ : ∃ x, l[j]? = some x := ⟨l[j]'(by rw [HL.out]; omega), by simp⟩
      obtain ⟨bb, bo, rfl, hx1, hx2, _⟩ := HB.out.atR j x hx
      have HX := Lib.hid hx
      clear hx
      by_cases h1 : x.1 < 1
      · have hd : decide (x.1 < 1) = true := by simpa using h1
        have hno : Hid (mayB n l = false) := by
          show mayB n l = false
          have : l.all (fun c => decide (1 ≤ c.1 ∧ c.1 ≤ 4)) = false := by
            rw [List.all_eq_false]
            exact ⟨x, List.mem_of_getElem? HX.out, by simp only [decide_eq_true_eq]; omega⟩
          unfold mayB; rw [this]; rfl
        go_wp2
        go_ret
        exact ⟨by rw [hno.out]; rfl, rfl⟩
      · by_cases h2 : 4 < x.1
        · have hd : decide (x.1 < 1) = false := by simpa using h1
          have hd2 : decide (4 < x.1) = true := by simpa using h2
          have hno : Hid (mayB n l = false) := by
            show mayB n l = false
            have : l.all (fun c => decide (1 ≤ c.1 ∧ c.1 ≤ 4)) = false := by
              rw [List.all_eq_false]
              exact ⟨x, List.mem_of_getElem? HX.out, by simp only [decide_eq_true_eq]; omega⟩
            unfold mayB; rw [this]; rfl
          go_wp2
          go_ret
          exact ⟨by rw [hno.out]; rfl, rfl⟩
        · have hd : decide (x.1 < 1) = false := by simpa using h1
          have hd2 : decide (4 < x.1) = false := by simpa using h2
          have hx14 : Hid (1 ≤ x.1 ∧ x.1 ≤ 4) := by show 1 ≤ x.1 ∧ x.1 ≤ 4; omega
          go_wp2
          go_round
          case rel =>
            refine ⟨j + 1, by omega, by go_num, fun y hy => ?_⟩
            rw [List.take_add_one, HX.out] at hy
            rcases List.mem_append.1 hy with h | h
            · exact HALL.out y h
            · have e : y = x := by simpa using h
              rw [e]; exact hx14.out
          case measure => simp [intOf]; omega
    · have hyes : Hid (mayB n l = (decide (n ≤ 256) && decide (m ≤ 128))) := by
        show mayB n l = _
        have h := HALL.out
        rw [List.take_of_length_le (by rw [HL.out]; omega)] at h
        have : l.all (fun c => decide (1 ≤ c.1 ∧ c.1 ≤ 4)) = true := by
          rw [List.all_eq_true]
          exact fun y hy => by simpa using h y hy
        unfold mayB; rw [this, HL.out, Bool.true_and]
      by_cases h1 : n ≤ 256
      · have hd1 : decide ((n : Int) ≤ 256) = true := by simp; omega
        by_cases h2 : m ≤ 128
        · have hd2 : decide ((m : Int) ≤ 128) = true := by simp; omega
          have hY : Hid (mayB n l = true) := by show mayB n l = true; rw [hyes.out]; simp [h1, h2]
          clear hyes
          go_wp2
          go_ret
          exact ⟨by rw [hY.out]; rfl, rfl⟩
        · have hd2 : decide ((m : Int) ≤ 128) = false := by simp; omega
          have hY : Hid (mayB n l = false) := by show mayB n l = false; rw [hyes.out]; simp [h2]
          clear hyes
          go_wp2
          go_ret
          exact ⟨by rw [hY.out]; rfl, rfl⟩
      · have hd1 : decide ((n : Int) ≤ 256) = false := by simp; omega
        have hY : Hid (mayB n l = false) := by show mayB n l = false; rw [hyes.out]; simp [h1]
        clear hyes
        go_wp2
        go_ret
        exact ⟨by rw [hY.out]; rfl, rfl⟩
end Go.Proofs.Ytgpimonjdhbdmaa
