/- What was handed out: rows with marks, kept in lists of the pair's. -/
import Derived.Test.YtgpimonjdhbdmaaMade4
import Derived.Test.YtgpimonjdhbdmaaArgs
namespace Go.Proofs.Ytgpimonjdhbdmaa
open Go.RowKit

def markU (i k : Nat) : List Value := cellsU (List.replicate k (9000 + (i : Int)))
def markR (i k : Nat) : List Value := cellsR (List.replicate k (9000 + (i : Int), 0))
theorem markU_at {i k j : Nat} (h : j < k) : (markU i k)[j]? = some (.int .u16 (9000 + (i : Int))) := cellsU_at _ _ _ (by simp [h])
theorem markR_at {i k j : Nat} (h : j < k) : (markR i k)[j * 2]? = some (.int .i64 (9000 + (i : Int))) ∧ (markR i k)[j * 2 + 1]? = some (.int .u16 0) := cellsR_fst _ j (9000 + (i : Int), 0) (by simp [h])
theorem markU_length (i k : Nat) : (markU i k).length = k := by unfold markU; rw [cellsU_length]; simp
theorem markR_length (i k : Nat) : (markR i k).length = k * 2 := by unfold markR; rw [cellsR_length]; simp
theorem markU_of {i k : Nat} {xs : List Value} (hl : xs.length = k) (h : ∀ j, j < k → xs[j]? = some (.int .u16 (9000 + (i : Int)))) : xs = markU i k := by
  apply List.ext_getElem?
  intro j
  by_cases hj : j < k
  · rw [h j hj, markU_at hj]
  · rw [List.getElem?_eq_none (by omega), List.getElem?_eq_none (by rw [markU_length]; omega)]
theorem markR_of {i k : Nat} {xs : List Value} (hl : xs.length = k * 2) (h : ∀ j, j < k → xs[j * 2]? = some (.int .i64 (9000 + (i : Int))) ∧ xs[j * 2 + 1]? = some (.int .u16 0)) : xs = markR i k := by
  apply List.ext_getElem?
  intro j
  by_cases hj : j < k * 2
  · obtain ⟨h1, h2⟩ := h (j / 2) (by omega)
    obtain ⟨h3, h4⟩ := markR_at (i := i) (k := k) (j := j / 2) (by omega)
    rcases Nat.mod_two_eq_zero_or_one j with e | e
    · have ej : j / 2 * 2 = j := by omega
      rw [ej] at h1 h3; rw [h1, h3]
    · have ej : j / 2 * 2 + 1 = j := by omega
      rw [ej] at h2 h4; rw [h2, h4]
  · rw [List.getElem?_eq_none (by omega), List.getElem?_eq_none (by rw [markR_length]; omega)]
theorem markU_snoc (i k : Nat) : markU i k ++ [.int .u16 (9000 + (i : Int))] = markU i (k + 1) := by
  unfold markU; rw [List.replicate_succ', cellsU_append]; rfl
theorem markR_snoc (i k : Nat) : markR i k ++ [.int .i64 (9000 + (i : Int)), .int .u16 0] = markR i (k + 1) := by
  unfold markR; rw [List.replicate_succ', cellsR_append]; rfl

/-- A list that was handed out, with its mark. -/
def Held (w : World) (G : Nat → Nat) (O : Nat → Prop) (ms : Nat → List Value) (v : Value) : Prop :=
  ∃ a k c, v = .slice a k c ∧ k ≤ 9223372036854775807 ∧ Reads w a (ms k) ∧ ∀ ad, a = some ad → ad.block < w.heap.size ∧ O (G ad.block)
theorem Held.adv {w w' : World} {G G' : Nat → Nat} {O S : Nat → Prop} {ms : Nat → List Value} {v : Value} (h : Held w G O ms v) (ha : Adv S w G w' G') (hs : ∀ o, O o → ¬ S o) : Held w' G' O ms v := by
  obtain ⟨a, k, c, e, h1, h2, h3⟩ := h
  refine ⟨a, k, c, e, h1, h2.adv ha (fun ad x => hs _ (h3 ad x).2), fun ad x => ⟨Nat.lt_of_lt_of_le (h3 ad x).1 ha.size, ?_⟩⟩
  rw [ha.own _ (h3 ad x).1]; exact (h3 ad x).2
theorem Held.mono {w : World} {G H : Nat → Nat} {O O' : Nat → Prop} {ms : Nat → List Value} {v : Value} (h : Held w G O ms v) (hs : ∀ b, b < w.heap.size → O (G b) → O' (H b)) : Held w H O' ms v := by
  obtain ⟨a, k, c, e, h1, h2, h3⟩ := h
  exact ⟨a, k, c, e, h1, h2, fun ad x => ⟨(h3 ad x).1, hs _ (h3 ad x).1 (h3 ad x).2⟩⟩
theorem Held.row {e size : Nat} {w : World} {G : Nat → Nat} {o : Nat} {O : Nat → Prop} {ms : Nat → List Value} {a : Option Addr} {k c : Nat} (h : Row e size w G o (.slice a k c) k (ms k)) (ho : O o) : Held w G O ms (.slice a k c) := by
  obtain ⟨a', c', e1, hc, hk, h1⟩ := h.slice
  cases e1
  refine ⟨a, k, c, rfl, by unfold maxLen at hc; omega, h.reads, fun ad x => ?_⟩
  rcases h.row.2 with ⟨e, h0⟩ | ⟨g, cap, cur, e, _⟩
  · cases e; cases x
  · cases e; cases x
    exact ⟨(h.row.lt g rfl).2, by rw [h.own g rfl]; exact ho⟩

/-- The pair's lists of them; t: the elements' type (22, 36); x: the list's owner. -/
def Gave (t x : Nat) (w : World) (G : Nat → Nat) (O : Nat → Prop) (ms : Nat → Nat → List Value) (gv : Value) (n : Nat) : Prop :=
  ∃ vs, Row t 1 w G x gv n vs ∧ ∀ i v, vs[i]? = some v → Held w G O (ms i) v
theorem Gave.adv {t x : Nat} {w w' : World} {G G' : Nat → Nat} {O S : Nat → Prop} {ms : Nat → Nat → List Value} {gv : Value} {n : Nat} (h : Gave t x w G O ms gv n) (ha : Adv S w G w' G') (h5 : ¬ S x) (hs : ∀ o, O o → ¬ S o) : Gave t x w' G' O ms gv n := by
  obtain ⟨vs, h1, h2⟩ := h
  exact ⟨vs, h1.adv ha h5, fun i v hv => (h2 i v hv).adv ha hs⟩
theorem Gave.slice {t x : Nat} {w : World} {G : Nat → Nat} {O : Nat → Prop} {ms : Nat → Nat → List Value} {gv : Value} {n : Nat} (h : Gave t x w G O ms gv n) : ∃ a c, gv = .slice a n c := by
  obtain ⟨vs, h1, h2⟩ := h
  obtain ⟨a, c, e, _⟩ := h1.slice
  exact ⟨a, c, e⟩
theorem Gave.at {t x : Nat} {w : World} {G : Nat → Nat} {O : Nat → Prop} {ms : Nat → Nat → List Value} {a : Option Addr} {n c : Nat} (h : Gave t x w G O ms (.slice a n c) n) (i : Nat) (hi : i < n) :
    ∃ g b k d, a = some ⟨g, 0, none⟩ ∧ w.cell? ⟨g, i, none⟩ = some (.slice b k d) ∧ k ≤ 9223372036854775807 ∧ Reads w b (ms i k) := by
  obtain ⟨vs, h1, h2⟩ := h
  have hl := h1.nlen
  obtain ⟨g, rfl, _, _⟩ := h1.addr (by omega)
  obtain ⟨v, hv⟩ : ∃ v, vs[i]? = some v := ⟨vs[i]'(by omega), by simp⟩
  obtain ⟨b, k, d, rfl, h3, h4, h5⟩ := h2 i v hv
  exact ⟨g, b, k, d, rfl, (h1.at (by omega)).2.2.2 i _ hv, h3, h4⟩

set_option maxHeartbeats 2000000 in
set_option maxRecDepth 100000 in
theorem still_any (G : Nat → Nat) (O : Nat → Prop) (P D R E Q : Nat) (gv gr : Value) (n : Nat) (w : World) (hP : PairS w G P D R E Q gv gr) (hU : Gave 22 11 w G O markU gv n) (hV : Gave 36 12 w G O markR gr n) (hn : n ≤ 1000) :
    Calls Try.prog 24 #[.pointer (some ⟨P, 0, none⟩)] w fun e w' => e = .returned (.bool true) ∧ w = w' := by
  obtain ⟨a, c, e1⟩ := hU.slice
  obtain ⟨b, d, e2⟩ := hV.slice
  rw [e1] at hP hU
  rw [e2] at hP hV
  clear e1 e2
  obtain ⟨cA, cB, cC, cD, cE, cF, cfr⟩ := hP.cells
  have HU := Lib.hid hU
  have HV := Lib.hid hV
  have hE := eql43
  clear hP hU hV cA cB cC cD cfr
  go_enter Try.func24, Try.ntmps24
  go_wp2
  go_loop [3] (fun s3 => ∃ i : Nat, i ≤ n ∧ s3 = .int .i64 i) (fun s3 => n - (intOf s3).toNat)
  case atStart => exact ⟨0, by omega, rfl⟩
  case round =>
    obtain ⟨i, hi, rfl⟩ := hrel
    by_cases hlt : i < n
    · obtain ⟨g, b1, k, d1, rfl, hc1, hk, hr1⟩ := HU.out.at i hlt
      obtain ⟨g2, b2, k2, d2, rfl, hc2, hk2, hr2⟩ := HV.out.at i hlt
      have HR1 := Lib.hid hr1
      have HR2 := Lib.hid hr2
      have hw1 : IntKind.u16.wrap (9000 + (i : Int)) = 9000 + (i : Int) := by unfold IntKind.wrap; simp [IntKind.bits, IntKind.signed]; omega
      clear hr1 hr2
      go_wp2
      go_loop [4] (fun s4 => ∃ j : Nat, j ≤ k ∧ s4 = .int .i64 j) (fun s4 => k - (intOf s4).toNat)
      case atStart => exact ⟨0, by omega, rfl⟩
      case round =>
        obtain ⟨j, hj, rfl⟩ := hrel
        by_cases hl2 : j < k
        · obtain ⟨g3, o3, rfl, hc3, hb3⟩ := HR1.out.atU j (9000 + (i : Int)) (by simp [hl2])
          go_wp2
          go_round
          case rel => exact ⟨j + 1, by omega, by go_num⟩
          case measure => simp [intOf]; omega
        · go_wp2
          go_loop [5] (fun s5 => ∃ j : Nat, j ≤ k2 ∧ s5 = .int .i64 j) (fun s5 => k2 - (intOf s5).toNat)
          case atStart => exact ⟨0, by omega, rfl⟩
          case round =>
            obtain ⟨m, hm, rfl⟩ := hrel
            by_cases hl3 : m < k2
            · obtain ⟨g3, o3, rfl, hc3, hc4, hb3⟩ := HR2.out.atR m (9000 + (i : Int), 0) (by simp [hl3])
              go_wp2
              go_round
              case rel => exact ⟨m + 1, by omega, by go_num⟩
              case measure => simp [intOf]; omega
            · go_wp2
              go_round
              case rel => exact ⟨i + 1, by omega, by go_num⟩
              case measure => simp [intOf]; omega
    · go_wp2
      go_ret
      exact ⟨rfl, rfl⟩
end Go.Proofs.Ytgpimonjdhbdmaa
