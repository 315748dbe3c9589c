/- One call on both sides: what stands when the switch is come to. -/
import Derived.Test.YtgpimonjdhbdmaaState
namespace Go.Proofs.Ytgpimonjdhbdmaa
open Go.RowKit

structure PlaysIn (w : World) (G : Nat → Nat) (ws : World) (H : Nat → Nat) (P nn O g cap g2 cap2 : Nat) (K A B : Int) (la : Option Addr) (n lc : Nat) (xs : List Int) (ma : Option Addr) (k mc : Nat) (ys : List (Int × Int)) : Prop where
  adv : Adv (fun o => o ≠ 0) w G ws H
  op : ws.heap[O]? = some (.cells #[.int .i64 K, .int .i64 A, .int .i64 B, .slice la n lc, .slice ma k mc] 71 (0, 0))
  oo : H O = 0
  c : Row 32 1 ws H 7 (.slice (some ⟨g, 0, none⟩) (n + 2) cap) (n + 2) (cellsU (xs ++ [7777, 7778]))
  r : Row 43 2 ws H 8 (.slice (some ⟨g2, 0, none⟩) (k + 2) cap2) (k + 2) (cellsR (ys ++ [(77, 0), (78, 0)]))
  hl : xs.length = n
  hn : n ≤ 70368744175616
  hm : ys.length = k
  hk : k ≤ 8796093021952
  nlc : n ≤ lc
  kmc : k ≤ mc
  lcb : lc ≤ 70368744175616
  mcb : mc ≤ 8796093021952
  hx : Reads ws la (cellsU xs)
  hy : Reads ws ma (cellsR ys)
  xo : xs ≠ [] → ∀ ad, la = some ad → ad.block < ws.heap.size ∧ H ad.block = 0
  yo : ys ≠ [] → ∀ ad, ma = some ad → ad.block < ws.heap.size ∧ H ad.block = 0
  a1 : A ≤ 9223372036854775807
  b1 : B ≤ 9223372036854775807
theorem PlaysIn.lt {w : World} {G : Nat → Nat} {ws : World} {H : Nat → Nat} {P nn O g cap g2 cap2 : Nat} {K A B : Int} {la : Option Addr} {n lc : Nat} {xs : List Int} {ma : Option Addr} {k mc : Nat} {ys : List (Int × Int)}
    (h : PlaysIn w G ws H P nn O g cap g2 cap2 K A B la n lc xs ma k mc ys) : O < ws.heap.size := (Array.getElem?_eq_some_iff.1 h.op).1
theorem PlaysIn.cells {w : World} {G : Nat → Nat} {ws : World} {H : Nat → Nat} {P nn O g cap g2 cap2 : Nat} {K A B : Int} {la : Option Addr} {n lc : Nat} {xs : List Int} {ma : Option Addr} {k mc : Nat} {ys : List (Int × Int)}
    (h : PlaysIn w G ws H P nn O g cap g2 cap2 K A B la n lc xs ma k mc ys) : ws.cell? ⟨O, 0, none⟩ = some (.int .i64 K) ∧ ws.cell? ⟨O, 1, none⟩ = some (.int .i64 A) ∧ ws.cell? ⟨O, 2, none⟩ = some (.int .i64 B) ∧
      ws.cell? ⟨O, 3, none⟩ = some (.slice la n lc) ∧ ws.cell? ⟨O, 4, none⟩ = some (.slice ma k mc) := by
  have := h.op
  refine ⟨?_, ?_, ?_, ?_, ?_⟩ <;> simp [World.cell?, this]
/-- What stands between goes on. -/
theorem PlaysIn.adv' {w : World} {G : Nat → Nat} {ws : World} {H : Nat → Nat} {P nn O g cap g2 cap2 : Nat} {K A B : Int} {la : Option Addr} {n lc : Nat} {xs : List Int} {ma : Option Addr} {k mc : Nat} {ys : List (Int × Int)}
    (h : PlaysIn w G ws H P nn O g cap g2 cap2 K A B la n lc xs ma k mc ys) {wx : World} {H' : Nat → Nat} {S : Nat → Prop} (ha : Adv S ws H wx H') (h0 : ¬ S 0) (h7 : ¬ S 7) (h8 : ¬ S 8) : PlaysIn w G wx H' P nn O g cap g2 cap2 K A B la n lc xs ma k mc ys := by
  refine { adv := h.adv.trans (ha.mono fun o ho e => h0 (e ▸ ho)), op := ?op, oo := ?oo, c := h.c.adv ha h7, r := h.r.adv ha h8, hl := h.hl, hn := h.hn, hm := h.hm, hk := h.hk, nlc := h.nlc, kmc := h.kmc, lcb := h.lcb, mcb := h.mcb, hx := ?hx, hy := ?hy, xo := ?xo, yo := ?yo, a1 := h.a1, b1 := h.b1 }
  case op => rw [ha.keep O h.lt (by rw [h.oo]; exact h0)]; exact h.op
  case oo => rw [ha.own O h.lt]; exact h.oo
  case hx =>
    by_cases hne : xs = []
    · subst hne; exact .inl rfl
    · exact h.hx.adv ha fun ad e => by rw [(h.xo hne ad e).2]; exact h0
  case hy =>
    by_cases hne : ys = []
    · subst hne; exact .inl rfl
    · exact h.hy.adv ha fun ad e => by rw [(h.yo hne ad e).2]; exact h0
  case xo =>
    intro hne ad e
    exact ⟨Nat.lt_of_lt_of_le (h.xo hne ad e).1 ha.size, by rw [ha.own _ (h.xo hne ad e).1]; exact (h.xo hne ad e).2⟩
  case yo =>
    intro hne ad e
    exact ⟨Nat.lt_of_lt_of_le (h.yo hne ad e).1 ha.size, by rw [ha.own _ (h.yo hne ad e).1]; exact (h.yo hne ad e).2⟩
end Go.Proofs.Ytgpimonjdhbdmaa
