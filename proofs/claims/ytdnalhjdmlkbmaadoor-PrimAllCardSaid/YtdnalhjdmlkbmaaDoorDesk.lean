/- The desk that a primitive works on: taken, and what a shuffle does. -/
import Derived.Test.YtdnalhjdmlkbmaaDoorPU
import Derived.Test.YtdnalhjdmlkbmaaDoorRowLib
import Derived.Test.YtdnalhjdmlkbmaaDoorTab
import Derived.Deep.RegionHeld3
namespace Go.Proofs.YtdnalhjdmlkbmaaDoor
open Go.RowKit

/-- Block K is a desk over these three. -/
def Desk (w : World) (G : Nat → Nat) (K D R : Nat) (M : Option Addr) : Prop :=
  w.heap[K]? = some (.cells #[.pointer (some ⟨D, 0, none⟩), .pointer (some ⟨R, 0, none⟩), .pointer M] 123 (0, 0)) ∧ G K = 0
theorem Desk.adv {S : Nat → Prop} {w w' : World} {G G' : Nat → Nat} {K D R : Nat} {M : Option Addr} (h : Desk w G K D R M) (ha : Adv S w G w' G') (hs : ¬ S 0) : Desk w' G' K D R M := by
  have hl : K < w.heap.size := (Array.getElem?_eq_some_iff.1 h.1).1
  exact ⟨(ha.keep K hl (by rw [h.2]; exact hs)).trans h.1, (ha.own K hl).trans h.2⟩
theorem Desk.lt {w : World} {G : Nat → Nat} {K D R : Nat} {M : Option Addr} (h : Desk w G K D R M) : K < w.heap.size := (Array.getElem?_eq_some_iff.1 h.1).1
theorem Desk.setCell {w : World} {G : Nat → Nat} {K D R : Nat} {M : Option Addr} (h : Desk w G K D R M) {p : Addr} (hp : p.block ≠ K) (u : Value) : Desk (w.setCell p u) G K D R M :=
  ⟨(Below.heap_setCell _ _ _ _ (fun e => hp e.symm)).trans h.1, h.2⟩
theorem Desk.d {w : World} {G : Nat → Nat} {K D R : Nat} {M : Option Addr} (h : Desk w G K D R M) : w.cell? ⟨K, 0, none⟩ = some (.pointer (some ⟨D, 0, none⟩)) := block_cell h.1 0 _ rfl
theorem Desk.r {w : World} {G : Nat → Nat} {K D R : Nat} {M : Option Addr} (h : Desk w G K D R M) : w.cell? ⟨K, 1, none⟩ = some (.pointer (some ⟨R, 0, none⟩)) := block_cell h.1 1 _ rfl
theorem Desk.m {w : World} {G : Nat → Nat} {K D R : Nat} {M : Option Addr} (h : Desk w G K D R M) : w.cell? ⟨K, 2, none⟩ = some (.pointer M) := block_cell h.1 2 _ rfl

/-- The row of taken: what is still to come is 0. -/
theorem taken_set (t : List Int) (m : Nat) (x : Int) (hx : t[m]? = some x) : (cellsU (List.replicate (m + 1) 0 ++ t.drop (m + 1))).set m (.int .u16 x) = cellsU (List.replicate m 0 ++ t.drop m) := by
  have hlt : m < t.length := (List.getElem?_eq_some_iff.1 hx).1
  have hd : t.drop m = x :: t.drop (m + 1) := by
    rw [List.drop_eq_getElem_cons hlt]
    congr 1
    have := (List.getElem?_eq_some_iff.1 hx).2
    exact this
  rw [hd]
  apply List.ext_getElem?
  intro j
  simp only [cellsU, List.map_append, List.map_replicate, List.map_cons, List.getElem?_set, List.length_append, List.length_replicate, List.length_map, List.length_drop]
  rcases Nat.lt_trichotomy j m with h | h | h
  · rw [if_neg (by omega), List.getElem?_append_left (by simp; omega), List.getElem?_append_left (by simp; omega), List.getElem?_replicate, List.getElem?_replicate, if_pos (by omega), if_pos h]
  · subst h
    rw [if_pos rfl, if_pos (by omega), List.getElem?_append_right (by simp)]
    simp
  · rw [if_neg (by omega), List.getElem?_append_right (by simp; omega), List.getElem?_append_right (by simp; omega)]
    simp only [List.length_replicate]
    rw [show j - m = (j - (m + 1)) + 1 from by omega, List.getElem?_cons_succ]

set_option maxRecDepth 100000 in
set_option maxHeartbeats 1000000 in
theorem taken_any (G : Nat → Nat) (i D K R : Nat) (M : Option Addr) (base t : List Int) (n : Nat) (hn : t.length = n) (h0 : 0 < n) (h4 : n ≤ 100) (hi : i ≠ 0) (w : World) (hp : PU w G i D (base ++ t)) (hk : Desk w G K D R M) :
    Calls Tryd.prog 105 #[.pointer (some ⟨K, 0, none⟩), .int .i64 n] w fun e w' =>
      ∃ b G', e = .returned (.slice (some ⟨b, 0, none⟩) n n) ∧ Adv (· = i) w G w' G' ∧ PU w' G' i D base ∧ Row 41 1 w' G' 0 (.slice (some ⟨b, 0, none⟩) n n) n (cellsU t) := by
  have hmk := run_makeU w n (by omega)
  have hKl := hk.lt
  have HN := Lib.hid hn
  have HA0 := Lib.hid ((Adv.refl (· = i) w G).alloc (.cells (cellsU (List.replicate n 0)).toArray 41) 0)
  have hAf := (Adv.refl (fun _ => False) w G).alloc (.cells (cellsU (List.replicate n 0)).toArray 41) 0
  have HP := Lib.hid (hp.adv hAf id)
  have HK := Lib.hid (hk.adv hAf id)
  have HR := Lib.hid (Row.new w G 41 1 0 n (cellsU (List.replicate n 0)) (by unfold maxLen; omega) (by simp [cellsU]))
  clear hn hp hk hAf
  go_enter Tryd.func105, Tryd.ntmps105
  go_wp2_with fail
  go_loopw [11] (fun v wr => ∃ j : Nat, j ≤ n ∧ v = .int .i64 j ∧ ∃ Gr, Adv (· = i) w G wr Gr ∧ PU wr Gr i D (base ++ t.take (n - j)) ∧ Desk wr Gr K D R M ∧ Row 41 1 wr Gr 0 (.slice (some ⟨w.heap.size, 0, none⟩) n n) n (cellsU (List.replicate (n - j) 0 ++ t.drop (n - j)))) (fun v _ => n - (intOf v).toNat)
  case atStart => exact ⟨0, Nat.zero_le _, rfl, _, HA0.out, by rw [List.take_of_length_le (by rw [HN.out]; omega)]; exact HP.out, HK.out, by rw [List.drop_of_length_le (by rw [HN.out]; omega), List.append_nil]; exact HR.out⟩
  case round =>
    obtain ⟨j, hj, rfl, Gr, h1, h2, h3, h4⟩ := hrel
    by_cases hlt : j < n
    · obtain ⟨x, hx⟩ : ∃ x, t[n - 1 - j]? = some x := ⟨t[n - 1 - j]'(by rw [HN.out]; omega), by simp⟩
      have htk : base ++ t.take (n - j) = (base ++ t.take (n - 1 - j)) ++ [x] := by
        rw [List.append_assoc]; congr 1
        rw [show n - j = n - 1 - j + 1 from by omega, List.take_add_one, hx]; rfl
      rw [htk] at h2
      have hset := taken_set t (n - 1 - j) x hx
      rw [show n - 1 - j + 1 = n - j from by omega] at hset
      have hD := h3.d
      have HX := Lib.hid hset
      have H1 := Lib.hid h1
      have H2 := Lib.hid h2
      have H3 := Lib.hid h3
      have H4 := Lib.hid h4
      clear hx htk hset h1 h2 h3 h4
      go_wp2_with fail
      refine (popPU Gr i D (base ++ t.take (n - 1 - j)) x _ H2.out).mono ?_
      rintro e w1 ⟨rfl, ha, hp1⟩
      have hR1 := H4.out.adv ha (by omega)
      obtain ⟨hg, hG, hf, hc⟩ := hR1.at h0
      have hlen : n - 1 - j < (cellsU (List.replicate (n - j) 0 ++ t.drop (n - j))).length := by rw [hR1.nlen]; omega
      have hc1 := hc (n - 1 - j) _ (List.getElem?_eq_getElem hlen)
      have hf1 := hf (n - 1 - j)
      have HS := Lib.hid (hR1.store (n - 1 - j) hlen (.int .u16 x))
      have HP1 := Lib.hid hp1
      have HA1 := Lib.hid (H1.out.trans ha)
      have HK1 := Lib.hid (H3.out.adv ha (by omega))
      clear hc hf ha hp1 hR1 hG
      go_wp2
      go_roundw
      case rel =>
        refine ⟨j + 1, by omega, by go_num, Gr, HA1.out.setNew (Nat.le_refl _) _, ?_, HK1.out.setCell (fun e => by simp at e; omega) _, ?_⟩
        · rw [show n - (j + 1) = n - 1 - j from by omega]; exact HP1.out.adv HS.out.1 (by omega)
        · rw [show n - (j + 1) = n - 1 - j from by omega, ← HX.out]; exact HS.out.2
      case measure => simp [intOf]; omega
    · have hjn : j = n := by omega
      have HJ := Lib.hid hjn
      have HB := Lib.hid (And.intro h1 (And.intro h2 (And.intro h3 h4)))
      clear hjn h1 h2 h3 h4
      go_wp2
      go_ret
      obtain ⟨h1, h2, h3, h4⟩ := HB.out
      rw [HJ.out, Nat.sub_self, List.take_zero, List.append_nil] at h2
      rw [HJ.out, Nat.sub_self, List.drop_zero, List.replicate_zero, List.nil_append] at h4
      exact ⟨w.heap.size, Gr, rfl, h1, h2, h4⟩

/-- What a shuffle puts: the cells at these places. -/
def cellsI (ps : List Nat) : List Value := ps.map fun (p : Nat) => Value.int .i64 (p : Int)
def picks (t : List Int) (ps : List Nat) : List Int := ps.map fun p => t.getD p 0
set_option maxRecDepth 100000 in
set_option maxHeartbeats 1000000 in
theorem shuffle_any (G : Nat → Nat) (i D K R : Nat) (M : Option Addr) (base t : List Int) (n : Nat) (hn : t.length = n) (h0 : 0 < n) (h4 : n ≤ 100) (ps : List Nat) (hps : ∀ p ∈ ps, p < n) (hroom : base.length + ps.length ≤ 256) (hi : i ≠ 0)
    (B1 B2 : Nat) (la : Option Addr) (lc : Nat) (w : World) (hp : PU w G i D (base ++ t)) (hk : Desk w G K D R M)
    (hB1 : w.cell? ⟨B1, 0, none⟩ = some (.int .i64 n)) (hG1 : G B1 = 0) (hB2 : w.cell? ⟨B2, 0, none⟩ = some (.slice la ps.length lc)) (hG2 : G B2 = 0)
    (hla : Reads w la (cellsI ps)) (hGl : ∀ ad, la = some ad → G ad.block = 0 ∧ ad.block < w.heap.size) :
    Calls Tryd.prog 104 #[.pointer (some ⟨K, 0, none⟩), .pointer (some ⟨B1, 0, none⟩), .pointer (some ⟨B2, 0, none⟩)] w fun e w' =>
      e = .returned (.tuple #[]) ∧ ∃ G', Adv (· = i) w G w' G' ∧ PU w' G' i D (base ++ picks t ps) := by
  have HP := Lib.hid hp
  have HK := Lib.hid hk
  have HN := Lib.hid hn
  have HLA := Lib.hid hla
  have HGL := Lib.hid hGl
  have HPS := Lib.hid hps
  clear hp hk hn hla hGl hps
  go_enter Tryd.func104, Tryd.ntmps104
  go_wp2_with fail
  refine (taken_any G i D K R M base t n HN.out h0 h4 hi _ HP.out HK.out).mono ?_
  rintro e w1 ⟨b, G1, rfl, ha, hp1, hr1⟩
  have hB2' := ha.cell_some (p := ⟨B2, 0, none⟩) hB2 (by rw [hG2]; omega)
  have HA := Lib.hid ha
  have HP1 := Lib.hid hp1
  have HR1 := Lib.hid hr1
  have HK1 := Lib.hid (HK.out.adv ha (by omega))
  have HL1 := Lib.hid (HLA.out.adv ha (fun ad e => by rw [(HGL.out ad e).1]; omega))
  clear ha hp1 hr1
  go_wp2_with fail
  go_loopw [12] (fun v wr => ∃ j : Nat, j ≤ ps.length ∧ v = .int .i64 j ∧ ∃ Gr, Adv (· = i) w1 G1 wr Gr ∧ PU wr Gr i D (base ++ picks t (ps.take j))) (fun v _ => ps.length - (intOf v).toNat)
  case atStart => exact ⟨0, Nat.zero_le _, rfl, G1, Adv.refl _ _ _, by simpa [picks] using HP1.out⟩
  case round =>
    obtain ⟨j, hj, rfl, Gr, h1, h2⟩ := hrel
    by_cases hlt : j < ps.length
    · obtain ⟨p, hpj⟩ : ∃ p, ps[j]? = some p := ⟨ps[j], by simp [hlt]⟩
      have hpn := HPS.out p (List.mem_of_getElem? hpj)
      have hcj : (cellsI ps)[j]? = some (.int .i64 p) := by simp [cellsI, hpj]
      obtain ⟨bl, ol, hla, hcl, hbl⟩ := (HL1.out.adv h1 (fun ad e => by
        have := HGL.out ad e
        rw [HA.out.own _ this.2, this.1]; omega)).some (by intro e; rw [e] at hcj; simp at hcj)
      have hcl1 := hcl j _ hcj
      have hrow := HR1.out.adv h1 (by omega)
      obtain ⟨hg, hG, hf, hc⟩ := hrow.at h0
      obtain ⟨x, hx⟩ : ∃ x, t[p]? = some x := ⟨t[p]'(by rw [HN.out]; exact hpn), by simp⟩
      have hcx := hc p _ (cellsU_at t p x hx)
      have hD := (HK1.out.adv h1 (by omega)).d
      have hKz := (HK1.out.adv h1 (by omega)).lt
      have hpk : picks t (ps.take (j + 1)) = picks t (ps.take j) ++ [x] := by
        rw [List.take_add_one, hpj]; simp [picks, hx]
      have HPK := Lib.hid hpk
      have H1 := Lib.hid h1
      have H2 := Lib.hid h2
      clear h1 h2 hpk hcl hc hf hcj hpj hx hG hrow
      rw [hla]
      go_wp2_with fail
      have HZ := Lib.hid (show Reads (wr.alloc (.cells #[.int .u16 x] 41)).drew (some ⟨wr.heap.size, 0, none⟩) (cellsU [x]) from Reads.new wr [.int .u16 x] 41)
      have HL := Lib.hid (show (base ++ picks t (ps.take j)).length + 1 ≤ 256 from by simp [picks]; omega)
      go_region_with (go_at_call 30; refine (pushPU (own1 wr Gr 0) i D (base ++ picks t (ps.take j)) [x] _ 1 1 _ (H2.out.alloc (.cells #[.int .u16 x] 41) 0).drew rfl HL.out HZ.out).mono ?_; rintro e w2 ⟨rfl, G2, ha2, hp2⟩)
      all_goals
        have HA2 := Lib.hid (H1.out.trans (((Adv.refl (· = i) wr Gr).alloc (.cells #[.int .u16 x] 41) 0).drew.trans ha2))
        clear ha2
        go_wp2
        go_roundw
        case rel => exact ⟨j + 1, by omega, by go_num, G2, HA2.out, by rw [HPK.out, ← List.append_assoc]; exact hp2⟩
        case measure => simp [intOf]; omega
    · have hjn : j = ps.length := by omega
      have HJ := Lib.hid hjn
      have HB := Lib.hid (And.intro h1 h2)
      clear hjn h1 h2
      go_wp2
      go_end0
      rw [HJ.out, List.take_length] at HB
      exact ⟨rfl, Gr, HA.out.trans HB.out.1, HB.out.2⟩
end Go.Proofs.YtdnalhjdmlkbmaaDoor
