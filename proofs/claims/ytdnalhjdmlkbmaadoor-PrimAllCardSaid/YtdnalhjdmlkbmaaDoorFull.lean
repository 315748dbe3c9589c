/- wispref04: full, MayBanks. -/
import Derived.Test.YtdnalhjdmlkbmaaDoorNewW
import Derived.Deep.RegionHeld3
import Derived.Deep.DeepCutAuto
namespace Go.Proofs.YtdnalhjdmlkbmaaDoor
open Go.RowKit

theorem madeU8 (n : Nat) : madeCells (Value.int .u8 0).cells n = (u8s (List.replicate n 0)).toArray := by
  apply Array.ext
  · simp [madeCells, u8s]
  · intro i h1 h2
    simp [madeCells, u8s, Value.cells, Nat.mod_one]
theorem infoU8 : (Tryd.prog.info? 5).map (fun i => (i.zero, i.size, i.bytes)) = some (some (.int .u8 0), 1, 1) := by kernel_rfl
theorem run_makeU8 (w : World) (n : Nat) (hn : n ≤ 100000000000000) : (Instr.makeSlice 70 (.int .i64 n) (.int .i64 n)).run Tryd.prog w = .ok (.slice (some ⟨w.heap.size, 0, none⟩) n n) (w.alloc (.cells (u8s (List.replicate n 0)).toArray 5)) := by
  obtain ⟨i0, hi, hz0, hz1, hz2⟩ := info_parts infoU8
  have h := run_make (P := Tryd.prog) w 70 5 i0 (.int .u8 0) Tryd.underlying70 hi hz0 .i64 .i64 n n (by omega) (by omega) (by rw [hz2]; omega) (by omega)
  rwa [hz1, Int.toNat_natCast, Nat.mul_one, madeU8] at h

theorem full_set (xs : List Int) (n k : Nat) (x : Int) (hx : xs[k]? = some x) (hn : xs.length ≤ n) : (u8s (xs.take k ++ List.replicate (n - k) 0)).set k (.int .u8 x) = u8s (xs.take (k + 1) ++ List.replicate (n - (k + 1)) 0) := by
  have hk : k < xs.length := (List.getElem?_eq_some_iff.1 hx).1
  rw [show n - k = (n - (k + 1)) + 1 from by omega, List.replicate_succ, List.take_add_one, hx]
  simp only [u8s, List.map_append, List.map_cons, Option.toList_some, List.map_nil]
  rw [List.set_append_right _ _ (by simp; omega)]
  simp [Nat.min_eq_left (Nat.le_of_lt hk)]

set_option maxRecDepth 100000 in
set_option maxHeartbeats 1000000 in
theorem full_any (G : Nat → Nat) (q : Nat) (xa : Option Addr) (m c n : Nat) (xs : List Int) (w : World) (hl : xs.length = m) (hm : m ≤ n) (h0 : 0 < n) (hn : n ≤ 1000000) (hr : Reads w xa (u8s xs)) :
    Calls Tryd.prog 78 #[.slice xa m c, .int .i64 n] w fun e w' => ∃ b G', e = .returned (.slice (some ⟨b, 0, none⟩) n n) ∧ w.heap.size ≤ b ∧ Adv (fun _ => False) w G w' G' ∧
      Row 5 1 w' G' q (.slice (some ⟨b, 0, none⟩) n n) n (u8s (xs ++ List.replicate (n - m) 0)) := by
  have hmk := run_makeU8 w n (by omega)
  have HL := Lib.hid hl
  have HX := Lib.hid hr
  have HA0 := Lib.hid ((Adv.refl (fun _ => False) w G).alloc (.cells (u8s (List.replicate n 0)).toArray 5) q)
  have HR0 := Lib.hid (Row.new w G 5 1 q n (u8s (List.replicate n 0)) (by unfold maxLen; omega) (by simp [u8s]))
  clear hl hr
  go_enter Tryd.func78, Tryd.ntmps78
  go_wp2_with fail
  go_loopw [11] (fun v wr => ∃ k : Nat, k ≤ m ∧ v = .int .i64 k ∧ ∃ Gr, Adv (fun _ => False) w G wr Gr ∧ Row 5 1 wr Gr q (.slice (some ⟨w.heap.size, 0, none⟩) n n) n (u8s (xs.take k ++ List.replicate (n - k) 0))) (fun v _ => m - (intOf v).toNat)
  case atStart => exact ⟨0, Nat.zero_le _, rfl, _, HA0.out, HR0.out⟩
  case round =>
    obtain ⟨k, hk, rfl, Gr, h1, h2⟩ := hrel
    by_cases hlt : k < m
    · obtain ⟨x, hx⟩ : ∃ x, xs[k]? = some x := ⟨xs[k]'(by rw [HL.out]; exact hlt), by simp⟩
      have hxc := u8s_at xs k x hx
      obtain ⟨b, o, hxa, hcx, hb⟩ := (HX.out.adv h1 (fun _ _ => id)).some (by intro e; rw [e] at hxc; simp at hxc)
      have hc1 := hcx k _ hxc
      obtain ⟨hg, hG, hf, hc⟩ := h2.at h0
      have hlen : k < (u8s (xs.take k ++ List.replicate (n - k) 0)).length := by rw [h2.nlen]; omega
      have hc2 := hc k _ (List.getElem?_eq_getElem hlen)
      have hf2 := hf k
      have HS := Lib.hid (h2.store k hlen (.int .u8 x))
      have HE := Lib.hid (full_set xs n k x hx (by rw [HL.out]; exact hm))
      have H1 := Lib.hid h1
      clear hx hxc hcx hf hc hG h1 h2
      rw [hxa]
      go_wp2
      go_roundw
      case rel => exact ⟨k + 1, by omega, by go_num, Gr, H1.out.setNew (Nat.le_refl _) _, by rw [← HE.out]; exact HS.out.2⟩
      case measure => simp [intOf]; omega
    · have hkm : k = m := by omega
      have HF := Lib.hid (And.intro h1 (And.intro h2 hkm))
      clear h1 h2 hkm
      go_wp2
      go_ret
      obtain ⟨h1, h2, hkm⟩ := HF.out
      rw [hkm, List.take_of_length_le (by rw [HL.out]; omega)] at h2
      exact ⟨_, Gr, rfl, Nat.le_refl _, h1, h2⟩

set_option maxRecDepth 100000 in
set_option maxHeartbeats 1000000 in
theorem refMay_yes (G : Nat → Nat) (la : Option Addr) (n c : Nat) (l : List (Int × List Int)) (hn : l.length = n) (hn2 : n ≤ 1000000) (hmay : mayBanks l = true) (w : World)
    (hin : ∀ (w' : World) (G' : Nat → Nat), Adv (fun _ => False) w G w' G' → BankIn w' la l) :
    Calls Tryd.prog 77 #[.slice la n c] w fun e w' => e = .returned (.bool true) ∧ ∃ G', Adv (fun _ => False) w G w' G' := by
  have HI := Lib.hid hin
  have HN := Lib.hid hn
  have HM := Lib.hid (may_go l (-1) hmay)
  clear hin hn hmay
  go_enter Tryd.func77, Tryd.ntmps77
  go_wp2_with fail
  go_loopw [3, 8] (fun v3 v8 wr => ∃ k : Nat, k ≤ n ∧ v8 = .int .i64 k ∧ v3 = .int .i64 (lastN (l.take k)) ∧ ∃ Gr, Adv (fun _ => False) w G wr Gr) (fun _ v _ => n - (intOf v).toNat)
  case atStart => exact ⟨0, Nat.zero_le _, rfl, rfl, _, Adv.refl _ _ _⟩
  case round =>
    obtain ⟨k, hk, rfl, rfl, Gr, h1⟩ := hrel
    by_cases hlt : k < n
    · obtain ⟨p, hp⟩ : ∃ p, l[k]? = some p := ⟨l[k]'(by rw [HN.out]; exact hlt), by simp⟩
      obtain ⟨m1, m2, m3, m4, m5⟩ := HM.out k p hp
      have m1' : decide (p.1 ≤ lastN (l.take k)) = false := decide_eq_false (by unfold lastN; omega)
      have m3' : decide (15 < p.1) = false := by simp; omega
      have m4' : decide (16384 < (p.2.length : Int)) = false := by simp; omega
      obtain ⟨b, o, da, dc, hla, c1, c2, hr⟩ := HI.out wr Gr h1 k p hp
      have hb := World.block_lt_of_cell? wr _ c1
      have HA1 := Lib.hid h1
      have HL := Lib.hid (lastN_snoc l k p hp)
      rw [hla]
      clear h1 hp hr m1 m5
      go_wp2
      go_roundw
      case rel => exact ⟨k + 1, by omega, by go_num, by rw [HL.out], _, HA1.out.alloc _ 0⟩
      case measure => simp [intOf]; omega
    · have HF := Lib.hid h1
      clear h1
      go_wp2
      go_ret
      exact ⟨rfl, Gr, HF.out⟩
end Go.Proofs.YtdnalhjdmlkbmaaDoor
