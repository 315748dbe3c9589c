/- mem.New. -/
import Derived.Test.YtdnalhjdmlkbmaaDoorNew
namespace Go.Proofs.YtdnalhjdmlkbmaaDoor
open Go.RowKit

theorem valI_none : ∀ (l : List (Int × Value)) (k : Int), (∀ x ∈ l, x.1 ≠ k) → valI l k = none
  | [], _, _ => rfl
  | p :: l, k, h => by
    unfold valI
    rw [if_neg (h p List.mem_cons_self)]
    exact valI_none l k fun x hx => h x (List.mem_cons_of_mem _ hx)
theorem bankL_keys (l : List (Int × List Int)) (bs : List Nat) : ∀ x ∈ bankL (newM l) bs, ∃ q ∈ l, q.1 = x.1 := by
  intro x hx
  unfold bankL newM at hx
  simp only at hx
  obtain ⟨i, hi⟩ := List.getElem?_of_mem hx
  rw [List.getElem?_zipWith] at hi
  cases h1 : (l.map fun p => (p.1, p.2 ++ List.replicate (16384 - p.2.length) 0))[i]? with
  | none => rw [h1] at hi; simp at hi
  | some a =>
    cases h2 : bs[i]? with
    | none => rw [h1, h2] at hi; simp at hi
    | some b =>
      rw [h1, h2] at hi
      simp only [Option.some.injEq] at hi
      rw [List.getElem?_map] at h1
      cases h3 : l[i]? with
      | none => rw [h3] at h1; simp at h1
      | some q =>
        rw [h3] at h1
        simp only [Option.map_some, Option.some.injEq] at h1
        exact ⟨q, List.mem_of_getElem? h3, by rw [← hi, ← h1]⟩
theorem info_u8 : (Tryd.prog.info? 5).map (·.size) = some 1 := by kernel_rfl
set_option maxRecDepth 100000 in
set_option maxHeartbeats 1000000 in
theorem new_ok (G : Nat → Nat) (i : Nat) (hi : i ≠ 0) (la : Option Addr) (n c : Nat) (l : List (Int × List Int)) (hn : l.length = n) (hn2 : n ≤ 1000000) (hmay : mayBanks l = true) (w : World)
    (hin : ∀ (w' : World) (G' : Nat → Nat), Adv (fun _ => False) w G w' G' → BankIn w' la l) :
    Calls Tryd.prog 52 #[.slice la n c] w fun e w' => ∃ D G', e = .returned (.tuple #[.pointer (some ⟨D, 0, none⟩), .int .i64 0]) ∧ Adv (fun _ => False) w G w' G' ∧ PM w' G' i D (newM l) := by
  have hmm := @run_makeMap Tryd.prog
  have hz := Tryd.zeroCells158_size
  have HP := Lib.hid (PMx.made w G i)
  have HI := Lib.hid hin
  have HN := Lib.hid hn
  have HM := Lib.hid (may_go l (-1) hmay)
  have HA := Lib.hid (((Adv.refl (fun _ => False) w G).alloc (.map #[] 0) i).alloc (.cells (Tryd.zeroCells135.setIfInBounds 0 (.map (some w.heap.size))) 135) i)
  clear hin hn hmay
  go_enter Tryd.func52, Tryd.ntmps52
  go_wp2_with fail
  go_loopw [5, 14] (fun v5 v14 wr => ∃ k : Nat, k ≤ n ∧ v14 = .int .i64 k ∧ v5 = .int .i64 (lastN (l.take k)) ∧ ∃ Gr bs, Adv (fun _ => False) w G wr Gr ∧ PMx wr Gr i (w.heap.size + 1) w.heap.size bs (.slice none 0 0) (newM (l.take k))) (fun _ v _ => n - (intOf v).toNat)
  case atStart => exact ⟨0, Nat.zero_le _, rfl, rfl, _, [], HA.out, HP.out⟩
  case round =>
    obtain ⟨k, hk, rfl, rfl, Gr, bs, h1, h2⟩ := hrel
    by_cases hlt : k < n
    · obtain ⟨p, hp⟩ : ∃ p, l[k]? = some p := ⟨l[k]'(by rw [HN.out]; exact hlt), by simp⟩
      obtain ⟨m1, m2, m3, m4, m5⟩ := HM.out k p hp
      have m1' : decide (p.1 ≤ lastN (l.take k)) = false := decide_eq_false (by unfold lastN; omega)
      have m3' : decide (16 ≤ p.1) = false := by simp; omega
      have m4' : decide (16384 < (p.2.length : Int)) = false := by simp; omega
      obtain ⟨b, o, da, dc, hla, c1, c2, hr⟩ := HI.out wr Gr h1 k p hp
      have hb := World.block_lt_of_cell? wr _ c1
      rw [hla]
      have HP1 := Lib.hid h2
      have HA1 := Lib.hid h1
      have HK := Lib.hid hp
      have HR := Lib.hid hr
      have hBl := h2.map.lt
      have hDl := h2.lt
      have M5 := Lib.hid m5
      clear h1 h2 hp hr m1 m5
      obtain ⟨W1, hcp, hg1, hk1, hz1, ho1, ht1, hu1⟩ := copy_into (P := Tryd.prog) ((wr.alloc (.cells #[.int .i64 p.1, .slice da p.2.length dc] 106)).alloc (.cells Tryd.zeroCells158 158)).drew 70 70 5 (wr.heap.size + 1) 16384 16384 Tryd.zeroCells158 158 (u8s p.2) da p.2.length dc Tryd.underlying70 info_u8
        (heap_at _ _ _ (by simp)) (u8s_length _) m4 (by rw [hz]; omega) ((HR.out.alloc _).alloc _) (u8s_one _)
      have HG1 := Lib.hid hg1
      have HK1 := Lib.hid hk1
      have HZ1 := Lib.hid (And.intro hz1 (And.intro ho1 (And.intro ht1 hu1)))
      clear hg1 hk1 hz1 ho1 ht1 hu1
      go_wp2_with fail
      go_region
      have hD1 : W1.heap[w.heap.size + 1]? = wr.heap[w.heap.size + 1]? := (HK1.out _ (by omega)).trans ((heap_past _ _ _ (by simp; omega)).trans (heap_past _ _ _ (by omega)))
      have hB1 : W1.heap[w.heap.size]? = wr.heap[w.heap.size]? := (HK1.out _ (by omega)).trans ((heap_past _ _ _ (by simp; omega)).trans (heap_past _ _ _ (by omega)))
      obtain ⟨C, hC, hCl⟩ := HP1.out.head
      have cD : W1.cell? ⟨w.heap.size + 1, 0, none⟩ = some (.map (some w.heap.size)) := block_cell (hD1.trans hC) 0 _ (by rw [← Array.getElem?_toList, hCl]; rfl)
      have cb : W1.cell? ⟨wr.heap.size, 0, none⟩ = some (.int .i64 p.1) := block_cell (C := #[.int .i64 p.1, .slice da p.2.length dc]) (T := 106) ((HK1.out _ (by omega)).trans ((heap_past _ _ _ (by simp)).trans (heap_at _ _ _ rfl))) 0 _ rfl
      have hv : valI (bankL (newM (l.take k)) bs) p.1 = none := valI_none _ _ fun x hx => by
        obtain ⟨q, hq, e⟩ := bankL_keys _ _ x hx
        have := M5.out q hq
        omega
      obtain ⟨ob, hup, hm2⟩ := update_I (P := Tryd.prog) Tryd.underlying130 Tryd.underlying5 (w := W1.drew) (HP1.out.map.of_block hB1) p.1 (.pointer (some ⟨wr.heap.size + 1, 0, none⟩)) hv
      have HM2 := Lib.hid hm2
      have HD1 := Lib.hid hD1
      have HB1 := Lib.hid hB1
      clear hC hCl hD1 hB1 hm2 hv
      go_wp2_with fail
      go_region
      obtain ⟨G2, hG2⟩ : ∃ G2, G2 = own1 (wr.alloc (.cells #[.int .i64 p.1, .slice da p.2.length dc] 106)) (own1 wr Gr 1000) i := ⟨_, rfl⟩
      have hA0 := (HA1.out.alloc (.cells #[.int .i64 p.1, .slice da p.2.length dc] 106) 1000).alloc (.cells Tryd.zeroCells158 158) i
      rw [← hG2] at hA0
      have hws := HA1.out.size
      have hZ := HZ1.out
      have hA2 := (hA0.drew.newBlock (w'' := W1) (wr.heap.size + 1) (by omega) HK1.out hZ.1 hZ.2.1 hZ.2.2.1 hZ.2.2.2).drew.newBlock (w'' := W1.drew.putObj w.heap.size ob) w.heap.size (Nat.le_refl _) (fun j hj => World.putObj_heap_other hj) (by simp [World.putObj]) rfl rfl rfl
      have hP0 : PMx wr G2 i (w.heap.size + 1) w.heap.size bs (.slice none 0 0) (newM (l.take k)) := HP1.out.adv (S := fun _ => False) (G' := G2)
        ⟨rfl, rfl, rfl, Nat.le_refl _, fun b hb => by rw [hG2, own1_old (by simp; omega), own1_old hb], fun _ _ _ => rfl⟩ id
      have hbs : wr.heap.size + 1 ∉ bs := fun hm => by
        obtain ⟨j, hj⟩ := List.getElem?_of_mem hm
        have hjl : j < bs.length := (List.getElem?_eq_some_iff.1 hj).1
        obtain ⟨q, hq⟩ : ∃ q, (newM (l.take k)).banks[j]? = some q := ⟨_, List.getElem?_eq_getElem (by rw [← HP1.out.blen]; exact hjl)⟩
        obtain ⟨⟨C, hC, _⟩, _⟩ := HP1.out.bank j q _ hq hj
        have := (Array.getElem?_eq_some_iff.1 hC).1
        omega
      have hP2 := hP0.more (w1 := W1) (w2 := W1.drew.putObj w.heap.size ob) HK.out (wr.heap.size + 1) hbs (by omega) (by rw [hG2]; simp [own1])
        (fun j hj hl => (HK1.out j hj).trans ((heap_past _ _ _ (by simp; omega)).trans (heap_past _ _ _ hl))) (by omega)
        ⟨_, HG1.out, by
          rw [bankZ_list, u8s_append]
          simp only [u8s]
          congr 1
          rw [← List.map_drop, List.drop_replicate]⟩ (fun j hj => World.putObj_heap_other hj) HM2.out
      have hlast := lastN_snoc l k p HK.out
      have HF := Lib.hid (And.intro hA2 (And.intro hP2 hlast))
      clear hA0 hG2 hA2 hP0 hP2 hbs hZ hlast hcp hup
      go_wp2
      go_roundw
      case rel => exact ⟨k + 1, by omega, by go_num, by rw [HF.out.2.2], G2, bs ++ [wr.heap.size + 1], HF.out.1, HF.out.2.1⟩
      case measure => simp [intOf]; omega
    · have hkn : k = n := by omega
      have HF := Lib.hid (And.intro h1 (And.intro h2 hkn))
      clear h1 h2 hkn
      go_wp2
      go_ret2
      obtain ⟨h1, h2, hkn⟩ := HF.out
      rw [hkn, List.take_of_length_le (by rw [HN.out]; omega)] at h2
      exact ⟨_, Gr, rfl, h1, _, bs, _, h2⟩
end Go.Proofs.YtdnalhjdmlkbmaaDoor
