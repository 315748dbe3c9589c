/- wispref04.New: it makes a memory (what is in it is not told here). -/
import Derived.Test.YtdnalhjdmlkbmaaDoorFull
import Derived.RegionTactic
import Derived.Test.YtdnalhjdmlkbmaaDoorStep
namespace Go.Proofs.YtdnalhjdmlkbmaaDoor
open Go.RowKit

theorem infoBank : (Tryd.prog.info? 106).map (fun i => (i.zero, i.size, i.bytes)) = some (some (.agg #[.int .i64 0, .slice none 0 0]), 2, 32) := by kernel_rfl
/-- A document's memory's block: its banks are a row of i's. -/
def RM0 (w : World) (G : Nat → Nat) (i D : Nat) (k : Nat) : Prop :=
  ∃ bv a2 a3 a4 a5 a6 a7 a8 a9 a10, w.heap[D]? = some (.cells #[bv, a2, a3, a4, a5, a6, a7, a8, a9, a10] 161 (0, 0)) ∧ G D = 7 ∧ ∃ xs, Row 106 2 w G i bv k xs
def ramC : Array Value := (u8s (List.replicate 16384 0)).toArray
def scrC : Array Value := (u8s (List.replicate 3072 0)).toArray
theorem make_ram (w : World) : (Instr.makeSlice 70 (.int .i64 16384) (.int .i64 16384)).run Tryd.prog w = .ok (.slice (some ⟨w.heap.size, 0, none⟩) 16384 16384) (w.alloc (.cells ramC 5)) := run_makeU8 w 16384 (by omega)
theorem make_scr (w : World) : (Instr.makeSlice 70 (.int .i64 3072) (.int .i64 3072)).run Tryd.prog w = .ok (.slice (some ⟨w.heap.size, 0, none⟩) 3072 3072) (w.alloc (.cells scrC 5)) := run_makeU8 w 3072 (by omega)
theorem full16 (G : Nat → Nat) (q : Nat) (xa : Option Addr) (m c : Nat) (xs : List Int) (w : World) (hl : xs.length = m) (hm : m ≤ 16384) (hr : Reads w xa (u8s xs)) :
    Calls Tryd.prog 78 #[.slice xa m c, .int .i64 16384] w fun e w' => ∃ b G', e = .returned (.slice (some ⟨b, 0, none⟩) 16384 16384) ∧ w.heap.size ≤ b ∧ Adv (fun _ => False) w G w' G' ∧
      Row 5 1 w' G' q (.slice (some ⟨b, 0, none⟩) 16384 16384) 16384 (u8s (xs ++ List.replicate (16384 - m) 0)) :=
  full_any G q xa m c 16384 xs w hl hm (by omega) (by omega) hr
set_option maxRecDepth 100000 in
set_option maxHeartbeats 1000000 in
theorem refNew_any (G : Nat → Nat) (la : Option Addr) (n c : Nat) (l : List (Int × List Int)) (hn : l.length = n) (hn2 : n ≤ 1000000) (hmay : mayBanks l = true) (w : World)
    (hin : ∀ (w' : World) (G' : Nat → Nat), Adv (fun _ => False) w G w' G' → BankIn w' la l) :
    Calls Tryd.prog 53 #[.slice la n c] w fun e w' => ∃ D G', e = .returned (.tuple #[.pointer (some ⟨D, 0, none⟩), .int .i64 0]) ∧ Adv (fun _ => False) w G w' G' := by
  have hm1 := make_ram
  have hm2 := make_scr
  have HI0 := Lib.hid hin
  have hin2 : ∀ (w' : World) (G' : Nat → Nat), Adv (fun b => b = 6) w (fun _ => 0) w' G' → BankIn w' la l := fun w' G' h => hin w' (named w G G' 0 0) (h.relabel (fun _ _ => by omega) (fun _ hb => named_old hb))
  have HI := Lib.hid hin2
  have HN := Lib.hid hn
  have HM0 := Lib.hid hmay
  have HM := Lib.hid (may_go l (-1) hmay)
  obtain ⟨i0, hi, hz0, hz1, hz2⟩ := info_parts infoBank
  clear hin hin2 hn hmay
  go_enter Tryd.func53, Tryd.ntmps53
  go_wp2_with fail
  refine (refMay_yes (fun _ => 0) la n c l HN.out hn2 HM0.out _ (fun w' G' h => HI.out w' G' (h.mono (fun _ h => h.elim)))).mono ?_
  rintro e w1 ⟨rfl, G1, ha1⟩
  have HA1 := Lib.hid (ha1.mono (T := fun b => b = 6) (fun _ h => h.elim))
  clear ha1
  go_upto_region 3 with fail
  go_cut [4] (fun s4 wx => ∃ D Gx, s4 = .pointer (some ⟨D, 0, none⟩) ∧ Adv (fun b => b = 6) w (fun _ => 0) wx Gx ∧ RM0 wx Gx 6 D 0)
  case first =>
    go_region
    all_goals
      go_wp2_with fail
      go_meet
      refine ⟨w1.heap.size + 1 + 1, _, rfl, (((HA1.out.alloc _ 7).alloc _ 7).alloc _ 7).drew, ?_⟩
      exact ⟨_, _, _, _, _, _, _, _, _, _, heap_at _ _ _ (by simp), by simp [own1], [], World.ownsRow_nil _ _ _ _, fun b e => by cases e⟩
  case rest =>
    obtain ⟨D, Gx, rfl, h1, h2⟩ := hcut
    obtain ⟨wA, rfl⟩ : ∃ x : World, x = wc := ⟨_, rfl⟩
    have HA2 := Lib.hid h1
    have HR2 := Lib.hid h2
    clear h1 h2
    go_wp2_with fail
    go_loopw [16] (fun v wr => ∃ k : Nat, k ≤ n ∧ v = .int .i64 k ∧ ∃ Gr, Adv (fun b => b = 6) w (fun _ => 0) wr Gr ∧ RM0 wr Gr 6 D k) (fun v _ => n - (intOf v).toNat)
    case atStart => exact ⟨0, Nat.zero_le _, rfl, Gx, HA2.out, HR2.out⟩
    case round =>
      obtain ⟨k, hk, rfl, Gr, h1, h2⟩ := hrel
      by_cases hlt : k < n
      · obtain ⟨p, hp⟩ : ∃ p, l[k]? = some p := ⟨l[k]'(by rw [HN.out]; exact hlt), by simp⟩
        obtain ⟨m1, m2, m3, m4, m5⟩ := HM.out k p hp
        obtain ⟨b, o, da, dc, hla, c1, c2, hr⟩ := HI.out wr Gr h1 k p hp
        have hb := World.block_lt_of_cell? wr _ c1
        obtain ⟨bv, a2, a3, a4, a5, a6, a7, a8, a9, a10, hh, hG, xs, hrow⟩ := h2
        obtain ⟨va, vc, rfl, hvc, hkc, hva⟩ := hrow.slice
        have hDl : D < wr.heap.size := (Array.getElem?_eq_some_iff.1 hh).1
        have cD := block_cell hh 0 _ rfl
        have HA3 := Lib.hid h1
        have HH := Lib.hid hh
        have HGD := Lib.hid hG
        have HROW := Lib.hid hrow
        have HR := Lib.hid hr
        rw [hla]
        clear h1 hp hr m1 m5 hh hG hrow
        go_wp2_with fail
        have HRd := Lib.hid (show Reads (wr.alloc (.cells #[.int .i64 p.1, .slice da p.2.length dc] 106)).drew da (u8s p.2) from HR.out.alloc _)
        have hA4 := (HA3.out.alloc (.cells #[.int .i64 p.1, .slice da p.2.length dc] 106) 1000).drew
        have HA4 := Lib.hid hA4
        clear hA4
        have hA5 := ((Adv.refl (fun _ => False) wr Gr).alloc (.cells #[.int .i64 p.1, .slice da p.2.length dc] 106) 1000).drew
        have HROWa := Lib.hid (HROW.out.adv hA5 id)
        have hDa := (hA5.keep D hDl id).trans HH.out
        have hGa := (hA5.own D hDl).trans HGD.out
        have HDa := Lib.hid (And.intro hDa hGa)
        have hDz := hA5.size
        have HCD := Lib.hid (block_cell hDa 0 _ rfl)
        have hNa : (wr.alloc (.cells #[.int .i64 p.1, .slice da p.2.length dc] 106)).drew.heap[wr.heap.size]? = some (.cells #[.int .i64 p.1, .slice da p.2.length dc] 106 (0, 0)) := heap_alloc_new wr _
        have HCN := Lib.hid (block_cell hNa 0 _ rfl)
        clear hA5 hDa hGa hNa
        have hone : ∀ (x : Int) (y : Option Addr), ∀ u ∈ [Value.int .i64 x, .slice y 16384 16384], u.oneCell' = true := by
          intro x y u hu; simp at hu; rcases hu with rfl | rfl <;> rfl
        go_region_law (first
          | (refine step_append_row rfl (.tmp 24) (.tmp 31) 72 rfl 106 i0 (.agg #[.int .i64 0, .slice none 0 0]) 2 32 Tryd.underlying72 hi hz0 hz1 hz2 rfl (by decide) _ 6 va k vc xs rfl HROW2.out ⟨w2.heap.size, 0, none⟩ 1 1 [.int .i64 p.1, .slice (some ⟨fb, 0, none⟩) 16384 16384] rfl rfl (new_cells w2 _ _) (hone _ _) (by unfold maxLen; omega) (by omega) ?_; (intro va' vc' w3 G3 hr3 ha3; have HR3 := Lib.hid hr3; have HA3x := Lib.hid ha3; have HD3 := Lib.hid (And.intro ((ha3.keep D (by simp; omega) (by rw [HDb.out.2]; omega)).trans HDb.out.1) ((ha3.own D (by simp; omega)).trans HDb.out.2)); have cD3 := block_cell HD3.out.1 0 _ rfl; have fD3 := block_free HD3.out.1 0; clear hr3 ha3))
          | (go_simp; go_at_call 78; refine (full16 (own1 wr Gr 1000) 7 da p.2.length dc p.2 _ rfl m4 HRd.out).mono ?_; rintro e w2 ⟨fb, G2, rfl, hfb, ha2, hr2⟩; have hA6 := ha2.alloc (.cells #[.int .i64 p.1, .slice (some ⟨fb, 0, none⟩) 16384 16384] 106) 1000; have HROW2 := Lib.hid (HROWa.out.adv hA6 id); have HDb := Lib.hid (And.intro ((hA6.keep D (by omega) id).trans HDa.out.1) ((hA6.own D (by omega)).trans HDa.out.2)); have HA6 := Lib.hid hA6; have hs2 := ha2.size; have hDl2 : D < w2.heap.size := (by omega); have cD2 := ha2.cell_some HCD.out id; have cN2 := ha2.cell_some HCN.out id; clear hA6 hr2 ha2))
        all_goals
          have hDw : w.heap.size ≤ D := by
            rcases Nat.lt_or_ge D w.heap.size with hlt2 | hge
            · have := (HA3.out.own D hlt2).symm.trans HGD.out
              omega
            · exact hge
          have hfin := HA3.out.trans (((((Adv.refl (fun _ => False) wr Gr).alloc (.cells #[.int .i64 p.1, .slice da p.2.length dc] 106) 1000).drew.trans HA6.out).mono (T := fun b => b = 6) (fun _ h => h.elim)).trans HA3x.out)
          have hrm : RM0 (w3.setCell ⟨D, 0, none⟩ (.slice va' (k + 1) vc')) G3 6 D (k + 1) := by
            refine ⟨_, a2, a3, a4, a5, a6, a7, a8, a9, a10, ?_, HD3.out.2, _, HR3.out.adv (S := fun b => b = 7) ((Adv.refl (fun b => b = 7) w3 G3).setCell HD3.out.2 _) (by omega)⟩
            simp only [World.setCell, Array.getElem?_modify, HD3.out.1]; simp
          have HF := Lib.hid (And.intro (hfin.setNew (p := ⟨D, 0, none⟩) hDw (.slice va' (k + 1) vc')) hrm)
          clear hfin hrm hDw
          go_wp2
          go_roundw
          case rel => exact ⟨k + 1, by omega, by go_num, G3, HF.out.1, HF.out.2⟩
          case measure => simp [intOf]; omega
      · have HF := Lib.hid h1
        clear h1 h2
        go_wp2
        go_ret2
        exact ⟨D, named w G Gr 0 0, rfl, HF.out.relabel (fun _ _ => by omega) (fun _ hb => named_old hb)⟩
end Go.Proofs.YtdnalhjdmlkbmaaDoor
