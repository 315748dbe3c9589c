/- wisplaw06.born, of cells of the data stack alone: the program's side. -/
import Derived.Test.YtdnalhjdmlkbmaaDoorRefNew0
import Derived.Test.YtdnalhjdmlkbmaaDoorPU
namespace Go.Proofs.YtdnalhjdmlkbmaaDoor
open Go.RowKit

/-- Old blocks are whose they were, new ones whose they are. -/
def joined (w : World) (G Gx : Nat → Nat) : Nat → Nat := fun b => if b < w.heap.size then G b else Gx b
theorem joined_old {w : World} {G Gx : Nat → Nat} {b : Nat} (h : b < w.heap.size) : joined w G Gx b = G b := if_pos h
theorem joined_new {S : Nat → Prop} {w w' : World} {G Gx : Nat → Nat} {i : Nat} (h : Adv S w (fun _ => 0) w' Gx) (hi : i ≠ 0) : ∀ b, b < w'.heap.size → Gx b = i → joined w G Gx b = i := by
  intro b _ h1
  unfold joined
  rw [if_neg (fun hb => hi (by rw [← h1, h.own b hb])), h1]
theorem joined_adv {S : Nat → Prop} {w w' : World} {G Gx : Nat → Nat} (h : Adv S w (fun _ => 0) w' Gx) (h0 : ¬ S 0) : Adv (fun _ => False) w G w' (joined w G Gx) :=
  h.relabel (fun _ _ => h0) (fun _ hb => joined_old hb)
theorem PU.relabel {w : World} {G H : Nat → Nat} {i i' D : Nat} {l : List Int} (h : PU w G i D l) (hH : ∀ b, b < w.heap.size → G b = i → H b = i') : PU w H i' D l := h.imp fun _ h => h.relabel hH
theorem PR.relabel {w : World} {G H : Nat → Nat} {i i' D : Nat} {l : List (Int × Int)} (h : PR w G i D l) (hH : ∀ b, b < w.heap.size → G b = i → H b = i') : PR w H i' D l := h.imp fun _ h => h.relabel hH
theorem PMx.relabel {w : World} {G H : Nat → Nat} {i i' D B : Nat} {bs : List Nat} {tv : Value} {M : MemS} (h : PMx w G i D B bs tv M) (hH : ∀ b, b < w.heap.size → G b = i → H b = i') : PMx w H i' D B bs tv M :=
  ⟨h.head, hH _ h.lt h.hown, h.map, hH _ h.map.lt h.mown, h.blen, fun k p b hp hb => by
    obtain ⟨⟨C, h1, h2⟩, h3⟩ := h.bank k p b hp hb
    exact ⟨⟨C, h1, h2⟩, hH b (Array.getElem?_eq_some_iff.1 h1).1 h3⟩, ⟨h.tones.row, fun b e => hH b (h.tones.row.lt b e).2 (h.tones.own b e)⟩, h.nodup, h.ne, h.net, h.neb⟩
theorem PM.relabel {w : World} {G H : Nat → Nat} {i i' D : Nat} {M : MemS} (h : PM w G i D M) (hH : ∀ b, b < w.heap.size → G b = i → H b = i') : PM w H i' D M := by
  obtain ⟨B, bs, tv, h⟩ := h
  exact ⟨B, bs, tv, h.relabel hH⟩

def banks2 : List (Int × List Int) := [(0, [1, 2, 3]), (9, [4])]
def banksW (w : World) : World := ((w.alloc (.cells #[.int .u8 1, .int .u8 2, .int .u8 3] 5)).alloc (.cells #[.int .u8 4] 5)).alloc (.cells #[.int .i64 0, .slice (some ⟨w.heap.size, 0, none⟩) 3 3, .int .i64 9, .slice (some ⟨w.heap.size + 1, 0, none⟩) 1 1] 106)
theorem bankIn2 (w : World) (G : Nat → Nat) : ∀ (w' : World) (G' : Nat → Nat), Adv (fun _ => False) (banksW w) G w' G' → BankIn w' (some ⟨w.heap.size + 2, 0, none⟩) banks2 := by
  intro w' G' ha k p hp
  have h3 : (banksW w).heap[w.heap.size + 2]? = some (.cells #[.int .i64 0, .slice (some ⟨w.heap.size, 0, none⟩) 3 3, .int .i64 9, .slice (some ⟨w.heap.size + 1, 0, none⟩) 1 1] 106 (0, 0)) := heap_at _ _ _ (by simp)
  have r1 : Reads (banksW w) (some ⟨w.heap.size, 0, none⟩) (u8s [1, 2, 3]) := ((Reads.new w [.int .u8 1, .int .u8 2, .int .u8 3] 5).alloc _).alloc _
  have r2 : Reads (banksW w) (some ⟨w.heap.size + 1, 0, none⟩) (u8s [4]) := by
    have := (Reads.new (w.alloc (.cells #[.int .u8 1, .int .u8 2, .int .u8 3] 5)) [.int .u8 4] 5).alloc (.cells #[.int .i64 0, .slice (some ⟨w.heap.size, 0, none⟩) 3 3, .int .i64 9, .slice (some ⟨w.heap.size + 1, 0, none⟩) 1 1] 106)
    rw [show (w.alloc (.cells #[.int .u8 1, .int .u8 2, .int .u8 3] 5)).heap.size = w.heap.size + 1 from by simp] at this
    exact this
  match k, hp with
  | 0, hp =>
    cases hp
    exact ⟨_, 0, _, 3, rfl, ha.cell_some (block_cell h3 0 _ rfl) id, ha.cell_some (block_cell h3 1 _ rfl) id, r1.adv ha (fun _ _ => id)⟩
  | 1, hp =>
    cases hp
    exact ⟨_, 0, _, 1, rfl, ha.cell_some (block_cell h3 2 _ rfl) id, ha.cell_some (block_cell h3 3 _ rfl) id, r2.adv ha (fun _ _ => id)⟩
  | k + 2, hp => simp [banks2] at hp

/-- The six pointers of a world. -/
def Wld (w : World) (G : Nat → Nat) (K D R M : Nat) : Prop :=
  ∃ x y z, w.heap[K]? = some (.cells #[.pointer (some ⟨D, 0, none⟩), .pointer (some ⟨R, 0, none⟩), .pointer (some ⟨M, 0, none⟩), x, y, z] 52 (0, 0)) ∧ G K = 0

set_option maxRecDepth 100000 in
set_option maxHeartbeats 1000000 in
theorem born0 (G : Nat → Nat) (xa : Option Addr) (m c : Nat) (l : List Int) (w : World) (hl : l.length = m) (hm : m ≤ 256) (hr : Reads w xa (cellsU l)) (hcap : m ≤ c) (hc2 : c ≤ 100000000000000) :
    Calls Tryd.prog 20 #[.slice xa m c, .slice none 0 0] w fun e w' => ∃ K D R M G', e = .returned (.pointer (some ⟨K, 0, none⟩)) ∧ Adv (fun _ => False) w G w' G' ∧ Wld w' G' K D R M ∧ PU w' G' 1 D l ∧ PR w' G' 2 R [] ∧ PM w' G' 3 M (newM banks2) := by
  obtain ⟨i0, hi, hz0, hz1, hz2⟩ := info_parts Tryd.info41
  obtain ⟨j0, hj, hy0, hy1, hy2⟩ := info_parts Tryd.info59
  have HL := Lib.hid hl
  have HX := Lib.hid (hr.alloc (.cells #[] 41))
  have HA0 := Lib.hid ((Adv.refl (fun b => b = 9) w (fun _ => 0)).alloc (.cells #[] 41) 9)
  have HR0 := Lib.hid (Row.new w (fun _ => 0) 41 1 9 0 [] (Nat.zero_le _) rfl)
  have hmin : min (m : Int) 256 = m := by omega
  clear hl hr
  go_enter Tryd.func20, Tryd.ntmps20
  go_wp2_with (first
    | (at_builtin; refine wpList_append_reads rfl (.tmp 14) (.tmp 19) 42 rfl 41 i0 (.int .u16 0) 1 2 Tryd.underlying42 hi hz0 hz1 hz2 rfl (by decide) _ 9 (some ⟨w.heap.size, 0, none⟩) 0 0 [] rfl HR0.out xa m c (cellsU l) rfl (by rw [cellsU_length, HL.out, Nat.mul_one]) HX.out (cellsU_one l) (by unfold maxLen; omega) (by omega) ?_; intro va1 vc1 w1 G1 h1 h2; rw [Nat.zero_add, List.nil_append] at h1; rw [Nat.zero_add]; have HR1 := Lib.hid h1; have HA1 := Lib.hid (HA0.out.trans h2); clear h1 h2))
  obtain ⟨wa, hwa⟩ : ∃ wa, wa = w1.alloc (.cells #[] 59) := ⟨_, rfl⟩
  have hA2 := HA1.out.alloc (.cells #[] 59) 9
  have hRd := HR1.out.adv (S := fun _ => False) ((Adv.refl (fun _ => False) w1 G1).alloc (.cells #[] 59) 9) id
  rw [← hwa] at hA2 hRd ⊢
  obtain ⟨Ga, hGa⟩ : ∃ Ga, Ga = own1 w1 G1 9 := ⟨_, rfl⟩
  rw [← hGa] at hA2 hRd
  have HA2 := Lib.hid hA2
  have HRd := Lib.hid hRd
  clear hA2 hRd hGa
  have hsz : w1.heap.size < wa.heap.size := by rw [hwa]; simp
  clear hwa
  have HA3 := Lib.hid (HA2.out.alloc (.cells #[] 41) 9)
  have HRe := Lib.hid (HRd.out.adv (S := fun _ => False) ((Adv.refl (fun _ => False) wa Ga).alloc (.cells #[] 41) 9) id)
  have HR3 := Lib.hid (Row.new wa Ga 41 1 9 0 [] (Nat.zero_le _) rfl)
  go_loop [5] (fun v => v = .int .i64 0) (fun _ => 0)
  case atStart => rfl
  case round =>
    obtain rfl := hrel
    go_wp2_with (first
      | (at_builtin; refine wpList_append_reads rfl (.tmp 48) (.tmp 49) 42 rfl 41 i0 (.int .u16 0) 1 2 Tryd.underlying42 hi hz0 hz1 hz2 rfl (by decide) _ 9 (some ⟨wa.heap.size, 0, none⟩) 0 0 [] rfl HR3.out va1 m vc1 (cellsU l) rfl (by rw [cellsU_length, HL.out, Nat.mul_one]) HRe.out.reads (cellsU_one l) (by unfold maxLen; omega) (by omega) ?_; intro va2 vc2 w2 G2 h1 h2; rw [Nat.zero_add, List.nil_append] at h1; rw [Nat.zero_add]; have HR4 := Lib.hid h1; have HA4 := Lib.hid (HA3.out.trans h2); clear h1 h2))
    have HA5 := Lib.hid (HA4.out.alloc (.cells #[] 59) 9)
    refine (stacksP (own1 w2 G2 9) 1 2 va2 m vc2 l _ 0 0 [] _ HL.out hm (HR4.out.reads.alloc _) rfl (by omega) (.inl rfl) (fun _ h => by cases h)).mono ?_
    rintro e w3 ⟨D, R, G3, rfl, ha3, hp3, hr3⟩
    have hb1 := ((Adv.refl (fun _ => False) w3 G3).alloc (.cells #[.int .u8 1, .int .u8 2, .int .u8 3] 5) 9).alloc (.cells #[.int .u8 4] 5) 9
    have hb2 := hb1.alloc (.cells #[.int .i64 0, .slice (some ⟨w3.heap.size, 0, none⟩) 3 3, .int .i64 9, .slice (some ⟨w3.heap.size + 1, 0, none⟩) 1 1] 106) 9
    obtain ⟨G4, hG4⟩ : ∃ G4, G4 = own1 ((w3.alloc (.cells #[.int .u8 1, .int .u8 2, .int .u8 3] 5)).alloc (.cells #[.int .u8 4] 5)) (own1 (w3.alloc (.cells #[.int .u8 1, .int .u8 2, .int .u8 3] 5)) (own1 w3 G3 9) 9) 9 := ⟨_, rfl⟩
    rw [← hG4] at hb2
    have HB2 := Lib.hid hb2
    have HA6 := Lib.hid ((HA5.out.trans (ha3.mono (T := fun b => b = 9) (fun _ h => h.elim))).trans (hb2.mono (T := fun b => b = 9) (fun _ h => h.elim)))
    have HP6 := Lib.hid (hp3.adv hb2 id)
    have HR6 := Lib.hid (hr3.adv hb2 id)
    clear ha3 hp3 hr3 hb1 hb2 hG4
    go_wp2_with fail
    refine (new_ok G4 3 (by omega) _ 2 2 banks2 rfl (by omega) (by decide) _ (bankIn2 w3 G4)).mono ?_
    rintro e w5 ⟨M, G5, rfl, ha5, hm5⟩
    have HA7 := Lib.hid (HA6.out.trans (ha5.mono (T := fun b => b = 9) (fun _ h => h.elim)))
    have HP7 := Lib.hid (HP6.out.adv ha5 id)
    have HR7 := Lib.hid (HR6.out.adv ha5 id)
    have HM7 := Lib.hid hm5
    have HI7 := Lib.hid (fun (w' : World) (G' : Nat → Nat) (h : Adv (fun _ => False) w5 G5 w' G') => bankIn2 w3 G4 w' G' (ha5.trans h))
    clear ha5 hm5
    go_wp2_with fail
    refine (refNew_any G5 _ 2 2 banks2 rfl (by omega) (by decide) _ HI7.out).mono ?_
    rintro e w6 ⟨Z, G6, rfl, ha6⟩
    have HA8 := Lib.hid (HA7.out.trans (ha6.mono (T := fun b => b = 9) (fun _ h => h.elim)))
    have HP8 := Lib.hid (HP7.out.adv ha6 id)
    have HR8 := Lib.hid (HR7.out.adv ha6 id)
    have HM8 := Lib.hid (HM7.out.adv ha6 id)
    clear ha6
    go_wp2_with fail
    go_ret
    have hx := (((HA8.out.alloc (.cells #[.slice va1 m vc1] 112) 9).alloc (.cells #[.slice (some ⟨w1.heap.size, 0, none⟩) 0 0] 114) 9).alloc (.cells #[.pointer (some ⟨D, 0, none⟩), .pointer (some ⟨R, 0, none⟩), .pointer (some ⟨M, 0, none⟩), .pointer (some ⟨w6.heap.size, 0, none⟩), .pointer (some ⟨w6.heap.size + 1, 0, none⟩), .pointer (some ⟨Z, 0, none⟩)] 52) 0)
    have hf := (((Adv.refl (fun _ => False) w6 G6).alloc (.cells #[.slice va1 m vc1] 112) 9).alloc (.cells #[.slice (some ⟨w1.heap.size, 0, none⟩) 0 0] 114) 9).alloc (.cells #[.pointer (some ⟨D, 0, none⟩), .pointer (some ⟨R, 0, none⟩), .pointer (some ⟨M, 0, none⟩), .pointer (some ⟨w6.heap.size, 0, none⟩), .pointer (some ⟨w6.heap.size + 1, 0, none⟩), .pointer (some ⟨Z, 0, none⟩)] 52) 0
    refine ⟨w6.heap.size + 1 + 1, D, R, M, _, rfl, joined_adv hx (by omega), ⟨_, _, _, heap_at _ _ _ (by simp), ?_⟩, (HP8.out.adv hf id).relabel (joined_new hx (by omega)), (HR8.out.adv hf id).relabel (joined_new hx (by omega)), (HM8.out.adv hf id).relabel (joined_new hx (by omega))⟩
    have hs := HA8.out.size
    unfold joined
    rw [if_neg (by omega)]
    simp [own1]
end Go.Proofs.YtdnalhjdmlkbmaaDoor
