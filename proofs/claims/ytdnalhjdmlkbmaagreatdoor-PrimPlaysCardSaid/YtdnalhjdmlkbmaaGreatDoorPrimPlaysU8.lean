/- wispref01.Unary, Binary and wispref06.memory, at each of their numbers; wispref06.returns; What a plain primitive does, by its groups; wispref04: Image of the document's memory, SameBanks, SameImage, SameTones; wispref04: SameBanks, SameImage, SameTones of what is the same; wisplaw06.born of any data and ret: the program's parts and the document's; wisplaw06.memories: the program's memory and the document's, the same; wispref04.SameTones of what is the same; wisplaw06.memories answers true where both memories are the same; The world of wisplaw06, the program's parts and the document's alike; stacks answers true; wispref06.Do: the beginning, to the two new rows; wispref06.Do, of any number; wisplaw06.near answers true where both sides hold the same; prim.Do where it does nothing: what is not plain, or a part is nil. -/
import Derived.StillTailTactics
import Derived.BigRegion
import Derived.Deep.RegionHeld3
import Derived.Laws.StructEq
import Derived.BigQuiet
import Derived.Test.YtdnalhjdmlkbmaaGreatDoorPrimPlaysU1
import Derived.Test.YtdnalhjdmlkbmaaGreatDoorPrimPlaysU2
import Derived.Test.YtdnalhjdmlkbmaaGreatDoorPrimPlaysU3
import Derived.Test.YtdnalhjdmlkbmaaGreatDoorPrimPlaysU4
import Derived.Test.YtdnalhjdmlkbmaaGreatDoorPrimPlaysU5
import Derived.Test.YtdnalhjdmlkbmaaGreatDoorPrimPlaysU6
import Derived.Test.YtdnalhjdmlkbmaaGreatDoorPrimPlaysU7
set_option linter.unusedVariables false
set_option linter.unusedSimpArgs false
set_option linter.unnecessarySimpa false
namespace Go.Proofs.YtdnalhjdmlkbmaaGreatDoor
open Go.RowKit
set_option linter.unusedVariables false
def unK (k : Nat) : Prop := k = 28 ∨ k = 29 ∨ k = 32 ∨ k = 33 ∨ k = 34 ∨ k = 35 ∨ k = 39 ∨ k = 48 ∨ k = 49
def binK (k : Nat) : Prop := k = 21 ∨ k = 22 ∨ k = 23 ∨ k = 24 ∨ k = 25 ∨ k = 26 ∨ k = 27 ∨ k = 30 ∨ k = 31 ∨ k = 36 ∨ k = 37 ∨ k = 38 ∨ k = 40 ∨ k = 41 ∨ k = 42 ∨ k = 43 ∨ k = 44 ∨ k = 45 ∨ k = 46 ∨ k = 47
theorem refUn_any (k : Nat) (hk : unK k) (x : Int) (h0 : 0 ≤ x) (h1 : x < 65536) (w : World) : Calls Tryz.prog 103 #[.int .i64 k, .int .u16 x] w fun e w' => e = .returned (.tuple #[.int .u16 (unF k x), .bool true]) ∧ w = w' := by
  unfold unK at hk
  rcases hk with rfl | rfl | rfl | rfl | rfl | rfl | rfl | rfl | rfl
  · exact refUn_28 x h0 h1 w
  · exact refUn_29 x h0 h1 w
  · exact refUn_32 x h0 h1 w
  · exact refUn_33 x h0 h1 w
  · exact refUn_34 x h0 h1 w
  · exact refUn_35 x h0 h1 w
  · exact refUn_39 x h0 h1 w
  · exact refUn_48 x h0 h1 w
  · exact refUn_49 x h0 h1 w
theorem refBin_any (k : Nat) (hk : binK k) (x y : Int) (h0 : 0 ≤ x) (h1 : x < 65536) (h2 : 0 ≤ y) (h3 : y < 65536) (w : World) : Calls Tryz.prog 104 #[.int .i64 k, .int .u16 x, .int .u16 y] w fun e w' => e = .returned (.tuple #[.int .u16 (binF k x y), .bool true]) ∧ w = w' := by
  unfold binK at hk
  rcases hk with rfl | rfl | rfl | rfl | rfl | rfl | rfl | rfl | rfl | rfl | rfl | rfl | rfl | rfl | rfl | rfl | rfl | rfl | rfl | rfl
  · exact refBin_21 x y h0 h1 h2 h3 w
  · exact refBin_22 x y h0 h1 h2 h3 w
  · exact refBin_23 x y h0 h1 h2 h3 w
  · exact refBin_24 x y h0 h1 h2 h3 w
  · exact refBin_25 x y h0 h1 h2 h3 w
  · exact refBin_26 x y h0 h1 h2 h3 w
  · exact refBin_27 x y h0 h1 h2 h3 w
  · exact refBin_30 x y h0 h1 h2 h3 w
  · exact refBin_31 x y h0 h1 h2 h3 w
  · exact refBin_36 x y h0 h1 h2 h3 w
  · exact refBin_37 x y h0 h1 h2 h3 w
  · exact refBin_38 x y h0 h1 h2 h3 w
  · exact refBin_40 x y h0 h1 h2 h3 w
  · exact refBin_41 x y h0 h1 h2 h3 w
  · exact refBin_42 x y h0 h1 h2 h3 w
  · exact refBin_43 x y h0 h1 h2 h3 w
  · exact refBin_44 x y h0 h1 h2 h3 w
  · exact refBin_45 x y h0 h1 h2 h3 w
  · exact refBin_46 x y h0 h1 h2 h3 w
  · exact refBin_47 x y h0 h1 h2 h3 w
/-- What memory hands back, and the memory behind it. -/
def memOut (k : Nat) (x : List Int) (m : MemS) : List Int := match k with
  | 50 => [cellF m (x.getD 0 0)] | 52 => [loadF m (x.getD 0 0)] | 61 => [m.pad] | _ => []
def memNew (k : Nat) (x : List Int) (m : MemS) : MemS := match k with
  | 51 => setCellF m (x.getD 1 0) (x.getD 0 0) | 53 => storeF m (x.getD 1 0) (x.getD 0 0 % 256) | 54 => setCellF m (x.getD 1 0) ((cellF m (x.getD 1 0) + x.getD 0 0) % 65536)
  | 60 => plotF m (x.getD 0 0) (x.getD 1 0) (x.getD 2 0) | 62 => playF m (x.getD 0 0) (x.getD 1 0 % 256) | 63 => storeF m 65280 (x.getD 0 0 % 256) | _ => m
theorem refMem_any (k : Nat) (hk : (50 ≤ k ∧ k ≤ 54) ∨ (60 ≤ k ∧ k ≤ 63)) (G : Nat → Nat) (d Z : Nat) (hd : d ≠ 0) (m : MemS) (t : Nat) (hg : MGood m t) (ht : t ≤ 99999) (xa : Option Addr) (n cx : Nat) (xs : List Int) (w : World) (hz : RM w G d Z m) (hn : (n : Int) = takesN k) (hl : xs.length = n) (h16 : D16 xs)
    (hr : Reads w xa (cellsU xs)) (h0 : ∀ ad, xa = some ad → G ad.block = 0) :
    Calls Tryz.prog 102 #[.int .i64 k, .slice xa n cx, .pointer (some ⟨Z, 0, none⟩)] w (OutIs (SD d) w G (memOut k xs m) (fun w' G' => RM w' G' d Z (memNew k xs m))) := by
  rcases (show k = 50 ∨ k = 51 ∨ k = 52 ∨ k = 53 ∨ k = 54 ∨ k = 60 ∨ k = 61 ∨ k = 62 ∨ k = 63 by omega) with rfl | rfl | rfl | rfl | rfl | rfl | rfl | rfl | rfl
  · obtain rfl : n = 1 := by have : takesN 50 = 1 := rfl; omega
    obtain ⟨a, rfl⟩ := list1 hl
    obtain ⟨g, o, rfl, hgl, c1⟩ := reads1 hr
    exact refMem_50 G d Z hd m t hg ht g o cx a w hz c1 (h16 a (by simp))
  · obtain rfl : n = 2 := by have : takesN 51 = 2 := rfl; omega
    obtain ⟨a, b, rfl⟩ := list2 hl
    obtain ⟨g, o, rfl, hgl, c1, c2⟩ := reads2 hr
    exact refMem_51 G d Z hd m t hg ht g o cx a b w hz c1 (h16 a (by simp)) c2 (h16 b (by simp))
  · obtain rfl : n = 1 := by have : takesN 52 = 1 := rfl; omega
    obtain ⟨a, rfl⟩ := list1 hl
    obtain ⟨g, o, rfl, hgl, c1⟩ := reads1 hr
    exact refMem_52 G d Z hd m t hg ht g o cx a w hz c1 (h16 a (by simp))
  · obtain rfl : n = 2 := by have : takesN 53 = 2 := rfl; omega
    obtain ⟨a, b, rfl⟩ := list2 hl
    obtain ⟨g, o, rfl, hgl, c1, c2⟩ := reads2 hr
    exact refMem_53 G d Z hd m t hg ht g o cx a b w hz c1 (h16 a (by simp)) c2 (h16 b (by simp))
  · obtain rfl : n = 2 := by have : takesN 54 = 2 := rfl; omega
    obtain ⟨a, b, rfl⟩ := list2 hl
    obtain ⟨g, o, rfl, hgl, c1, c2⟩ := reads2 hr
    exact refMem_54 G d Z hd m t hg ht g o cx a b w (h0 _ rfl) hz c1 (h16 a (by simp)) c2 (h16 b (by simp))
  · obtain rfl : n = 3 := by have : takesN 60 = 3 := rfl; omega
    obtain ⟨a, b, c, rfl⟩ := list3 hl
    obtain ⟨g, o, rfl, hgl, c1, c2, c3⟩ := reads3 hr
    exact refMem_60 G d Z hd m t hg ht g o cx a b c w hz c1 (h16 a (by simp)) c2 (h16 b (by simp)) c3 (h16 c (by simp))
  · obtain rfl : n = 0 := by have : takesN 61 = 0 := rfl; omega
    obtain rfl : xs = [] := List.eq_nil_of_length_eq_zero hl
    exact refMem_61 G d Z hd m t hg ht 0 0 cx xa w hz
  · obtain rfl : n = 2 := by have : takesN 62 = 2 := rfl; omega
    obtain ⟨a, b, rfl⟩ := list2 hl
    obtain ⟨g, o, rfl, hgl, c1, c2⟩ := reads2 hr
    exact refMem_62 G d Z hd m t hg ht g o cx a b w hz c1 (h16 a (by simp)) c2 (h16 b (by simp))
  · obtain rfl : n = 1 := by have : takesN 63 = 1 := rfl; omega
    obtain ⟨a, rfl⟩ := list1 hl
    obtain ⟨g, o, rfl, hgl, c1⟩ := reads1 hr
    exact refMem_63 G d Z hd m t hg ht g o cx a w hz c1 (h16 a (by simp))
end Go.Proofs.YtdnalhjdmlkbmaaGreatDoor
namespace Go.Proofs.YtdnalhjdmlkbmaaGreatDoor
open Go.RowKit
set_option linter.unusedVariables false
set_option maxRecDepth 100000 in
set_option maxHeartbeats 1000000 in
theorem refRet_55 (G : Nat → Nat) (j Y : Nat) (r : List (Int × Int)) (gx ox cx : Nat) (a : Int) (w : World) (hr : ER w G j Y r) (hroom : r.length + 1 ≤ 128) (ha : w.cell? ⟨gx, ox, none⟩ = some (.int .u16 a)) :
    Calls Tryz.prog 101 #[.int .i64 55, .slice (some ⟨gx, ox, none⟩) 1 cx, .pointer (some ⟨Y, 0, none⟩)] w (OutIs (· = j) w G [] (fun w' G' => ER w' G' j Y (r ++ [(4, a)]))) := by
  have HR := Lib.hid hr
  clear hr
  go_enter Tryz.func101, Tryz.ntmps101
  go_wp2_with fail
  refine (refLooks_any G j Y r 55 w HR.out (by omega)).mono ?_
  rintro e w1 ⟨rfl, G1, a1⟩
  have al := (((Adv.refl (fun _ => False) w1 G1)).alloc (.cells #[.int .i64 4, .int .u16 a] 111) 1000)
  have HP := Lib.hid ((HR.out.adv a1 id).adv al id)
  have A1 := Lib.hid ((a1.trans al).mono (T := (· = j)) fun _ h => h.elim)
  have ha := a1.cell_some ha id
  clear a1 al
  go_wp2_with fail
  refine (refPushR _ j Y r [(4, a)] (some ⟨w1.heap.size, 0, none⟩) 1 1 _ HP.out rfl hroom (Reads.new w1 (cellsR [(4, a)]) 111)).mono ?_
  rintro e w2 ⟨rfl, G2, a2, h2⟩
  have A2 := Lib.hid (A1.out.trans a2)
  have H2 := Lib.hid h2
  clear a2 h2
  go_wp2
  go_ret
  exact out_nil _ _ _ _ G2 A2.out _ H2.out
set_option maxRecDepth 100000 in
set_option maxHeartbeats 1000000 in
theorem refRet_57 (G : Nat → Nat) (j Y : Nat) (r : List (Int × Int)) (xa : Option Addr) (cx : Nat) (w : World) (hr : ER w G j Y r) (hm : r.length ≤ 100000) :
    Calls Tryz.prog 101 #[.int .i64 57, .slice xa 0 cx, .pointer (some ⟨Y, 0, none⟩)] w (OutIs (· = j) w G [lookV 57 r] (fun w' G' => ER w' G' j Y r)) := by
  have HR := Lib.hid hr
  clear hr
  obtain ⟨v, hv⟩ : ∃ v, v = lookV 57 r := ⟨_, rfl⟩
  rw [← hv]
  have HV := Lib.hid hv
  clear hv
  go_enter Tryz.func101, Tryz.ntmps101
  go_wp2_with fail
  refine (refLooks_any G j Y r 57 w HR.out hm).mono ?_
  rintro e w1 ⟨rfl, G1, a1⟩
  have A1 := Lib.hid a1
  rw [← HV.out]
  clear a1
  go_wp2
  go_ret
  have al := (Adv.refl (fun _ => False) w1 G1).alloc (.cells #[.int .u16 v] 31) 0
  exact ⟨_, 1, _, rfl, Nat.le_refl _, ((A1.out.trans al).mono fun _ h => h.elim), ⟨Reads.new w1 (cellsU [v]) 31, fun ad e => by cases e; exact ⟨own1_new _ _ _, by simp⟩⟩, HR.out.adv (A1.out.trans al) id⟩
set_option maxRecDepth 100000 in
set_option maxHeartbeats 1000000 in
theorem refRet_58 (G : Nat → Nat) (j Y : Nat) (r : List (Int × Int)) (xa : Option Addr) (cx : Nat) (w : World) (hr : ER w G j Y r) (hm : r.length ≤ 100000) :
    Calls Tryz.prog 101 #[.int .i64 58, .slice xa 0 cx, .pointer (some ⟨Y, 0, none⟩)] w (OutIs (· = j) w G [lookV 58 r] (fun w' G' => ER w' G' j Y r)) := by
  have HR := Lib.hid hr
  clear hr
  obtain ⟨v, hv⟩ : ∃ v, v = lookV 58 r := ⟨_, rfl⟩
  rw [← hv]
  have HV := Lib.hid hv
  clear hv
  go_enter Tryz.func101, Tryz.ntmps101
  go_wp2_with fail
  refine (refLooks_any G j Y r 58 w HR.out hm).mono ?_
  rintro e w1 ⟨rfl, G1, a1⟩
  have A1 := Lib.hid a1
  rw [← HV.out]
  clear a1
  go_wp2
  go_ret
  have al := (Adv.refl (fun _ => False) w1 G1).alloc (.cells #[.int .u16 v] 31) 0
  exact ⟨_, 1, _, rfl, Nat.le_refl _, ((A1.out.trans al).mono fun _ h => h.elim), ⟨Reads.new w1 (cellsU [v]) 31, fun ad e => by cases e; exact ⟨own1_new _ _ _, by simp⟩⟩, HR.out.adv (A1.out.trans al) id⟩
set_option maxRecDepth 100000 in
set_option maxHeartbeats 1000000 in
theorem refRet_59 (G : Nat → Nat) (j Y : Nat) (r : List (Int × Int)) (xa : Option Addr) (cx : Nat) (w : World) (hr : ER w G j Y r) (hm : r.length ≤ 100000) :
    Calls Tryz.prog 101 #[.int .i64 59, .slice xa 0 cx, .pointer (some ⟨Y, 0, none⟩)] w (OutIs (· = j) w G [lookV 59 r] (fun w' G' => ER w' G' j Y r)) := by
  have HR := Lib.hid hr
  clear hr
  obtain ⟨v, hv⟩ : ∃ v, v = lookV 59 r := ⟨_, rfl⟩
  rw [← hv]
  have HV := Lib.hid hv
  clear hv
  go_enter Tryz.func101, Tryz.ntmps101
  go_wp2_with fail
  refine (refLooks_any G j Y r 59 w HR.out hm).mono ?_
  rintro e w1 ⟨rfl, G1, a1⟩
  have A1 := Lib.hid a1
  rw [← HV.out]
  clear a1
  go_wp2
  go_ret
  have al := (Adv.refl (fun _ => False) w1 G1).alloc (.cells #[.int .u16 v] 31) 0
  exact ⟨_, 1, _, rfl, Nat.le_refl _, ((A1.out.trans al).mono fun _ h => h.elim), ⟨Reads.new w1 (cellsU [v]) 31, fun ad e => by cases e; exact ⟨own1_new _ _ _, by simp⟩⟩, HR.out.adv (A1.out.trans al) id⟩
set_option maxRecDepth 100000 in
set_option maxHeartbeats 1000000 in
theorem refRet_6 (G : Nat → Nat) (j Y : Nat) (r : List (Int × Int)) (gx ox cx : Nat) (a b : Int) (w : World) (hgx : G gx ≠ j) (hr : ER w G j Y r) (hroom : r.length + 2 ≤ 128) (ha : w.cell? ⟨gx, ox, none⟩ = some (.int .u16 a)) (hb : w.cell? ⟨gx, ox + 1, none⟩ = some (.int .u16 b)) :
    Calls Tryz.prog 101 #[.int .i64 6, .slice (some ⟨gx, ox, none⟩) 2 cx, .pointer (some ⟨Y, 0, none⟩)] w (OutIs (· = j) w G [] (fun w' G' => ER w' G' j Y (r ++ [(2, a), (3, b)]))) := by
  have HR := Lib.hid hr
  clear hr
  go_enter Tryz.func101, Tryz.ntmps101
  go_wp2_with fail
  refine (refLooks_any G j Y r 6 w HR.out (by omega)).mono ?_
  rintro e w1 ⟨rfl, G1, a1⟩
  have hgl : gx < w.heap.size := World.block_lt_of_cell? w _ ha
  have al := ((Adv.refl (fun _ => False) w1 G1).alloc (.cells #[.int .i64 2, .int .u16 a, .int .i64 3, .int .u16 b] 111) 1000).drew
  have HP := Lib.hid ((HR.out.adv a1 id).adv al id)
  have A1 := Lib.hid ((a1.trans al).mono (T := (· = j)) fun _ h => h.elim)
  have ka := a1.cell_some ha id
  have kb := a1.cell_some hb id
  have QC : w1.drew.cell? ⟨gx, ox, none⟩ = some (.int .u16 a) ∧ w1.drew.cell? ⟨gx, ox + 1, none⟩ = some (.int .u16 b) := ⟨ka, kb⟩
  have QA := Lib.hid (And.intro (al.cell_some ka id) (al.cell_some kb id))
  have QB := Lib.hid (show (w1.drew.alloc (.cells #[.int .i64 2, .int .u16 a, .int .i64 3, .int .u16 b] 111)).cell? ⟨gx, ox, none⟩ = some (.int .u16 a) ∧ (w1.drew.alloc (.cells #[.int .i64 2, .int .u16 a, .int .i64 3, .int .u16 b] 111)).cell? ⟨gx, ox + 1, none⟩ = some (.int .u16 b) from QA.out)
  have QD := Lib.hid (show (w1.alloc (.cells #[.int .i64 2, .int .u16 a, .int .i64 3, .int .u16 b] 111)).cell? ⟨gx, ox, none⟩ = some (.int .u16 a) ∧ (w1.alloc (.cells #[.int .i64 2, .int .u16 a, .int .i64 3, .int .u16 b] 111)).cell? ⟨gx, ox + 1, none⟩ = some (.int .u16 b) from QA.out)
  have HGX := Lib.hid (show ¬ ((own1 w1 G1 1000) gx = j) from by rw [own1_old (Nat.lt_of_lt_of_le hgl a1.size), a1.own _ hgl]; exact hgx)
  clear a1 al ha hb ka kb hgx hgl
  go_upto_region 4 with fail
  go_region_held3 (fun w' => w'.cell? ⟨gx, ox, none⟩ = some (.int .u16 a) ∧ w'.cell? ⟨gx, ox + 1, none⟩ = some (.int .u16 b)) (first | with_reducible exact QC | with_reducible exact QA.out | with_reducible exact QB.out | with_reducible exact QD.out | with_reducible assumption | trivial)
    (first | (go_at_call 42; refine (refPushR _ j Y r [(2, a), (3, b)] (some ⟨w1.heap.size, 0, none⟩) 2 2 _ HP.out rfl hroom (Reads.new w1 (cellsR [(2, a), (3, b)]) 111)).mono ?_; rintro e w2 ⟨rfl, G2, a2, h2⟩; have A2 := Lib.hid (A1.out.trans a2); have H2 := Lib.hid h2; have QC : w2.cell? ⟨gx, ox, none⟩ = some (.int .u16 a) ∧ w2.cell? ⟨gx, ox + 1, none⟩ = some (.int .u16 b) := ⟨a2.cell_some QA.out.1 HGX.out, a2.cell_some QA.out.2 HGX.out⟩; clear a2 h2))
  go_wp2
  go_ret
  exact out_nil _ _ _ _ G2 A2.out _ H2.out
set_option maxRecDepth 100000 in
set_option maxHeartbeats 1000000 in
theorem refRet_56 (G : Nat → Nat) (j Y : Nat) (r : List (Int × Int)) (v : Int) (xa : Option Addr) (cx : Nat) (w : World) (hr : ER w G j Y (r ++ [(4, v)])) (hm : r.length < 1000) :
    Calls Tryz.prog 101 #[.int .i64 56, .slice xa 0 cx, .pointer (some ⟨Y, 0, none⟩)] w (OutIs (· = j) w G [v] (fun w' G' => ER w' G' j Y r)) := by
  have HR := Lib.hid hr
  have HV := Lib.hid (show lookV 56 (r ++ [(4, v)]) = v from by
    have h := atV_in (l := r ++ [((4 : Int), v)]) (j := 0) (k := r.length) (kind := 4) (c := (4, v)) (by simp) (by simp)
    show atV (r ++ [(4, v)]) 0 4 = v
    simpa using h)
  clear hr
  go_enter Tryz.func101, Tryz.ntmps101
  go_wp2_with fail
  refine (refLooks_any G j Y (r ++ [(4, v)]) 56 w HR.out (by simp; omega)).mono ?_
  rintro e w1 ⟨rfl, G1, a1⟩
  have A1 := Lib.hid a1
  rw [HV.out]
  clear a1
  go_wp2_with fail
  refine (refPopR G1 j Y r (4, v) w1 (HR.out.adv A1.out id) hm).mono ?_
  rintro e w2 ⟨rfl, G2, a2, h2⟩
  have A2 := Lib.hid ((A1.out.mono (T := (· = j)) fun _ h => h.elim).trans a2)
  have H2 := Lib.hid h2
  clear a2 h2
  go_wp2
  go_ret
  have al := (Adv.refl (fun _ => False) w2 G2).alloc (.cells #[.int .u16 v] 31) 0
  exact ⟨_, 1, _, rfl, Nat.le_refl _, A2.out.trans (al.mono fun _ h => h.elim), ⟨Reads.new w2 (cellsU [v]) 31, fun ad e => by cases e; exact ⟨own1_new _ _ _, by simp⟩⟩, H2.out.adv al id⟩
end Go.Proofs.YtdnalhjdmlkbmaaGreatDoor
namespace Go.Proofs.YtdnalhjdmlkbmaaGreatDoor
open Go.RowKit
set_option linter.unusedVariables false
theorem actF_shuf (k : Nat) (h1 : 12 ≤ k) (h2 : k ≤ 20) (b x : List Int) (r : List (Int × Int)) (m : MemS) : actF k b x r m = (b ++ picks x (shufP k), r, m) ∧ ((picks x (shufP k)).length : Int) = leavesN k := by
  rcases (show k = 12 ∨ k = 13 ∨ k = 14 ∨ k = 15 ∨ k = 16 ∨ k = 17 ∨ k = 18 ∨ k = 19 ∨ k = 20 by omega) with rfl | rfl | rfl | rfl | rfl | rfl | rfl | rfl | rfl <;> exact ⟨rfl, rfl⟩
theorem actF_bin (k : Nat) (hk : binK k) (b x : List Int) (r : List (Int × Int)) (m : MemS) : actF k b x r m = (b ++ [binF k (x.getD 0 0) (x.getD 1 0)], r, m) ∧ takesN k = 2 ∧ leavesN k = 1 := by
  unfold binK at hk
  rcases hk with rfl | rfl | rfl | rfl | rfl | rfl | rfl | rfl | rfl | rfl | rfl | rfl | rfl | rfl | rfl | rfl | rfl | rfl | rfl | rfl <;> exact ⟨rfl, rfl, rfl⟩
theorem actF_un (k : Nat) (hk : unK k) (b x : List Int) (r : List (Int × Int)) (m : MemS) : actF k b x r m = (b ++ [unF k (x.getD 0 0)], r, m) ∧ takesN k = 1 ∧ leavesN k = 1 := by
  unfold unK at hk
  rcases hk with rfl | rfl | rfl | rfl | rfl | rfl | rfl | rfl | rfl <;> exact ⟨rfl, rfl, rfl⟩
theorem actF_mem (k : Nat) (hk : (50 ≤ k ∧ k ≤ 54) ∨ (60 ≤ k ∧ k ≤ 63)) (b x : List Int) (r : List (Int × Int)) (m : MemS) : actF k b x r m = (b ++ memOut k x m, r, memNew k x m) ∧ ((memOut k x m).length : Int) = leavesN k := by
  rcases (show k = 50 ∨ k = 51 ∨ k = 52 ∨ k = 53 ∨ k = 54 ∨ k = 60 ∨ k = 61 ∨ k = 62 ∨ k = 63 by omega) with rfl | rfl | rfl | rfl | rfl | rfl | rfl | rfl | rfl
  · exact ⟨rfl, rfl⟩
  · exact ⟨by (first | show (b, r, memNew 51 x m) = (b ++ [], r, _) | show (b, r, memNew 53 x m) = (b ++ [], r, _) | show (b, r, memNew 54 x m) = (b ++ [], r, _) | show (b, r, memNew 60 x m) = (b ++ [], r, _) | show (b, r, memNew 62 x m) = (b ++ [], r, _) | show (b, r, memNew 63 x m) = (b ++ [], r, _)); rw [List.append_nil], rfl⟩
  · exact ⟨rfl, rfl⟩
  · exact ⟨by (first | show (b, r, memNew 51 x m) = (b ++ [], r, _) | show (b, r, memNew 53 x m) = (b ++ [], r, _) | show (b, r, memNew 54 x m) = (b ++ [], r, _) | show (b, r, memNew 60 x m) = (b ++ [], r, _) | show (b, r, memNew 62 x m) = (b ++ [], r, _) | show (b, r, memNew 63 x m) = (b ++ [], r, _)); rw [List.append_nil], rfl⟩
  · exact ⟨by (first | show (b, r, memNew 51 x m) = (b ++ [], r, _) | show (b, r, memNew 53 x m) = (b ++ [], r, _) | show (b, r, memNew 54 x m) = (b ++ [], r, _) | show (b, r, memNew 60 x m) = (b ++ [], r, _) | show (b, r, memNew 62 x m) = (b ++ [], r, _) | show (b, r, memNew 63 x m) = (b ++ [], r, _)); rw [List.append_nil], rfl⟩
  · exact ⟨by (first | show (b, r, memNew 51 x m) = (b ++ [], r, _) | show (b, r, memNew 53 x m) = (b ++ [], r, _) | show (b, r, memNew 54 x m) = (b ++ [], r, _) | show (b, r, memNew 60 x m) = (b ++ [], r, _) | show (b, r, memNew 62 x m) = (b ++ [], r, _) | show (b, r, memNew 63 x m) = (b ++ [], r, _)); rw [List.append_nil], rfl⟩
  · exact ⟨rfl, rfl⟩
  · exact ⟨by (first | show (b, r, memNew 51 x m) = (b ++ [], r, _) | show (b, r, memNew 53 x m) = (b ++ [], r, _) | show (b, r, memNew 54 x m) = (b ++ [], r, _) | show (b, r, memNew 60 x m) = (b ++ [], r, _) | show (b, r, memNew 62 x m) = (b ++ [], r, _) | show (b, r, memNew 63 x m) = (b ++ [], r, _)); rw [List.append_nil], rfl⟩
  · exact ⟨by (first | show (b, r, memNew 51 x m) = (b ++ [], r, _) | show (b, r, memNew 53 x m) = (b ++ [], r, _) | show (b, r, memNew 54 x m) = (b ++ [], r, _) | show (b, r, memNew 60 x m) = (b ++ [], r, _) | show (b, r, memNew 62 x m) = (b ++ [], r, _) | show (b, r, memNew 63 x m) = (b ++ [], r, _)); rw [List.append_nil], rfl⟩
theorem kinds_of (k : Nat) (h1 : 1 ≤ k) (hk : k < 64) (hp : plainB k = true) : (12 ≤ k ∧ k ≤ 20) ∨ unK k ∨ binK k ∨ ((50 ≤ k ∧ k ≤ 54) ∨ (60 ≤ k ∧ k ≤ 63)) ∨ k = 9 ∨ k = 6 ∨ k = 55 ∨ k = 56 ∨ (57 ≤ k ∧ k ≤ 59) := by
  by_cases h : k < 12
  · rcases (show k = 1 ∨ k = 2 ∨ k = 3 ∨ k = 4 ∨ k = 5 ∨ k = 6 ∨ k = 7 ∨ k = 8 ∨ k = 9 ∨ k = 10 ∨ k = 11 by omega) with rfl | rfl | rfl | rfl | rfl | rfl | rfl | rfl | rfl | rfl | rfl <;> first | omega | exact absurd hp (by decide)
  · unfold unK binK
    omega
/-- What returns hands back, and the return stack behind it. -/
def retOut (k : Nat) (r : List (Int × Int)) : List Int := if k = 6 ∨ k = 55 then [] else [lookV k r]
def retNew (k : Nat) (x : List Int) (r : List (Int × Int)) : List (Int × Int) :=
  match k with
  | 6 => r ++ [(2, x.getD 0 0), (3, x.getD 1 0)]
  | 55 => r ++ [(4, x.getD 0 0)]
  | 56 => r.dropLast
  | _ => r
theorem actF_ret (k : Nat) (hk : k = 6 ∨ (55 ≤ k ∧ k ≤ 59)) (b x : List Int) (r : List (Int × Int)) (m : MemS) : actF k b x r m = (b ++ retOut k r, retNew k x r, m) ∧ ((retOut k r).length : Int) = leavesN k := by
  rcases (show k = 6 ∨ k = 55 ∨ k = 56 ∨ k = 57 ∨ k = 58 ∨ k = 59 by omega) with rfl | rfl | rfl | rfl | rfl | rfl
  · exact ⟨by show (b, retNew 6 x r, m) = (b ++ [], _, m); rw [List.append_nil], rfl⟩
  · exact ⟨by show (b, retNew 55 x r, m) = (b ++ [], _, m); rw [List.append_nil], rfl⟩
  · exact ⟨rfl, rfl⟩
  · exact ⟨rfl, rfl⟩
  · exact ⟨rfl, rfl⟩
  · exact ⟨rfl, rfl⟩
theorem topZ {r : List (Int × Int)} {kind : Int} (h : atE r 0 kind = 0) : ∃ r0 c, r = r0 ++ [(kind, c)] ∧ atV r 0 kind = c := by
  rcases List.eq_nil_or_concat r with rfl | ⟨r0, p, rfl⟩
  · exact absurd h (by rw [(at_out (by simp)).2]; decide)
  · rw [List.concat_eq_append] at h ⊢
    have h1 := atE_in (l := r0 ++ [p]) (j := 0) (k := r0.length) (kind := kind) (c := p) (by simp) (by simp)
    have h2 := atV_in (l := r0 ++ [p]) (j := 0) (k := r0.length) (kind := kind) (c := p) (by simp) (by simp)
    have hk : p.1 = kind := by
      have h3 : atE (r0 ++ [p]) ((0 : Nat) : Int) kind = 0 := h
      rw [h1] at h3
      by_cases e : p.1 = kind
      · exact e
      · rw [if_neg e] at h3; exact absurd h3 (by decide)
    rw [if_pos hk] at h2
    exact ⟨r0, p.2, by rw [← hk], h2⟩
theorem refRet_any (k : Nat) (hk : k = 6 ∨ (55 ≤ k ∧ k ≤ 59)) (G : Nat → Nat) (j Y : Nat) (hj : j ≠ 0) (r : List (Int × Int)) (xa : Option Addr) (n cx : Nat) (xs : List Int) (w : World) (hr : ER w G j Y r) (hrl : r.length ≤ 128) (hn : (n : Int) = takesN k) (hl : xs.length = n)
    (hd : Reads w xa (cellsU xs)) (h0 : ∀ ad, xa = some ad → G ad.block = 0) (hlk : looksF k r = 0) (hroom : (r.length : Int) + addsF k ≤ 128) :
    Calls Tryz.prog 101 #[.int .i64 k, .slice xa n cx, .pointer (some ⟨Y, 0, none⟩)] w (OutIs (· = j) w G (retOut k r) (fun w' G' => ER w' G' j Y (retNew k xs r))) := by
  rcases (show k = 6 ∨ k = 55 ∨ k = 56 ∨ k = 57 ∨ k = 58 ∨ k = 59 by omega) with rfl | rfl | rfl | rfl | rfl | rfl
  · obtain rfl : n = 2 := by have : takesN 6 = 2 := rfl; omega
    obtain ⟨a, b, rfl⟩ := list2 hl
    obtain ⟨g, o, rfl, hgl, c1, c2⟩ := reads2 hd
    have h2 : addsF ((6 : Nat) : Int) = 2 := rfl
    exact refRet_6 G j Y r g o cx a b w (by rw [h0 _ rfl]; exact fun h => hj h.symm) hr (by have : ((6 : Nat) : Int) = 6 := rfl; omega) c1 c2
  · obtain rfl : n = 1 := by have : takesN 55 = 1 := rfl; omega
    obtain ⟨a, rfl⟩ := list1 hl
    obtain ⟨g, o, rfl, hgl, c1⟩ := reads1 hd
    have h2 : addsF ((55 : Nat) : Int) = 1 := rfl
    exact refRet_55 G j Y r g o cx a w hr (by have : ((55 : Nat) : Int) = 55 := rfl; omega) c1
  · obtain rfl : n = 0 := by have : takesN 56 = 0 := rfl; omega
    obtain ⟨r0, c, rfl, e⟩ := topZ (show atE r 0 4 = 0 from hlk)
    have h1 := refRet_56 G j Y r0 c xa cx w hr (by simp at hrl; omega)
    have e1 : retOut 56 (r0 ++ [(4, c)]) = [c] := by
      show [atV (r0 ++ [(4, c)]) 0 4] = [c]
      rw [e]
    have e2 : retNew 56 xs (r0 ++ [(4, c)]) = r0 := by
      show (r0 ++ [(4, c)]).dropLast = r0
      rw [List.dropLast_concat]
    rw [e1, e2]
    exact h1
  · obtain rfl : n = 0 := by have : takesN 57 = 0 := rfl; omega
    exact refRet_57 G j Y r xa cx w hr (by omega)
  · obtain rfl : n = 0 := by have : takesN 58 = 0 := rfl; omega
    exact refRet_58 G j Y r xa cx w hr (by omega)
  · obtain rfl : n = 0 := by have : takesN 59 = 0 := rfl; omega
    exact refRet_59 G j Y r xa cx w hr (by omega)
theorem faultF_zero {k : Nat} {d : List Int} {r : List (Int × Int)} (h : faultF k d r = 0) : needF d.length (takesN k) (leavesN k) = 0 ∧ looksF k r = 0 ∧ (r.length : Int) + addsF k ≤ 128 := by
  unfold faultF at h
  by_cases h1 : needF d.length (takesN k) (leavesN k) = 0
  · rw [if_neg (by rw [h1]; simp)] at h
    by_cases h2 : looksF k r = 0
    · rw [if_neg (by rw [h2]; simp)] at h
      refine ⟨h1, h2, ?_⟩
      by_cases h3 : 128 < (r.length : Int) + addsF k
      · rw [if_pos h3] at h; exact absurd h (by decide)
      · omega
    · rw [if_pos h2] at h; exact absurd h h2
  · rw [if_pos h1] at h; exact absurd h h1
theorem doF_zero {k : Nat} {d : List Int} {r : List (Int × Int)} {m : MemS} (h : faultF k d r = 0) : doF k d r m = actF k (d.take (d.length - (takesN k).toNat)) (d.drop (d.length - (takesN k).toNat)) r m := by
  unfold doF; rw [if_neg (by rw [h]; simp)]
theorem doF_fault {k : Nat} {d : List Int} {r : List (Int × Int)} {m : MemS} (h : faultF k d r ≠ 0) : doF k d r m = (d, r, m) := by
  unfold doF; rw [if_pos h]
end Go.Proofs.YtdnalhjdmlkbmaaGreatDoor
namespace Go.Proofs.YtdnalhjdmlkbmaaGreatDoor
open Go.RowKit
set_option linter.unusedVariables false
/-- An image's value, and what it reads as. -/
def ImgIs (w : World) (v : Value) (m : MemS) : Prop := ∃ ba bc ra rc sa sc, v = .agg #[.slice ba m.banks.length bc, .slice ra 16384 rc, .slice sa 3072 sc, .int .u8 m.chosen, .int .u8 m.pad, .int .u16 m.pitch, .int .u8 m.volume, .int .u16 m.time] ∧
  BankIn w ba m.banks ∧ Reads w ra (u8s m.ram) ∧ Reads w sa (u8s m.screen)
theorem BankIn.adv0 {S : Nat → Prop} {w w' : World} {G' : Nat → Nat} {la : Option Addr} {l : List (Int × List Int)} (h : BankIn w la l) (ha : Adv S w (fun _ => 0) w' G') (h0 : ¬ S 0) : BankIn w' la l := by
  intro k p hp
  obtain ⟨b, o, da, dc, e, c1, c2, hr⟩ := h k p hp
  exact ⟨b, o, da, dc, e, ha.cell_some c1 h0, ha.cell_some c2 h0, hr.adv ha fun _ _ => h0⟩
theorem ImgIs.adv {S : Nat → Prop} {w w' : World} {G' : Nat → Nat} {v : Value} {m : MemS} (h : ImgIs w v m) (ha : Adv S w (fun _ => 0) w' G') (h0 : ¬ S 0) : ImgIs w' v m := by
  obtain ⟨ba, bc, ra, rc, sa, sc, e, h1, h2, h3⟩ := h
  exact ⟨ba, bc, ra, rc, sa, sc, e, h1.adv0 ha h0, h2.adv ha fun _ _ => h0, h3.adv ha fun _ _ => h0⟩
theorem RMx.readS {w : World} {G : Nat → Nat} {d D ra sa : Nat} {bs : List Nat} {ba : Option Addr} {bc : Nat} {ta : Option Addr} {tc : Nat} {m : MemS} (h : RMx w G d D ra sa bs (.slice ba m.banks.length bc) (.slice ta m.tones.length tc) m) : RRead w D m bs ba bc ra sa ta tc :=
  ⟨h.head, h.row.reads, h.blen, fun k p b hp hb => (h.bank k p b hp hb).reads, h.ram.reads, h.scr.reads, h.tones.reads⟩
def SI (b : Nat) : Prop := b = 7 ∨ b = 9 ∨ b = 1000
theorem own1_zero (w : World) : own1 w (fun _ => 0) 0 = fun _ => 0 := by funext b; simp [own1]
theorem own8l {w : World} {G : Nat → Nat} (l b : Nat) (hb : G b = l) (v0 v1 v2 v3 v4 v5 v6 v7 : Value) : Adv (fun o => o = l) w G ((((((((w.setCell ⟨b, 0, none⟩ v0).setCell ⟨b, 1, none⟩ v1).setCell ⟨b, 2, none⟩ v2).setCell ⟨b, 3, none⟩ v3).setCell ⟨b, 4, none⟩ v4).setCell ⟨b, 5, none⟩ v5).setCell ⟨b, 6, none⟩ v6).setCell ⟨b, 7, none⟩ v7) G :=
  ((((((((Adv.refl (fun o => o = l) w G).setCell (p := ⟨b, 0, none⟩) hb v0).setCell (p := ⟨b, 1, none⟩) hb v1).setCell (p := ⟨b, 2, none⟩) hb v2).setCell (p := ⟨b, 3, none⟩) hb v3).setCell (p := ⟨b, 4, none⟩) hb v4).setCell (p := ⟨b, 5, none⟩) hb v5).setCell (p := ⟨b, 6, none⟩) hb v6).setCell (p := ⟨b, 7, none⟩) hb v7
set_option maxRecDepth 100000 in
set_option maxHeartbeats 1000000 in
theorem refImage (D : Nat) (m : MemS) (hm : MemOk m) (hn2 : m.banks.length ≤ 1000000) (ht2 : m.tones.length ≤ 1000000) (bs0 : List Nat) (ba : Option Addr) (bc ra0 sa0 : Nat) (ta : Option Addr) (tc : Nat) (w : World) (hin : RRead w D m bs0 ba bc ra0 sa0 ta tc) :
    Calls Tryz.prog 74 #[.pointer (some ⟨D, 0, none⟩)] w fun e w' => ∃ v G', e = .returned v ∧ Adv SI w (fun _ => 0) w' G' ∧ ImgIs w' v m := by
  have HIN := Lib.hid hin
  have HM := Lib.hid hm
  obtain ⟨wa, hwa⟩ : ∃ v, v = w.alloc (.cells #[.slice none 0 0, .slice none 0 0, .slice none 0 0, .int .u8 0, .int .u8 0, .int .u16 0, .int .u8 0, .int .u16 0] 163) := ⟨_, rfl⟩
  have ha := (Adv.refl SI w (fun _ => 0)).alloc (.cells #[.slice none 0 0, .slice none 0 0, .slice none 0 0, .int .u8 0, .int .u8 0, .int .u16 0, .int .u8 0, .int .u16 0] 163) 0
  rw [own1_zero] at ha
  have hb : (w.alloc (.cells #[.slice none 0 0, .slice none 0 0, .slice none 0 0, .int .u8 0, .int .u8 0, .int .u16 0, .int .u8 0, .int .u16 0] 163)).heap[w.heap.size]? = some (.cells #[.slice none 0 0, .slice none 0 0, .slice none 0 0, .int .u8 0, .int .u8 0, .int .u16 0, .int .u8 0, .int .u16 0] 163 (0, 0)) := heap_alloc_new w _
  have hs0 : ¬ SI 0 := by unfold SI; omega
  have hc0 : ¬ SC 0 := by unfold SC; omega
  rw [← hwa] at ha hb
  have hsz : w.heap.size < wa.heap.size := (Array.getElem?_eq_some_iff.1 hb).1
  have HB := Lib.hid hb
  have HA := Lib.hid ha
  clear hin hm ha hb
  go_enter Tryz.func74, Tryz.ntmps74
  go_wp2_with fail
  rw [← hwa]
  have HR := Lib.hid (HIN.out.adv HA.out hs0)
  refine (refCopy D m bs0 ba bc ra0 sa0 ta tc HM.out hn2 ht2 wa HR.out).mono ?_
  rintro e w2 ⟨C, G2, rfl, ha2, hr2, hC⟩
  obtain ⟨ra, sa, bs, bv, tv, hr2⟩ := hr2
  have hg2 : G2 w.heap.size = 0 := ha2.own _ hsz
  obtain ⟨ba2, bc2, rfl, _⟩ := hr2.row.slice
  obtain ⟨ta2, tc2, rfl, _⟩ := hr2.tones.slice
  have hh := hr2.head
  obtain ⟨n, hn⟩ : ∃ n, n = m.banks.length := ⟨_, rfl⟩
  rw [← hn] at hh
  have HN := Lib.hid hn
  have hb2 := (ha2.keep w.heap.size hsz hc0).trans HB.out
  have c0 := block_cell hh 0 _ rfl
  have c1 := block_cell hh 1 _ rfl
  have c2 := block_cell hh 2 _ rfl
  have c3 := block_cell hh 3 _ rfl
  have c4 := block_cell hh 4 _ rfl
  have c5 := block_cell hh 5 _ rfl
  have c6 := block_cell hh 6 _ rfl
  have c7 := block_cell hh 7 _ rfl
  have HB2 := Lib.hid hb2
  have HA2 := Lib.hid ha2
  have HRM := Lib.hid hr2
  clear ha2 hr2 hh hn hb2
  go_wp2_with fail
  go_still_tail 33, (by kernel_rfl)
  change wpList _ _ _ _ _ w2.drew
  have hz := (Adv.refl (fun _ => False) w2 G2).drew
  have hb3 := HB2.out
  change w2.drew.heap[w.heap.size]? = _ at hb3
  obtain ⟨w3, hw3⟩ : ∃ v, v = w2.drew := ⟨_, rfl⟩
  rw [← hw3] at hz hb3 ⊢
  clear hw3
  have r0 := block_cell hb3 0 _ rfl
  have r1 := block_cell hb3 1 _ rfl
  have r2 := block_cell hb3 2 _ rfl
  have r3 := block_cell hb3 3 _ rfl
  have r4 := block_cell hb3 4 _ rfl
  have r5 := block_cell hb3 5 _ rfl
  have r6 := block_cell hb3 6 _ rfl
  have r7 := block_cell hb3 7 _ rfl
  have zf := block_free hb3
  go_wp2
  have o8 := own8l (w := w3) (G := G2) 0 w.heap.size hg2 (.slice ba2 n bc2) (.slice (some ⟨ra, 0, none⟩) 16384 16384) (.slice (some ⟨sa, 0, none⟩) 3072 3072) (.int .u8 m.chosen) (.int .u8 m.pad) (.int .u16 m.pitch) (.int .u8 m.volume) (.int .u16 m.time)
  have h8 := hid8 (HA.out.trans ((HA2.out.trans (hz.mono fun _ h => h.elim)).mono (T := SI) fun b h => by unfold SC at h; unfold SI; omega)) w.heap.size (Nat.le_refl _) (.slice ba2 n bc2) (.slice (some ⟨ra, 0, none⟩) 16384 16384) (.slice (some ⟨sa, 0, none⟩) 3072 3072) (.int .u8 m.chosen) (.int .u8 m.pad) (.int .u16 m.pitch) (.int .u8 m.volume) (.int .u16 m.time)
  have hrd := ((HRM.out.adv hz (fun _ _ => id)).adv o8 (by omega)).readS
  refine bodyPost_ret (v := .agg #[.slice ba2 m.banks.length bc2, .slice (some ⟨ra, 0, none⟩) 16384 16384, .slice (some ⟨sa, 0, none⟩) 3072 3072, .int .u8 m.chosen, .int .u8 m.pad, .int .u16 m.pitch, .int .u8 m.volume, .int .u16 m.time]) (by rw [← HN.out]; simp [results, Tryz.results74, go_sem, r0, r1, r2, r3, r4, r5, r6, r7]) rfl ⟨_, G2, rfl, h8, ba2, bc2, _, _, _, _, rfl, hrd.bankIn HM.out, hrd.ram, hrd.scr⟩
end Go.Proofs.YtdnalhjdmlkbmaaGreatDoor
namespace Go.Proofs.YtdnalhjdmlkbmaaGreatDoor
open Go.RowKit
set_option linter.unusedVariables false
theorem conv_string {w : World} {a : Option Addr} {l : List Int} {n c : Nat} (h : Reads w a (u8s l)) (hl : l.length = n) (h0 : 0 < n) : (convert 30 9 (.slice a n c)).run Tryz.prog w = .ok (.string (strOfNums l)) w := by
  rcases h with hz | ⟨b, o, e, hh⟩
  · have := congrArg List.length hz
    rw [u8s_length, List.length_nil, hl] at this
    omega
  · subst e
    exact run_convert_bytes_arg w 30 5 Tryz.underlying30 Tryz.underlying5 b o n c l hl (fun i hi => hh i _ (by simp [u8s, List.getD_eq_getElem?_getD, List.getElem?_eq_getElem (show i < l.length by omega)])) 9 Tryz.underlying9
theorem BankIn.drewN {w : World} {la : Option Addr} {l : List (Int × List Int)} (h : BankIn w la l) (z : Nat) : BankIn (w.drewN z) la l := h.adv0 ((Adv.refl (fun _ => False) w (fun _ => 0)).drewN z) id
set_option maxRecDepth 100000 in
set_option maxHeartbeats 1000000 in
theorem sameBanks_yes (ba bb : Option Addr) (n bc bd : Nat) (l : List (Int × List Int)) (hl : l.length = n) (hn : n ≤ 1000000) (h16 : ∀ p ∈ l, p.2.length = 16384) (w : World) (ha : BankIn w ba l) (hb : BankIn w bb l) :
    Calls Tryz.prog 130 #[.slice ba n bc, .slice bb n bd] w fun e w' => e = .returned (.bool true) ∧ ∃ z, w' = w.drewN z := by
  have HL := Lib.hid hl
  have HA := Lib.hid ha
  have HB := Lib.hid hb
  have HC := Lib.hid h16
  clear hl ha hb h16
  go_enter Tryz.func130, Tryz.ntmps130
  go_wp2_with fail
  go_loopw [13] (fun vi wr => ∃ j : Nat, j ≤ n ∧ vi = .int .i64 j ∧ ∃ z, wr = w.drewN z) (fun vi _ => n - (intOf vi).toNat)
  case atStart => exact ⟨0, by omega, rfl, 0, rfl⟩
  case round =>
    obtain ⟨j, hj, rfl, z, rfl⟩ := hrel
    by_cases h : j < n
    · obtain ⟨p, hp⟩ : ∃ p, l[j]? = some p := ⟨l[j]'(by rw [HL.out]; exact h), by simp⟩
      have hp16 := HC.out p (List.mem_of_getElem? hp)
      obtain ⟨b1, o1, da, dc, e1, c1, c2, hr1⟩ := HA.out j p hp
      obtain ⟨b2, o2, db, dd, e2, d1, d2, hr2⟩ := HB.out j p hp
      subst e1
      subst e2
      rw [hp16] at c2 d2
      have k1 := fun q => conv_string (c := dc) (hr1.adv ((Adv.refl (fun _ => False) w (fun _ => 0)).drewN q) fun _ _ => id) hp16 (by decide)
      have k2 := fun q => conv_string (c := dd) (hr2.adv ((Adv.refl (fun _ => False) w (fun _ => 0)).drewN q) fun _ _ => id) hp16 (by decide)
      obtain ⟨S, hS⟩ : ∃ S, S = strOfNums p.2 := ⟨_, rfl⟩
      rw [← hS] at k1 k2
      have hd : (p.1 != p.1) = false := bne_self_eq_false _
      have hd2 : (S.toList != S.toList) = false := bne_self_eq_false _

      clear hp hp16 hr1 hr2 hS
      have hwi : IntKind.i64.wrap ((j : Int) + 1) = (j : Int) + 1 := IntWalk.i64_in _ (by omega)
      go_wp2_with fail
      go_quiet (fail)
      go_wp2_with fail
      exact ⟨⟨j + 1, by omega, by simp, _, rfl⟩, by simp only [intOf]; omega⟩
    · go_wp2_with fail
      go_ret
      exact ⟨rfl, _, rfl⟩
set_option maxRecDepth 100000 in
set_option maxHeartbeats 1000000 in
theorem sameImage_yes (v1 v2 : Value) (m : MemS) (hm : MemOk m) (hn : m.banks.length ≤ 1000000) (w : World) (h1 : ImgIs w v1 m) (h2 : ImgIs w v2 m) :
    Calls Tryz.prog 83 #[v1, v2] w fun e w' => e = .returned (.bool true) ∧ Adv (fun _ => False) w (fun _ => 0) w' (fun _ => 0) := by
  obtain ⟨ba, bc, ra, rc, sa, sc, rfl, g1, g2, g3⟩ := h1
  obtain ⟨bb, bd, rb, rd, sb, sd, rfl, g4, g5, g6⟩ := h2
  obtain ⟨n, hn'⟩ : ∃ n, n = m.banks.length := ⟨_, rfl⟩
  rw [← hn'] at hn ⊢
  have HN := Lib.hid hn'
  have HM := Lib.hid hm
  have hA : ∀ o1 o2, Adv (fun _ => False) w (fun _ => 0) ((w.alloc o1).alloc o2) (fun _ => 0) := fun o1 o2 => by
    have h := (((Adv.refl (fun _ => False) w (fun _ => 0)).alloc o1 0)).alloc o2 0
    rw [own1_zero, own1_zero] at h
    exact h
  have HAD := Lib.hid hA
  have HG := Lib.hid (And.intro g1 (And.intro g2 (And.intro g3 (And.intro g4 (And.intro g5 g6)))))
  clear hn' hm hA g1 g2 g3 g4 g5 g6
  go_enter Tryz.func83, Tryz.ntmps83
  go_wp2_with fail
  have hB := HAD.out (.cells #[.slice ba n bc, .slice ra 16384 rc, .slice sa 3072 sc, .int .u8 m.chosen, .int .u8 m.pad, .int .u16 m.pitch, .int .u8 m.volume, .int .u16 m.time] 163) (.cells #[.slice bb n bd, .slice rb 16384 rd, .slice sb 3072 sd, .int .u8 m.chosen, .int .u8 m.pad, .int .u16 m.pitch, .int .u8 m.volume, .int .u16 m.time] 163)
  obtain ⟨g1, g2, g3, g4, g5, g6⟩ := HG.out
  have hx1 : ((w.alloc (.cells #[.slice ba n bc, .slice ra 16384 rc, .slice sa 3072 sc, .int .u8 m.chosen, .int .u8 m.pad, .int .u16 m.pitch, .int .u8 m.volume, .int .u16 m.time] 163)).alloc (.cells #[.slice bb n bd, .slice rb 16384 rd, .slice sb 3072 sd, .int .u8 m.chosen, .int .u8 m.pad, .int .u16 m.pitch, .int .u8 m.volume, .int .u16 m.time] 163)).heap[w.heap.size]? = some (.cells #[.slice ba n bc, .slice ra 16384 rc, .slice sa 3072 sc, .int .u8 m.chosen, .int .u8 m.pad, .int .u16 m.pitch, .int .u8 m.volume, .int .u16 m.time] 163 (0, 0)) := (heap_past _ _ _ (by simp)).trans (heap_at _ _ _ rfl)
  have hx2 : ((w.alloc (.cells #[.slice ba n bc, .slice ra 16384 rc, .slice sa 3072 sc, .int .u8 m.chosen, .int .u8 m.pad, .int .u16 m.pitch, .int .u8 m.volume, .int .u16 m.time] 163)).alloc (.cells #[.slice bb n bd, .slice rb 16384 rd, .slice sb 3072 sd, .int .u8 m.chosen, .int .u8 m.pad, .int .u16 m.pitch, .int .u8 m.volume, .int .u16 m.time] 163)).heap[w.heap.size + 1]? = some (.cells #[.slice bb n bd, .slice rb 16384 rd, .slice sb 3072 sd, .int .u8 m.chosen, .int .u8 m.pad, .int .u16 m.pitch, .int .u8 m.volume, .int .u16 m.time] 163 (0, 0)) := heap_at _ _ _ (by simp)
  obtain ⟨wb, hwb⟩ : ∃ v, v = (w.alloc (.cells #[.slice ba n bc, .slice ra 16384 rc, .slice sa 3072 sc, .int .u8 m.chosen, .int .u8 m.pad, .int .u16 m.pitch, .int .u8 m.volume, .int .u16 m.time] 163)).alloc (.cells #[.slice bb n bd, .slice rb 16384 rd, .slice sb 3072 sd, .int .u8 m.chosen, .int .u8 m.pad, .int .u16 m.pitch, .int .u8 m.volume, .int .u16 m.time] 163) := ⟨_, rfl⟩
  rw [← hwb] at hB hx1 hx2
  rw [← hwb]
  refine (sameBanks_yes ba bb n bc bd m.banks HN.out.symm hn HM.out.banks wb (g1.adv0 hB id) (g4.adv0 hB id)).mono ?_
  rintro e w' ⟨rfl, z, rfl⟩
  have k1 := fun q => conv_string (c := rc) (((g2.adv hB fun _ _ => id).adv ((Adv.refl (fun _ => False) wb (fun _ => 0)).drewN q) fun _ _ => id)) HM.out.ram (by decide)
  have k2 := fun q => conv_string (c := rd) (((g5.adv hB fun _ _ => id).adv ((Adv.refl (fun _ => False) wb (fun _ => 0)).drewN q) fun _ _ => id)) HM.out.ram (by decide)
  have k3 := fun q => conv_string (c := sc) (((g3.adv hB fun _ _ => id).adv ((Adv.refl (fun _ => False) wb (fun _ => 0)).drewN q) fun _ _ => id)) HM.out.screen (by decide)
  have k4 := fun q => conv_string (c := sd) (((g6.adv hB fun _ _ => id).adv ((Adv.refl (fun _ => False) wb (fun _ => 0)).drewN q) fun _ _ => id)) HM.out.screen (by decide)
  obtain ⟨S, hS⟩ : ∃ S, S = strOfNums m.ram := ⟨_, rfl⟩
  obtain ⟨T, hT⟩ : ∃ T, T = strOfNums m.screen := ⟨_, rfl⟩
  rw [← hS] at k1 k2
  rw [← hT] at k3 k4
  have HB := Lib.hid hB
  have x0 := block_cell hx1 0 _ rfl
  have y0 := block_cell hx2 0 _ rfl
  have x1 := block_cell hx1 1 _ rfl
  have y1 := block_cell hx2 1 _ rfl
  have x2 := block_cell hx1 2 _ rfl
  have y2 := block_cell hx2 2 _ rfl
  have x3 := block_cell hx1 3 _ rfl
  have y3 := block_cell hx2 3 _ rfl
  have x4 := block_cell hx1 4 _ rfl
  have y4 := block_cell hx2 4 _ rfl
  have x5 := block_cell hx1 5 _ rfl
  have y5 := block_cell hx2 5 _ rfl
  have x6 := block_cell hx1 6 _ rfl
  have y6 := block_cell hx2 6 _ rfl
  have x7 := block_cell hx1 7 _ rfl
  have y7 := block_cell hx2 7 _ rfl
  clear hwb hS hT hB g1 g2 g3 g4 g5 g6 hx1 hx2
  go_wp2_with fail
  go_ret
  exact ⟨rfl, HB.out.drewN z⟩
end Go.Proofs.YtdnalhjdmlkbmaaGreatDoor
namespace Go.Proofs.YtdnalhjdmlkbmaaGreatDoor
open Go.RowKit
set_option linter.unusedVariables false
def S4 (b : Nat) : Prop := b = 9 ∨ b = 8 ∨ b = 19 ∨ b = 18
theorem EU.relabel {w : World} {G H : Nat → Nat} {i j D : Nat} {l : List Int} (h : EU w G i D l) (hH : ∀ b, b < w.heap.size → G b = i → H b = j) : EU w H j D l := h.imp fun _ h => h.relabel hH
theorem ER.relabel {w : World} {G H : Nat → Nat} {i j D : Nat} {l : List (Int × Int)} (h : ER w G i D l) (hH : ∀ b, b < w.heap.size → G b = i → H b = j) : ER w H j D l := h.imp fun _ h => h.relabel hH
def W6h (w : World) (G : Nat → Nat) (K D R M X Y Z : Nat) : Prop :=
  w.heap[K]? = some (.cells #[.pointer (some ⟨D, 0, none⟩), .pointer (some ⟨R, 0, none⟩), .pointer (some ⟨M, 0, none⟩), .pointer (some ⟨X, 0, none⟩), .pointer (some ⟨Y, 0, none⟩), .pointer (some ⟨Z, 0, none⟩)] 82 (0, 0)) ∧ G K = 0
theorem Row.pile {e T size : Nat} {w : World} {G : Nat → Nat} {i n D : Nat} {v : Value} {xs : List Value} (h : Row e size w G i v n xs) (hh : w.heap[D]? = some (.cells #[v] T (0, 0))) (hG : G D = i) (hne : v.ownBlock ≠ some D) : Pile e T size w G i D v n xs :=
  ⟨hh, hG, h.row, h.own, hne⟩
theorem Row.old {e size : Nat} {w : World} {G : Nat → Nat} {i n : Nat} {v : Value} {xs : List Value} (h : Row e size w G i v n xs) : ∀ b, v.ownBlock = some b → b < w.heap.size := fun b e => (h.row.lt b e).2
set_option maxRecDepth 100000 in
set_option maxHeartbeats 2000000 in
theorem bornF (G : Nat → Nat) (xa : Option Addr) (m c : Nat) (l : List Int) (ya : Option Addr) (m2 c2 : Nat) (lr : List (Int × Int)) (w : World) (hl : l.length = m) (hr : Reads w xa (cellsU l)) (hcap : m ≤ c) (hc1 : c ≤ 9223372036854775807)
    (hlr : lr.length = m2) (hrr : Reads w ya (cellsR lr)) (hcap2 : m2 ≤ c2) (hc2 : c2 ≤ 9223372036854775807) (hwf : ∀ c ∈ lr, -9223372036854775808 ≤ c.1 ∧ c.1 ≤ 9223372036854775807) :
    Calls Tryz.prog 9 #[.slice xa m c, .slice ya m2 c2] w fun e w' => ∃ K D R M X Y Z G', e = .returned (.pointer (some ⟨K, 0, none⟩)) ∧ Adv (fun _ => False) w G w' G' ∧ W6h w' G' K D R M X Y Z ∧ PU w' G' 1 D (l.take 256) ∧ PR w' G' 2 R ((lr.take 128).map normR) ∧ PM w' G' 3 M (newM banks2) ∧
      EU w' G' 9 X (l.take 256) ∧ ER w' G' 8 Y ((lr.take 128).map normR) ∧ RM w' G' 11 Z (newM banks2) := by
  obtain ⟨i0, hi, hz0, hz1, hz2⟩ := info_parts Tryz.info31
  obtain ⟨j0, hj, hy0, hy1, hy2⟩ := info_parts Tryz.info111
  obtain ⟨n, hn⟩ : ∃ n, n = min m 256 := ⟨_, rfl⟩
  obtain ⟨n2, hn2⟩ : ∃ n2, n2 = min m2 128 := ⟨_, rfl⟩
  obtain ⟨L, hLdef⟩ : ∃ L, L = l.take 256 := ⟨_, rfl⟩
  obtain ⟨LR, hLRdef⟩ : ∃ LR, LR = lr.take 128 := ⟨_, rfl⟩
  rw [← hLdef, ← hLRdef]
  have hLn : L.length = n := by rw [hLdef, List.length_take]; omega
  have hLRn : LR.length = n2 := by rw [hLRdef, List.length_take]; omega
  have hrL : Reads w xa (cellsU L) := by rw [hLdef]; exact hr.takeU 256
  have hrLR : Reads w ya (cellsR LR) := by rw [hLRdef]; exact hrr.takeR 128
  have HWF := Lib.hid (show ∀ c ∈ LR, -9223372036854775808 ≤ c.1 ∧ c.1 ≤ 9223372036854775807 from fun c hc => hwf c (List.mem_of_mem_take (hLRdef ▸ hc)))
  have HMIN := Lib.hid (show min (m : Int) 256 = (n : Int) from by omega)
  have HMIN2 := Lib.hid (show min (m2 : Int) 128 = (n2 : Int) from by omega)
  have hnm : n ≤ 256 := by omega
  have hnm2 : n2 ≤ 128 := by omega
  have hnc : n ≤ c := by omega
  have hnc2 : n2 ≤ c2 := by omega
  have HL := Lib.hid hLn
  have HLR := Lib.hid hLRn
  have HX := Lib.hid (hrL.alloc (.cells #[] 31))
  have HYX : ∀ {w1 : World} {G1 : Nat → Nat}, Adv S4 w (fun _ => 0) w1 G1 → Reads (w1.alloc (.cells #[] 111)) ya (cellsR LR) := fun h => (hrLR.adv h (fun _ _ => by unfold S4; omega)).alloc _
  have HA0 := Lib.hid ((Adv.refl S4 w (fun _ => 0)).alloc (.cells #[] 31) 9)
  have HR0 := Lib.hid (Row.new w (fun _ => 0) 31 1 9 0 [] (Nat.zero_le _) rfl)
  clear hl hr hlr hrr hwf hLdef hLRdef hLn hLRn hrL hrLR hn hn2 hcap hcap2
  go_enter Tryz.func9, Tryz.ntmps9
  go_wp2_with (first
    | (refine wpList_min ?mng (.tmp 17) (.const (.int .i64 256)) 3 ?mno m 256 n ?mns ?mnx HMIN.out.symm ?mnr; (case mng => rfl); (case mno => rfl); (case mns => rfl); (case mnx => rfl))
    | (at_builtin; refine wpList_append_reads rfl (.tmp 14) (.tmp 19) 22 rfl 31 i0 (.int .u16 0) 1 2 Tryz.underlying22 hi hz0 hz1 hz2 rfl (by decide) _ 9 (some ⟨w.heap.size, 0, none⟩) 0 0 [] rfl HR0.out xa n c (cellsU L) rfl (by rw [cellsU_length, HL.out, Nat.mul_one]) HX.out (cellsU_one L) (by unfold maxLen; omega) (by omega) ?_; intro va1 vc1 w1 G1 h1 h2; rw [Nat.zero_add, List.nil_append] at h1; rw [Nat.zero_add]; have HR1 := Lib.hid h1; have HA1 := Lib.hid (HA0.out.trans (h2.mono (T := S4) (fun _ h => .inl h))); clear h1 h2)
    | (refine wpList_min ?mpg (.tmp 24) (.const (.int .i64 128)) 3 ?mpo m2 128 n2 ?mps ?mpx HMIN2.out.symm ?mpr; (case mpg => rfl); (case mpo => rfl); (case mps => rfl); (case mpx => rfl))
    | (at_builtin; refine wpList_append_reads rfl (.tmp 21) (.tmp 26) 23 rfl 111 j0 (.agg #[.int .i64 0, .int .u16 0]) 2 16 Tryz.underlying23 hj hy0 hy1 hy2 rfl (by decide) _ 8 (some ⟨w1.heap.size, 0, none⟩) 0 0 [] rfl (Row.new w1 G1 111 2 8 0 [] (Nat.zero_le _) rfl) ya n2 c2 (cellsR LR) rfl (by rw [cellsR_length, HLR.out]) (HYX HA1.out) (cellsR_one LR) (by unfold maxLen; omega) (by omega) ?_; intro ya1 yc1 w2 G2 h1 h2; rw [Nat.zero_add, List.nil_append] at h1; rw [Nat.zero_add]; have HRC := Lib.hid h1; have HRD := Lib.hid ((HR1.out.adv (S := fun _ => False) ((Adv.refl (fun _ => False) w1 G1).alloc (.cells #[] 111) 8) id).adv h2 (by omega)); have HA2 := Lib.hid ((HA1.out.alloc (.cells #[] 111) 8).trans (h2.mono (T := S4) (fun _ h => .inr (.inl h)))); clear h1 h2))
  go_loopw [5] (fun v wr => ∃ j : Nat, j ≤ n2 ∧ v = .int .i64 j ∧ ∃ Gr, Adv S4 w (fun _ => 0) wr Gr ∧ Row 31 1 wr Gr 9 (.slice va1 n vc1) n (cellsU L) ∧ Row 111 2 wr Gr 8 (.slice ya1 n2 yc1) n2 (cellsR ((LR.take j).map normR ++ LR.drop j))) (fun v _ => n2 - (intOf v).toNat)
  case atStart => exact ⟨0, Nat.zero_le _, rfl, _, HA2.out, HRD.out, HRC.out⟩
  case round =>
    obtain ⟨j, hj0, rfl, Gr, h1, h2, h3⟩ := hrel
    by_cases hlt : j < n2
    · obtain ⟨ck, hck⟩ : ∃ ck, LR[j]? = some ck := ⟨LR[j]'(by rw [HLR.out]; exact hlt), by simp⟩
      obtain ⟨hw1, hw2⟩ := HWF.out ck (List.mem_of_getElem? hck)
      obtain ⟨g, rfl⟩ : ∃ g, ya1 = some ⟨g, 0, none⟩ := by
        obtain ⟨a', c', e1, _, _, h6⟩ := h3.slice
        cases e1; exact h6 (by omega)
      obtain ⟨hg, hG, hf, hc⟩ := h3.at (by omega)
      have hget := hc (j * 2) _ (normR_get LR j ck hck)
      have hf2 := hf (j * 2)
      have hlen : j * 2 < (cellsR ((LR.take j).map normR ++ LR.drop j)).length := by rw [h3.nlen]; omega
      have HS := Lib.hid (h3.store (j * 2) hlen (.int .i64 (1 + ck.1 % 4)))
      have HE := Lib.hid (normR_set LR j ck hck)
      have H1 := Lib.hid h1
      have H2 := Lib.hid h2
      have HRW := Lib.hid (show wrap64 (1 + (wrap64 (ck.1.tmod 4 + 4)).tmod 4) = 1 + ck.1 % 4 from by
        have h4 := rem4 ck.1
        have h5 : wrap64 (ck.1.tmod 4 + 4) = ck.1.tmod 4 + 4 := (by unfold wrap64; have := Int.tmod_lt_of_pos ck.1 (b := 4) (by decide); have := tmod_ge4 ck.1; omega)
        rw [h5, h4]
        unfold wrap64; omega)
      clear hck hf hc hG h1 h2 h3
      go_wp2
      go_roundw
      case rel =>
        rw [HRW.out]
        exact ⟨j + 1, by omega, by go_num, Gr, H1.out.trans (HS.out.1.mono (T := S4) (fun _ h => .inr (.inl h))), H2.out.adv HS.out.1 (by omega), by rw [← HE.out]; exact HS.out.2⟩
      case measure => simp [intOf]; omega
    · obtain rfl : n2 = j := by omega
      rw [List.take_of_length_le (by rw [HLR.out]; omega), List.drop_of_length_le (by rw [HLR.out]; omega), List.append_nil] at h3
      have HA3 := Lib.hid (h1.alloc (.cells #[] 31) 19)
      have hAr := (Adv.refl (fun _ => False) wr Gr).alloc (.cells #[] 31) 19
      have HRe := Lib.hid (h2.adv hAr id)
      have HRf := Lib.hid (h3.adv hAr id)
      have HR3 := Lib.hid (Row.new wr Gr 31 1 19 0 [] (Nat.zero_le _) rfl)
      clear h1 h2 h3 hAr
      go_wp2_with (first
        | (at_builtin; refine wpList_append_reads rfl (.tmp 48) (.tmp 49) 22 rfl 31 i0 (.int .u16 0) 1 2 Tryz.underlying22 hi hz0 hz1 hz2 rfl (by decide) _ 19 (some ⟨wr.heap.size, 0, none⟩) 0 0 [] rfl HR3.out va1 n vc1 (cellsU L) rfl (by rw [cellsU_length, HL.out, Nat.mul_one]) HRe.out.reads (cellsU_one L) (by unfold maxLen; omega) (by omega) ?_; intro va2 vc2 w13 G13 h1 h2; rw [Nat.zero_add, List.nil_append] at h1; rw [Nat.zero_add]; have hAs := (Adv.refl (fun _ => False) w13 G13).alloc (.cells #[] 111) 18; have HR4 := Lib.hid (h1.adv hAs id); have HA4 := Lib.hid ((HA3.out.trans (h2.mono (T := S4) (fun _ h => .inr (.inr (.inl h))))).alloc (.cells #[] 111) 18); have HRg := Lib.hid ((HRf.out.adv h2 (by omega)).adv hAs id); have HXa := Lib.hid ((HRe.out.adv h2 (by omega)).adv hAs id); clear h1 h2 hAs)
        | (at_builtin; refine wpList_append_reads rfl (.tmp 51) (.tmp 52) 23 rfl 111 j0 (.agg #[.int .i64 0, .int .u16 0]) 2 16 Tryz.underlying23 hj hy0 hy1 hy2 rfl (by decide) _ 18 (some ⟨w13.heap.size, 0, none⟩) 0 0 [] rfl (Row.new w13 G13 111 2 18 0 [] (Nat.zero_le _) rfl) ya1 n2 yc1 (cellsR (LR.map normR)) rfl (by rw [cellsR_length, List.length_map, HLR.out]) HRg.out.reads (cellsR_one _) (by unfold maxLen; omega) (by omega) ?_; intro ya2 yc2 w14 G14 h1 h2; rw [Nat.zero_add, List.nil_append] at h1; rw [Nat.zero_add]; have HR5 := Lib.hid h1; have HR6 := Lib.hid (HR4.out.adv h2 (by omega)); have HXb := Lib.hid (HXa.out.adv h2 (by omega)); have HYb := Lib.hid (HRg.out.adv h2 (by omega)); have HA5 := Lib.hid (HA4.out.trans (h2.mono (T := S4) (fun _ h => .inr (.inr (.inr h))))); clear h1 h2))
      refine (stacksP G14 1 2 va2 n vc2 L ya2 n2 yc2 (LR.map normR) w14 HL.out hnm HR6.out.reads (by rw [List.length_map, HLR.out]) hnm2 HR5.out.reads (normR_good LR)).mono ?_
      rintro e w3 ⟨D, R, G3, rfl, ha3, hp3, hr3⟩
      have hb1 := ((Adv.refl (fun _ => False) w3 G3).alloc (.cells #[.int .u8 1, .int .u8 2, .int .u8 3] 5) 9).alloc (.cells #[.int .u8 4] 5) 9
      have hb2 := hb1.alloc (.cells #[.int .i64 0, .slice (some ⟨w3.heap.size, 0, none⟩) 3 3, .int .i64 9, .slice (some ⟨w3.heap.size + 1, 0, none⟩) 1 1] 47) 9
      obtain ⟨G4, hG4⟩ : ∃ G4, G4 = own1 ((w3.alloc (.cells #[.int .u8 1, .int .u8 2, .int .u8 3] 5)).alloc (.cells #[.int .u8 4] 5)) (own1 (w3.alloc (.cells #[.int .u8 1, .int .u8 2, .int .u8 3] 5)) (own1 w3 G3 9) 9) 9 := ⟨_, rfl⟩
      rw [← hG4] at hb2
      have HB2 := Lib.hid hb2
      have HA6 := Lib.hid ((HA5.out.trans (ha3.mono (T := S4) (fun _ h => h.elim))).trans (hb2.mono (T := S4) (fun _ h => h.elim)))
      have HP6 := Lib.hid (hp3.adv hb2 id)
      have HR6 := Lib.hid (hr3.adv hb2 id)
      have HXc := Lib.hid ((HXb.out.adv ha3 id).adv hb2 id)
      have HYc := Lib.hid ((HYb.out.adv ha3 id).adv hb2 id)
      clear ha3 hp3 hr3 hb1 hb2 hG4
      go_wp2_with fail
      refine (new_ok G4 3 (by omega) _ 2 2 banks2 rfl (by omega) (by decide) _ (bankIn2 w3 G4)).mono ?_
      rintro e w5 ⟨M, G5, rfl, ha5, hm5⟩
      have HA7 := Lib.hid (HA6.out.trans (ha5.mono (T := S4) (fun _ h => h.elim)))
      have HP7 := Lib.hid (HP6.out.adv ha5 id)
      have HR7 := Lib.hid (HR6.out.adv ha5 id)
      have HM7 := Lib.hid hm5
      have HXd := Lib.hid (HXc.out.adv ha5 id)
      have HYd := Lib.hid (HYc.out.adv ha5 id)
      have HI7 := Lib.hid (fun (w' : World) (G' : Nat → Nat) (h : Adv (fun _ => False) w5 G5 w' G') => bankIn2 w3 G4 w' G' (ha5.trans h))
      clear ha5 hm5
      go_wp2_with fail
      refine (refNew_full 11 (by omega) G5 _ 2 2 banks2 rfl (by omega) (by decide) _ HI7.out).mono ?_
      rintro e w6 ⟨Z, G6, rfl, ha6, hz6⟩
      have HA8 := Lib.hid (HA7.out.trans (ha6.mono (T := S4) (fun _ h => h.elim)))
      have HP8 := Lib.hid (HP7.out.adv ha6 id)
      have HR8 := Lib.hid (HR7.out.adv ha6 id)
      have HM8 := Lib.hid (HM7.out.adv ha6 id)
      have HXe := Lib.hid (HXd.out.adv ha6 id)
      have HYe := Lib.hid (HYd.out.adv ha6 id)
      have HZ8 := Lib.hid hz6
      clear ha6 hz6
      go_wp2_with fail
      go_ret
      have hx := (((HA8.out.alloc (.cells #[.slice va1 n vc1] 119) 9).alloc (.cells #[.slice ya1 n2 yc1] 121) 8).alloc (.cells #[.pointer (some ⟨D, 0, none⟩), .pointer (some ⟨R, 0, none⟩), .pointer (some ⟨M, 0, none⟩), .pointer (some ⟨w6.heap.size, 0, none⟩), .pointer (some ⟨w6.heap.size + 1, 0, none⟩), .pointer (some ⟨Z, 0, none⟩)] 82) 0)
      have hf := (((Adv.refl (fun _ => False) w6 G6).alloc (.cells #[.slice va1 n vc1] 119) 9).alloc (.cells #[.slice ya1 n2 yc1] 121) 8).alloc (.cells #[.pointer (some ⟨D, 0, none⟩), .pointer (some ⟨R, 0, none⟩), .pointer (some ⟨M, 0, none⟩), .pointer (some ⟨w6.heap.size, 0, none⟩), .pointer (some ⟨w6.heap.size + 1, 0, none⟩), .pointer (some ⟨Z, 0, none⟩)] 82) 0
      have hs := HA8.out.size
      have eX := (HXe.out.adv hf id).pile (T := 119) (D := w6.heap.size) ((heap_past _ _ _ (by simp; omega)).trans ((heap_past _ _ _ (by simp)).trans (heap_at _ _ _ rfl))) (by simp [own1] <;> omega) (fun e => by have := HXe.out.old _ e; omega)
      have eY := (HYe.out.adv hf id).pile (T := 121) (D := w6.heap.size + 1) ((heap_past _ _ _ (by simp)).trans (heap_at _ _ _ (by simp))) (by simp [own1] <;> omega) (fun e => by have := HYe.out.old _ e; omega)
      refine ⟨w6.heap.size + 1 + 1, D, R, M, w6.heap.size, w6.heap.size + 1, Z, _, rfl, joined_adv hx (by unfold S4; omega), ⟨heap_at _ _ _ (by simp), ?_⟩, (HP8.out.adv hf id).relabel (joined_new hx (by decide)), (HR8.out.adv hf id).relabel (joined_new hx (by decide)), (HM8.out.adv hf id).relabel (joined_new hx (by decide)), ?_, ?_, (HZ8.out.adv hf (fun _ _ => id)).relabel fun k hk => joined_new hx (by omega)⟩
      · unfold joined
        rw [if_neg (by omega)]
        simp [own1]
      · exact EU.relabel ⟨_, by rw [HL.out]; exact eX⟩ (joined_new hx (by decide))
      · exact ER.relabel ⟨_, by rw [List.length_map, HLR.out]; exact eY⟩ (joined_new hx (by decide))
end Go.Proofs.YtdnalhjdmlkbmaaGreatDoor
namespace Go.Proofs.YtdnalhjdmlkbmaaGreatDoor
open Go.RowKit
set_option linter.unusedVariables false
/-- All that stood stays as it was. -/
def Zo (w w' : World) : Prop := Adv (fun _ => False) w (fun _ => 0) w' (fun _ => 0)
theorem Zo.refl (w : World) : Zo w w := Adv.refl _ _ _
theorem Zo.trans {a b c : World} (h : Zo a b) (k : Zo b c) : Zo a c := Adv.trans h k
theorem Zo.dr {a b : World} (h : Zo a b) : Zo a b.drew := Adv.drew h
theorem Zo.drN {a b : World} (h : Zo a b) (z : Nat) : Zo a (b.drewN z) := Adv.drewN h z
theorem Zo.al {a b : World} (h : Zo a b) (o : Obj) : Zo a (b.alloc o) := by
  have h1 := Adv.alloc h o 0
  rw [own1_zero] at h1
  exact h1
theorem Zo.of {S : Nat → Prop} {w w' : World} {G : Nat → Nat} (h : Adv S w (fun _ => 0) w' G) (h0 : ¬ S 0) : Zo w w' := h.relabel (fun _ _ => h0) (fun _ _ => rfl)
theorem Zo.own {w w' : World} (h : Zo w w') (G : Nat → Nat) : Adv (fun _ => False) w G w' (joined w G (fun _ => 0)) := Adv.relabel h (fun _ _ => id) (fun _ hb => joined_old hb)
theorem Zo.heap {w w' : World} (h : Zo w w') {b : Nat} {o : Obj} (hb : w.heap[b]? = some o) : w'.heap[b]? = some o := (h.keep b (Array.getElem?_eq_some_iff.1 hb).1 id).trans hb
/-- What an image's slices read as. -/
def ImgR (w : World) (ba ra sa : Option Addr) (m : MemS) : Prop := BankIn w ba m.banks ∧ Reads w ra (u8s m.ram) ∧ Reads w sa (u8s m.screen)
theorem ImgR.zo {w w' : World} {ba ra sa : Option Addr} {m : MemS} (h : ImgR w ba ra sa m) (hz : Zo w w') : ImgR w' ba ra sa m := ⟨h.1.adv0 hz id, h.2.1.adv hz fun _ _ => id, h.2.2.adv hz fun _ _ => id⟩
theorem zero8 (C : Array Value) (hC : C = #[.slice none 0 0, .slice none 0 0, .slice none 0 0, .int .u8 0, .int .u8 0, .int .u16 0, .int .u8 0, .int .u16 0]) (j : Nat) (u : Value) (h : C[j]? = some u) : j < 8 ∧ ∀ z, u ≠ .int .i64 z := by
  subst hC
  have hj := (Array.getElem?_eq_some_iff.1 h).1
  simp at hj
  refine ⟨hj, fun z e => ?_⟩
  subst e
  rcases (show j = 0 ∨ j = 1 ∨ j = 2 ∨ j = 3 ∨ j = 4 ∨ j = 5 ∨ j = 6 ∨ j = 7 by omega) with rfl | rfl | rfl | rfl | rfl | rfl | rfl | rfl <;> simp at h
/-- A block of zeros of an image is written: no image lies in it. -/
theorem ImgR.but {w w' : World} {ba ra sa : Option Addr} {m : MemS} (hm : MemOk m) (h : ImgR w ba ra sa m) (x : Nat) (T : TypeId) (hx : w.heap[x]? = some (.cells #[.slice none 0 0, .slice none 0 0, .slice none 0 0, .int .u8 0, .int .u8 0, .int .u16 0, .int .u8 0, .int .u16 0] T (0, 0)))
    (hk : ∀ b, b < w.heap.size → b ≠ x → w'.heap[b]? = w.heap[b]?) : ImgR w' ba ra sa m := by
  have hcell : ∀ (b o : Nat) (u : Value), w.cell? ⟨b, o, none⟩ = some u → b ≠ x → w'.cell? ⟨b, o, none⟩ = some u := fun b o u hu hb =>
    (World.cell?_of_block (hk b (World.block_lt_of_cell? w ⟨b, o, none⟩ hu) hb)).trans hu
  have hzero : ∀ (o : Nat) (u : Value), w.cell? ⟨x, o, none⟩ = some u → o < 8 ∧ ∀ z, u ≠ .int .i64 z := fun o u hu => by
    refine zero8 _ rfl o u ?_
    simp only [World.cell?, hx] at hu
    exact hu
  have hreads : ∀ (a : Option Addr) (xs : List Value), 9 ≤ xs.length → Reads w a xs → Reads w' a xs := fun a xs hl hr => by
    obtain ⟨b, o, rfl, hc, _⟩ := hr.some (by intro e; rw [e] at hl; simp at hl)
    refine .inr ⟨b, o, rfl, fun j u hu => hcell b (o + j) u (hc j u hu) ?_⟩
    rintro rfl
    have h8 := (hzero _ _ (hc 8 xs[8] (List.getElem?_eq_getElem (by omega)))).1
    omega
  refine ⟨fun k p hp => ?_, hreads _ _ (by rw [u8s_length, hm.ram]; omega) h.2.1, hreads _ _ (by rw [u8s_length, hm.screen]; omega) h.2.2⟩
  obtain ⟨b, o, da, dc, e, c1, c2, hr⟩ := h.1 k p hp
  have hb : b ≠ x := fun e => (hzero _ _ (by rw [← e]; exact c1)).2 _ rfl
  exact ⟨b, o, da, dc, e, hcell _ _ _ c1 hb, hcell _ _ _ c2 hb, hreads _ _ (by rw [u8s_length, hm.banks p (List.mem_of_getElem? hp)]; omega) hr⟩
theorem imageZ (M : Nat) (m : MemS) (hm : MemOk m) (hk : keysF m = [0, 9]) (n : Nat) (hn : n = m.banks.length) (w0 w : World) (hp : PM w0 (fun _ => 0) 0 M m) (hz : Zo w0 w) :
    Calls Tryz.prog 82 #[.pointer (some ⟨M, 0, none⟩)] w fun e w' => ∃ b1 c1 r1 d1 s1 e1, e = .returned (.agg #[.slice b1 n c1, .slice r1 16384 d1, .slice s1 3072 e1, .int .u8 m.chosen, .int .u8 m.pad, .int .u16 m.pitch, .int .u8 m.volume, .int .u16 m.time]) ∧ Zo w w' ∧ ImgR w' b1 r1 s1 m := by
  obtain ⟨k0, k1, hb⟩ := two_banks hk
  have h2 : n = 2 := by rw [hn, hb]; rfl
  subst h2
  refine (image0 M m hm 0 9 k0 k1 hb (by decide) (by decide) (by decide) w (hp.adv hz id)).mono ?_
  rintro e w' ⟨ba, bc, ra, rc, sb, G', rfl, ha, hs⟩
  obtain ⟨c0, c1, hr, ⟨da, dc, rfl, h3⟩, ⟨db, dd, rfl, h4⟩⟩ := hs.bks
  refine ⟨ba, bc, ra, rc, some ⟨sb, 0, none⟩, 3072, rfl, Zo.of ha (by unfold S7; omega), ?_, hs.ram.reads, hs.scr⟩
  have hrd := hr.reads
  obtain ⟨g, o, hg, hc, _⟩ := hrd.some (by simp)
  have hl0 : k0.length = 16384 := hm.banks (0, k0) (by rw [hb]; simp)
  have hl1 : k1.length = 16384 := hm.banks (9, k1) (by rw [hb]; simp)
  intro k p hp
  rw [hb] at hp
  match k, hp with
  | 0, hp =>
    simp at hp
    subst hp
    exact ⟨g, o, da, dc, hg, hc 0 _ rfl, by rw [hl0]; exact hc 1 _ rfl, h3.reads⟩
  | 1, hp =>
    simp at hp
    subst hp
    exact ⟨g, o, db, dd, hg, hc 2 _ rfl, by rw [hl1]; exact hc 3 _ rfl, h4.reads⟩
  | k + 2, hp => simp at hp
theorem refImageZ (D : Nat) (m : MemS) (hm : MemOk m) (n : Nat) (hn : n = m.banks.length) (hn2 : m.banks.length ≤ 1000000) (ht2 : m.tones.length ≤ 1000000) (bs0 : List Nat) (ba : Option Addr) (bc ra0 sa0 : Nat) (ta : Option Addr) (tc : Nat) (w0 w : World) (hin : RRead w0 D m bs0 ba bc ra0 sa0 ta tc) (hz : Zo w0 w) :
    Calls Tryz.prog 74 #[.pointer (some ⟨D, 0, none⟩)] w fun e w' => ∃ b2 c2 r2 d2 s2 e2, e = .returned (.agg #[.slice b2 n c2, .slice r2 16384 d2, .slice s2 3072 e2, .int .u8 m.chosen, .int .u8 m.pad, .int .u16 m.pitch, .int .u8 m.volume, .int .u16 m.time]) ∧ Zo w w' ∧ ImgR w' b2 r2 s2 m := by
  subst hn
  refine (refImage D m hm hn2 ht2 bs0 ba bc ra0 sa0 ta tc w (hin.adv hz id)).mono ?_
  rintro e w' ⟨v, G', rfl, ha, b2, c2, r2, d2, s2, e2, rfl, h1, h2, h3⟩
  exact ⟨b2, c2, r2, d2, s2, e2, rfl, Zo.of ha (by unfold SI; omega), h1, h2, h3⟩
theorem set8_past {w : World} (b k : Nat) (hk : k ≠ b) (v0 v1 v2 v3 v4 v5 v6 v7 : Value) : ((((((((w.setCell ⟨b, 0, none⟩ v0).setCell ⟨b, 1, none⟩ v1).setCell ⟨b, 2, none⟩ v2).setCell ⟨b, 3, none⟩ v3).setCell ⟨b, 4, none⟩ v4).setCell ⟨b, 5, none⟩ v5).setCell ⟨b, 6, none⟩ v6).setCell ⟨b, 7, none⟩ v7).heap[k]? = w.heap[k]? := past8 b k hk v0 v1 v2 v3 v4 v5 v6 v7
theorem set8_size {w : World} (b : Nat) (v0 v1 v2 v3 v4 v5 v6 v7 : Value) : ((((((((w.setCell ⟨b, 0, none⟩ v0).setCell ⟨b, 1, none⟩ v1).setCell ⟨b, 2, none⟩ v2).setCell ⟨b, 3, none⟩ v3).setCell ⟨b, 4, none⟩ v4).setCell ⟨b, 5, none⟩ v5).setCell ⟨b, 6, none⟩ v6).setCell ⟨b, 7, none⟩ v7).heap.size = w.heap.size := by simp [World.setCell]
theorem Zo.set8 {a w : World} (h : Zo a w) (b : Nat) (hb : a.heap.size ≤ b) (v0 v1 v2 v3 v4 v5 v6 v7 : Value) : Zo a ((((((((w.setCell ⟨b, 0, none⟩ v0).setCell ⟨b, 1, none⟩ v1).setCell ⟨b, 2, none⟩ v2).setCell ⟨b, 3, none⟩ v3).setCell ⟨b, 4, none⟩ v4).setCell ⟨b, 5, none⟩ v5).setCell ⟨b, 6, none⟩ v6).setCell ⟨b, 7, none⟩ v7) := hid8 h b hb v0 v1 v2 v3 v4 v5 v6 v7
/-- Both images, laid into two blocks. -/
structure MC (w0 wF : World) (x3 x4 n : Nat) (b1 r1 s1 b2 r2 s2 : Option Addr) (c1 d1 e1 c2 d2 e2 : Nat) (m : MemS) : Prop where
  z : Zo w0 wF
  h3 : wF.heap[x3]? = some (.cells #[.slice b1 n c1, .slice r1 16384 d1, .slice s1 3072 e1, .int .u8 m.chosen, .int .u8 m.pad, .int .u16 m.pitch, .int .u8 m.volume, .int .u16 m.time] 161 (0, 0))
  h4 : wF.heap[x4]? = some (.cells #[.slice b2 n c2, .slice r2 16384 d2, .slice s2 3072 e2, .int .u8 m.chosen, .int .u8 m.pad, .int .u16 m.pitch, .int .u8 m.volume, .int .u16 m.time] 163 (0, 0))
  i1 : ImgR wF b1 r1 s1 m
  i2 : ImgR wF b2 r2 s2 m
theorem MC.dr {w0 W : World} {x3 x4 n : Nat} {b1 r1 s1 b2 r2 s2 : Option Addr} {c1 d1 e1 c2 d2 e2 : Nat} {m : MemS} (h : MC w0 W x3 x4 n b1 r1 s1 b2 r2 s2 c1 d1 e1 c2 d2 e2 m) : MC w0 W.drew x3 x4 n b1 r1 s1 b2 r2 s2 c1 d1 e1 c2 d2 e2 m :=
  ⟨h.z.dr, h.h3, h.h4, h.i1.zo (Zo.refl _).dr, h.i2.zo (Zo.refl _).dr⟩
section
variable {w0 W : World} {x3 x4 n : Nat} {b1 r1 s1 b2 r2 s2 : Option Addr} {c1 d1 e1 c2 d2 e2 : Nat} {m : MemS}
theorem mc1 (hm : MemOk m) (hz : Zo w0 W) (n3 : w0.heap.size ≤ x3) (n4 : w0.heap.size ≤ x4) (hne : x3 ≠ x4) (z3 : W.heap[x3]? = some (.cells #[.slice none 0 0, .slice none 0 0, .slice none 0 0, .int .u8 0, .int .u8 0, .int .u16 0, .int .u8 0, .int .u16 0] 161 (0, 0))) (z4 : W.heap[x4]? = some (.cells #[.slice none 0 0, .slice none 0 0, .slice none 0 0, .int .u8 0, .int .u8 0, .int .u16 0, .int .u8 0, .int .u16 0] 163 (0, 0))) (i1 : ImgR W b1 r1 s1 m) (i2 : ImgR W b2 r2 s2 m) :
    MC w0 ((((((((((((((((W.setCell ⟨x3, 0, none⟩ (.slice b1 n c1)).setCell ⟨x3, 1, none⟩ (.slice r1 16384 d1)).setCell ⟨x3, 2, none⟩ (.slice s1 3072 e1)).setCell ⟨x3, 3, none⟩ (.int .u8 m.chosen)).setCell ⟨x3, 4, none⟩ (.int .u8 m.pad)).setCell ⟨x3, 5, none⟩ (.int .u16 m.pitch)).setCell ⟨x3, 6, none⟩ (.int .u8 m.volume)).setCell ⟨x3, 7, none⟩ (.int .u16 m.time)).setCell ⟨x4, 0, none⟩ (.slice b2 n c2)).setCell ⟨x4, 1, none⟩ (.slice r2 16384 d2)).setCell ⟨x4, 2, none⟩ (.slice s2 3072 e2)).setCell ⟨x4, 3, none⟩ (.int .u8 m.chosen)).setCell ⟨x4, 4, none⟩ (.int .u8 m.pad)).setCell ⟨x4, 5, none⟩ (.int .u16 m.pitch)).setCell ⟨x4, 6, none⟩ (.int .u8 m.volume)).setCell ⟨x4, 7, none⟩ (.int .u16 m.time)) x3 x4 n b1 r1 s1 b2 r2 s2 c1 d1 e1 c2 d2 e2 m := by
  have g3 := put8 z3 (.slice b1 n c1) (.slice r1 16384 d1) (.slice s1 3072 e1) (.int .u8 m.chosen) (.int .u8 m.pad) (.int .u16 m.pitch) (.int .u8 m.volume) (.int .u16 m.time)
  have g4 := (set8_past x3 x4 (Ne.symm hne) (.slice b1 n c1) (.slice r1 16384 d1) (.slice s1 3072 e1) (.int .u8 m.chosen) (.int .u8 m.pad) (.int .u16 m.pitch) (.int .u8 m.volume) (.int .u16 m.time)).trans z4
  have j1 := i1.but hm x3 _ z3 (fun b _ hb => set8_past (w := W) x3 b hb (.slice b1 n c1) (.slice r1 16384 d1) (.slice s1 3072 e1) (.int .u8 m.chosen) (.int .u8 m.pad) (.int .u16 m.pitch) (.int .u8 m.volume) (.int .u16 m.time))
  have j2 := i2.but hm x3 _ z3 (fun b _ hb => set8_past (w := W) x3 b hb (.slice b1 n c1) (.slice r1 16384 d1) (.slice s1 3072 e1) (.int .u8 m.chosen) (.int .u8 m.pad) (.int .u16 m.pitch) (.int .u8 m.volume) (.int .u16 m.time))
  exact ⟨(hz.set8 x3 n3 (.slice b1 n c1) (.slice r1 16384 d1) (.slice s1 3072 e1) (.int .u8 m.chosen) (.int .u8 m.pad) (.int .u16 m.pitch) (.int .u8 m.volume) (.int .u16 m.time)).set8 x4 n4 (.slice b2 n c2) (.slice r2 16384 d2) (.slice s2 3072 e2) (.int .u8 m.chosen) (.int .u8 m.pad) (.int .u16 m.pitch) (.int .u8 m.volume) (.int .u16 m.time), (set8_past x4 x3 hne (.slice b2 n c2) (.slice r2 16384 d2) (.slice s2 3072 e2) (.int .u8 m.chosen) (.int .u8 m.pad) (.int .u16 m.pitch) (.int .u8 m.volume) (.int .u16 m.time)).trans g3, put8 g4 (.slice b2 n c2) (.slice r2 16384 d2) (.slice s2 3072 e2) (.int .u8 m.chosen) (.int .u8 m.pad) (.int .u16 m.pitch) (.int .u8 m.volume) (.int .u16 m.time), j1.but hm x4 _ g4 (fun b _ hb => set8_past x4 b hb (.slice b2 n c2) (.slice r2 16384 d2) (.slice s2 3072 e2) (.int .u8 m.chosen) (.int .u8 m.pad) (.int .u16 m.pitch) (.int .u8 m.volume) (.int .u16 m.time)), j2.but hm x4 _ g4 (fun b _ hb => set8_past x4 b hb (.slice b2 n c2) (.slice r2 16384 d2) (.slice s2 3072 e2) (.int .u8 m.chosen) (.int .u8 m.pad) (.int .u16 m.pitch) (.int .u8 m.volume) (.int .u16 m.time))⟩
theorem mc2 (hm : MemOk m) (hz : Zo w0 W) (hx3 : x3 = W.heap.size) (n4 : w0.heap.size ≤ x4) (z4 : W.heap[x4]? = some (.cells #[.slice none 0 0, .slice none 0 0, .slice none 0 0, .int .u8 0, .int .u8 0, .int .u16 0, .int .u8 0, .int .u16 0] 163 (0, 0))) (i1 : ImgR W b1 r1 s1 m) (i2 : ImgR W b2 r2 s2 m) :
    MC w0 (((((((((W.alloc (.cells #[.slice b1 n c1, .slice r1 16384 d1, .slice s1 3072 e1, .int .u8 m.chosen, .int .u8 m.pad, .int .u16 m.pitch, .int .u8 m.volume, .int .u16 m.time] 161)).setCell ⟨x4, 0, none⟩ (.slice b2 n c2)).setCell ⟨x4, 1, none⟩ (.slice r2 16384 d2)).setCell ⟨x4, 2, none⟩ (.slice s2 3072 e2)).setCell ⟨x4, 3, none⟩ (.int .u8 m.chosen)).setCell ⟨x4, 4, none⟩ (.int .u8 m.pad)).setCell ⟨x4, 5, none⟩ (.int .u16 m.pitch)).setCell ⟨x4, 6, none⟩ (.int .u8 m.volume)).setCell ⟨x4, 7, none⟩ (.int .u16 m.time)) x3 x4 n b1 r1 s1 b2 r2 s2 c1 d1 e1 c2 d2 e2 m := by
  subst hx3
  have hl : x4 < W.heap.size := (Array.getElem?_eq_some_iff.1 z4).1
  have hx : Zo W (W.alloc (.cells #[.slice b1 n c1, .slice r1 16384 d1, .slice s1 3072 e1, .int .u8 m.chosen, .int .u8 m.pad, .int .u16 m.pitch, .int .u8 m.volume, .int .u16 m.time] 161)) := (Zo.refl W).al _
  have g4 := hx.heap z4
  have j1 := i1.zo hx
  have j2 := i2.zo hx
  exact ⟨(hz.al _).set8 x4 n4 (.slice b2 n c2) (.slice r2 16384 d2) (.slice s2 3072 e2) (.int .u8 m.chosen) (.int .u8 m.pad) (.int .u16 m.pitch) (.int .u8 m.volume) (.int .u16 m.time), (set8_past x4 W.heap.size (by omega) (.slice b2 n c2) (.slice r2 16384 d2) (.slice s2 3072 e2) (.int .u8 m.chosen) (.int .u8 m.pad) (.int .u16 m.pitch) (.int .u8 m.volume) (.int .u16 m.time)).trans (heap_alloc_new W _), put8 g4 (.slice b2 n c2) (.slice r2 16384 d2) (.slice s2 3072 e2) (.int .u8 m.chosen) (.int .u8 m.pad) (.int .u16 m.pitch) (.int .u8 m.volume) (.int .u16 m.time), j1.but hm x4 _ g4 (fun b _ hb => set8_past x4 b hb (.slice b2 n c2) (.slice r2 16384 d2) (.slice s2 3072 e2) (.int .u8 m.chosen) (.int .u8 m.pad) (.int .u16 m.pitch) (.int .u8 m.volume) (.int .u16 m.time)), j2.but hm x4 _ g4 (fun b _ hb => set8_past x4 b hb (.slice b2 n c2) (.slice r2 16384 d2) (.slice s2 3072 e2) (.int .u8 m.chosen) (.int .u8 m.pad) (.int .u16 m.pitch) (.int .u8 m.volume) (.int .u16 m.time))⟩
theorem mc3 (hm : MemOk m) (hz : Zo w0 W) (n3 : w0.heap.size ≤ x3) (hx4 : x4 = W.heap.size) (z3 : W.heap[x3]? = some (.cells #[.slice none 0 0, .slice none 0 0, .slice none 0 0, .int .u8 0, .int .u8 0, .int .u16 0, .int .u8 0, .int .u16 0] 161 (0, 0))) (i1 : ImgR W b1 r1 s1 m) (i2 : ImgR W b2 r2 s2 m) :
    MC w0 (((((((((W.setCell ⟨x3, 0, none⟩ (.slice b1 n c1)).setCell ⟨x3, 1, none⟩ (.slice r1 16384 d1)).setCell ⟨x3, 2, none⟩ (.slice s1 3072 e1)).setCell ⟨x3, 3, none⟩ (.int .u8 m.chosen)).setCell ⟨x3, 4, none⟩ (.int .u8 m.pad)).setCell ⟨x3, 5, none⟩ (.int .u16 m.pitch)).setCell ⟨x3, 6, none⟩ (.int .u8 m.volume)).setCell ⟨x3, 7, none⟩ (.int .u16 m.time)).alloc (.cells #[.slice b2 n c2, .slice r2 16384 d2, .slice s2 3072 e2, .int .u8 m.chosen, .int .u8 m.pad, .int .u16 m.pitch, .int .u8 m.volume, .int .u16 m.time] 163)) x3 x4 n b1 r1 s1 b2 r2 s2 c1 d1 e1 c2 d2 e2 m := by
  subst hx4
  have hl : x3 < W.heap.size := (Array.getElem?_eq_some_iff.1 z3).1
  have g3 := put8 z3 (.slice b1 n c1) (.slice r1 16384 d1) (.slice s1 3072 e1) (.int .u8 m.chosen) (.int .u8 m.pad) (.int .u16 m.pitch) (.int .u8 m.volume) (.int .u16 m.time)
  have j1 := i1.but hm x3 _ z3 (fun b _ hb => set8_past (w := W) x3 b hb (.slice b1 n c1) (.slice r1 16384 d1) (.slice s1 3072 e1) (.int .u8 m.chosen) (.int .u8 m.pad) (.int .u16 m.pitch) (.int .u8 m.volume) (.int .u16 m.time))
  have j2 := i2.but hm x3 _ z3 (fun b _ hb => set8_past (w := W) x3 b hb (.slice b1 n c1) (.slice r1 16384 d1) (.slice s1 3072 e1) (.int .u8 m.chosen) (.int .u8 m.pad) (.int .u16 m.pitch) (.int .u8 m.volume) (.int .u16 m.time))
  have hx : Zo ((((((((W.setCell ⟨x3, 0, none⟩ (.slice b1 n c1)).setCell ⟨x3, 1, none⟩ (.slice r1 16384 d1)).setCell ⟨x3, 2, none⟩ (.slice s1 3072 e1)).setCell ⟨x3, 3, none⟩ (.int .u8 m.chosen)).setCell ⟨x3, 4, none⟩ (.int .u8 m.pad)).setCell ⟨x3, 5, none⟩ (.int .u16 m.pitch)).setCell ⟨x3, 6, none⟩ (.int .u8 m.volume)).setCell ⟨x3, 7, none⟩ (.int .u16 m.time)) (((((((((W.setCell ⟨x3, 0, none⟩ (.slice b1 n c1)).setCell ⟨x3, 1, none⟩ (.slice r1 16384 d1)).setCell ⟨x3, 2, none⟩ (.slice s1 3072 e1)).setCell ⟨x3, 3, none⟩ (.int .u8 m.chosen)).setCell ⟨x3, 4, none⟩ (.int .u8 m.pad)).setCell ⟨x3, 5, none⟩ (.int .u16 m.pitch)).setCell ⟨x3, 6, none⟩ (.int .u8 m.volume)).setCell ⟨x3, 7, none⟩ (.int .u16 m.time)).alloc (.cells #[.slice b2 n c2, .slice r2 16384 d2, .slice s2 3072 e2, .int .u8 m.chosen, .int .u8 m.pad, .int .u16 m.pitch, .int .u8 m.volume, .int .u16 m.time] 163)) := (Zo.refl _).al _
  refine ⟨(hz.set8 x3 n3 (.slice b1 n c1) (.slice r1 16384 d1) (.slice s1 3072 e1) (.int .u8 m.chosen) (.int .u8 m.pad) (.int .u16 m.pitch) (.int .u8 m.volume) (.int .u16 m.time)).al _, hx.heap g3, heap_at _ _ _ ?_, j1.zo hx, j2.zo hx⟩
  rw [set8_size]
theorem mc5 (hm : MemOk m) (hz : Zo w0 W) (hx4 : x4 = W.heap.size) (hx3 : x3 = W.heap.size + 1) (i1 : ImgR W b1 r1 s1 m) (i2 : ImgR W b2 r2 s2 m) :
    MC w0 ((W.alloc (.cells #[.slice b2 n c2, .slice r2 16384 d2, .slice s2 3072 e2, .int .u8 m.chosen, .int .u8 m.pad, .int .u16 m.pitch, .int .u8 m.volume, .int .u16 m.time] 163)).alloc (.cells #[.slice b1 n c1, .slice r1 16384 d1, .slice s1 3072 e1, .int .u8 m.chosen, .int .u8 m.pad, .int .u16 m.pitch, .int .u8 m.volume, .int .u16 m.time] 161)) x3 x4 n b1 r1 s1 b2 r2 s2 c1 d1 e1 c2 d2 e2 m := by
  subst hx3
  subst hx4
  have hx : Zo W ((W.alloc (.cells #[.slice b2 n c2, .slice r2 16384 d2, .slice s2 3072 e2, .int .u8 m.chosen, .int .u8 m.pad, .int .u16 m.pitch, .int .u8 m.volume, .int .u16 m.time] 163)).alloc (.cells #[.slice b1 n c1, .slice r1 16384 d1, .slice s1 3072 e1, .int .u8 m.chosen, .int .u8 m.pad, .int .u16 m.pitch, .int .u8 m.volume, .int .u16 m.time] 161)) := ((Zo.refl W).al _).al _
  exact ⟨(hz.al _).al _, heap_at _ _ _ (by simp), ((Zo.refl _).al _).heap (heap_alloc_new W _), i1.zo hx, i2.zo hx⟩
theorem mc6 (hm : MemOk m) (hz : Zo w0 W) (n4 : w0.heap.size ≤ x4) (hx3 : x3 = W.heap.size) (z4 : W.heap[x4]? = some (.cells #[.slice none 0 0, .slice none 0 0, .slice none 0 0, .int .u8 0, .int .u8 0, .int .u16 0, .int .u8 0, .int .u16 0] 163 (0, 0))) (i1 : ImgR W b1 r1 s1 m) (i2 : ImgR W b2 r2 s2 m) :
    MC w0 (((((((((W.setCell ⟨x4, 0, none⟩ (.slice b2 n c2)).setCell ⟨x4, 1, none⟩ (.slice r2 16384 d2)).setCell ⟨x4, 2, none⟩ (.slice s2 3072 e2)).setCell ⟨x4, 3, none⟩ (.int .u8 m.chosen)).setCell ⟨x4, 4, none⟩ (.int .u8 m.pad)).setCell ⟨x4, 5, none⟩ (.int .u16 m.pitch)).setCell ⟨x4, 6, none⟩ (.int .u8 m.volume)).setCell ⟨x4, 7, none⟩ (.int .u16 m.time)).alloc (.cells #[.slice b1 n c1, .slice r1 16384 d1, .slice s1 3072 e1, .int .u8 m.chosen, .int .u8 m.pad, .int .u16 m.pitch, .int .u8 m.volume, .int .u16 m.time] 161)) x3 x4 n b1 r1 s1 b2 r2 s2 c1 d1 e1 c2 d2 e2 m := by
  subst hx3
  have hl : x4 < W.heap.size := (Array.getElem?_eq_some_iff.1 z4).1
  have g4 := put8 z4 (.slice b2 n c2) (.slice r2 16384 d2) (.slice s2 3072 e2) (.int .u8 m.chosen) (.int .u8 m.pad) (.int .u16 m.pitch) (.int .u8 m.volume) (.int .u16 m.time)
  have j1 := i1.but hm x4 _ z4 (fun b _ hb => set8_past (w := W) x4 b hb (.slice b2 n c2) (.slice r2 16384 d2) (.slice s2 3072 e2) (.int .u8 m.chosen) (.int .u8 m.pad) (.int .u16 m.pitch) (.int .u8 m.volume) (.int .u16 m.time))
  have j2 := i2.but hm x4 _ z4 (fun b _ hb => set8_past (w := W) x4 b hb (.slice b2 n c2) (.slice r2 16384 d2) (.slice s2 3072 e2) (.int .u8 m.chosen) (.int .u8 m.pad) (.int .u16 m.pitch) (.int .u8 m.volume) (.int .u16 m.time))
  have hx : Zo ((((((((W.setCell ⟨x4, 0, none⟩ (.slice b2 n c2)).setCell ⟨x4, 1, none⟩ (.slice r2 16384 d2)).setCell ⟨x4, 2, none⟩ (.slice s2 3072 e2)).setCell ⟨x4, 3, none⟩ (.int .u8 m.chosen)).setCell ⟨x4, 4, none⟩ (.int .u8 m.pad)).setCell ⟨x4, 5, none⟩ (.int .u16 m.pitch)).setCell ⟨x4, 6, none⟩ (.int .u8 m.volume)).setCell ⟨x4, 7, none⟩ (.int .u16 m.time)) (((((((((W.setCell ⟨x4, 0, none⟩ (.slice b2 n c2)).setCell ⟨x4, 1, none⟩ (.slice r2 16384 d2)).setCell ⟨x4, 2, none⟩ (.slice s2 3072 e2)).setCell ⟨x4, 3, none⟩ (.int .u8 m.chosen)).setCell ⟨x4, 4, none⟩ (.int .u8 m.pad)).setCell ⟨x4, 5, none⟩ (.int .u16 m.pitch)).setCell ⟨x4, 6, none⟩ (.int .u8 m.volume)).setCell ⟨x4, 7, none⟩ (.int .u16 m.time)).alloc (.cells #[.slice b1 n c1, .slice r1 16384 d1, .slice s1 3072 e1, .int .u8 m.chosen, .int .u8 m.pad, .int .u16 m.pitch, .int .u8 m.volume, .int .u16 m.time] 161)) := (Zo.refl _).al _
  refine ⟨(hz.set8 x4 n4 (.slice b2 n c2) (.slice r2 16384 d2) (.slice s2 3072 e2) (.int .u8 m.chosen) (.int .u8 m.pad) (.int .u16 m.pitch) (.int .u8 m.volume) (.int .u16 m.time)).al _, heap_at _ _ _ ?_, hx.heap g4, j1.zo hx, j2.zo hx⟩
  rw [set8_size]
theorem mc4 (hm : MemOk m) (hz : Zo w0 W) (hx3 : x3 = W.heap.size) (hx4 : x4 = W.heap.size + 1) (i1 : ImgR W b1 r1 s1 m) (i2 : ImgR W b2 r2 s2 m) :
    MC w0 ((W.alloc (.cells #[.slice b1 n c1, .slice r1 16384 d1, .slice s1 3072 e1, .int .u8 m.chosen, .int .u8 m.pad, .int .u16 m.pitch, .int .u8 m.volume, .int .u16 m.time] 161)).alloc (.cells #[.slice b2 n c2, .slice r2 16384 d2, .slice s2 3072 e2, .int .u8 m.chosen, .int .u8 m.pad, .int .u16 m.pitch, .int .u8 m.volume, .int .u16 m.time] 163)) x3 x4 n b1 r1 s1 b2 r2 s2 c1 d1 e1 c2 d2 e2 m := by
  subst hx3
  subst hx4
  have hx : Zo W ((W.alloc (.cells #[.slice b1 n c1, .slice r1 16384 d1, .slice s1 3072 e1, .int .u8 m.chosen, .int .u8 m.pad, .int .u16 m.pitch, .int .u8 m.volume, .int .u16 m.time] 161)).alloc (.cells #[.slice b2 n c2, .slice r2 16384 d2, .slice s2 3072 e2, .int .u8 m.chosen, .int .u8 m.pad, .int .u16 m.pitch, .int .u8 m.volume, .int .u16 m.time] 163)) := ((Zo.refl W).al _).al _
  exact ⟨(hz.al _).al _, ((Zo.refl _).al _).heap (heap_alloc_new W _), heap_at _ _ _ (by simp), i1.zo hx, i2.zo hx⟩
end
end Go.Proofs.YtdnalhjdmlkbmaaGreatDoor
namespace Go.Proofs.YtdnalhjdmlkbmaaGreatDoor
open Go.RowKit
set_option linter.unusedVariables false
theorem Tryz.stood152 : Tryz.prog.stoodInHeld 152 = false := by kernel_rfl
theorem eqlTone (a b c : Int) (w : World) : (Op.equalIn 10000 152 (.agg #[.int .i64 a, .int .u16 b, .int .u8 c]) (.agg #[.int .i64 a, .int .u16 b, .int .u8 c])).run Tryz.prog w = .ok true w := by
  have ht : Tryz.prog.underlying 152 = some (.struct (Tryz.prog.fieldsOf 152)) := by simp only [Program.fieldsOf, Tryz.underlying152]
  rw [show (10000 : Nat) = 9998 + 1 + 1 from rfl, run_equalIn_struct w (9998 + 1) 152 _ _ ht Tryz.stood152]
  simp only [Program.fieldsOf, Tryz.underlying152]
  simp [Op.eqFields, go_sem]
theorem tonesC_get : ∀ (l : List (Int × Int × Int)) (j : Nat) (x : Int × Int × Int), l[j]? = some x → (tonesC l)[j * 3]? = some (.int .i64 x.1) ∧ (tonesC l)[j * 3 + 1]? = some (.int .u16 x.2.1) ∧ (tonesC l)[j * 3 + 2]? = some (.int .u8 x.2.2)
  | [], _, _, h => by simp at h
  | y :: l, 0, x, h => by
    simp at h
    subst h
    exact ⟨rfl, rfl, rfl⟩
  | y :: l, j + 1, x, h => by
    have h1 := tonesC_get l j x (by simpa using h)
    have e : tonesC (y :: l) = .int .i64 y.1 :: .int .u16 y.2.1 :: .int .u8 y.2.2 :: tonesC l := rfl
    rw [e, show (j + 1) * 3 = j * 3 + 1 + 1 + 1 from by omega]
    simpa using h1
set_option maxRecDepth 100000 in
set_option maxHeartbeats 1000000 in
theorem sameTones_yes (a b : Option Addr) (n c d : Nat) (l : List (Int × Int × Int)) (hl : l.length = n) (hn : n ≤ 1000000) (w : World) (ha : Reads w a (tonesC l)) (hb : Reads w b (tonesC l)) :
    Calls Tryz.prog 85 #[.slice a n c, .slice b n d] w fun e w' => e = .returned (.bool true) ∧ ∃ z, w' = w.drewN z := by
  have HL := Lib.hid hl
  have HA := Lib.hid ha
  have HB := Lib.hid hb
  clear hl ha hb
  go_enter Tryz.func85, Tryz.ntmps85
  go_wp2_with fail
  go_loopw [13] (fun vi wr => ∃ j : Nat, j ≤ n ∧ vi = .int .i64 j ∧ ∃ z, wr = w.drewN z) (fun vi _ => n - (intOf vi).toNat)
  case atStart => exact ⟨0, by omega, rfl, 0, rfl⟩
  case round =>
    obtain ⟨j, hj, rfl, z, rfl⟩ := hrel
    by_cases h : j < n
    · obtain ⟨p, hp⟩ : ∃ p, l[j]? = some p := ⟨l[j]'(by rw [HL.out]; exact h), by simp⟩
      obtain ⟨t1, t2, t3⟩ := tonesC_get l j p hp
      obtain ⟨b1, o1, e1, c1, _⟩ := HA.out.some (by intro e; rw [e] at t1; simp at t1)
      obtain ⟨b2, o2, e2, c2, _⟩ := HB.out.some (by intro e; rw [e] at t1; simp at t1)
      subst e1
      subst e2
      have x1 := c1 _ _ t1
      have x2 := c1 _ _ t2
      have x3 := c1 _ _ t3
      have y1 := c2 _ _ t1
      have y2 := c2 _ _ t2
      have y3 := c2 _ _ t3
      rw [← Nat.add_assoc] at x2 x3 y2 y3
      have hE := eqlTone
      have hwi : IntKind.i64.wrap ((j : Int) + 1) = (j : Int) + 1 := IntWalk.i64_in _ (by omega)
      clear hp t1 t2 t3 c1 c2
      go_wp2_with fail
      go_quiet (fail)
      go_wp2_with fail
      exact ⟨⟨j + 1, by omega, by simp, _, rfl⟩, by simp only [intOf]; omega⟩
    · go_wp2_with fail
      go_ret
      exact ⟨rfl, _, rfl⟩
end Go.Proofs.YtdnalhjdmlkbmaaGreatDoor
namespace Go.Proofs.YtdnalhjdmlkbmaaGreatDoor
open Go.RowKit
set_option linter.unusedVariables false
theorem keepK {w w' : World} {K M Z : Nat} (h : w.cell? ⟨K, 2, none⟩ = some (.pointer (some ⟨M, 0, none⟩)) ∧ w.cell? ⟨K, 5, none⟩ = some (.pointer (some ⟨Z, 0, none⟩))) (hz : Zo w w') :
    w'.cell? ⟨K, 2, none⟩ = some (.pointer (some ⟨M, 0, none⟩)) ∧ w'.cell? ⟨K, 5, none⟩ = some (.pointer (some ⟨Z, 0, none⟩)) := ⟨hz.cell_some h.1 id, hz.cell_some h.2 id⟩
theorem Zo.predr {u v : World} (h : Zo u.drew v) : Zo u v := by
  have h1 : Adv (fun _ => False) u.drew (fun _ => 0) v (fun _ => 0) := h
  exact ⟨h1.os, h1.tape, h1.output, h1.size, fun _ _ => rfl, h1.keep⟩
theorem Zo.one {u v : World} {o : Obj} (h : Zo (u.alloc o) v) : v.heap[u.heap.size]? = some o := h.heap (heap_alloc_new u o)
theorem Zo.two {u v : World} {o o' : Obj} (h : Zo ((u.alloc o).alloc o') v) : v.heap[u.heap.size]? = some o ∧ v.heap[u.heap.size + 1]? = some o' :=
  ⟨h.heap ((heap_past _ _ _ (by simp)).trans (heap_alloc_new u o)), h.heap (heap_at _ _ _ (by simp))⟩
set_option maxRecDepth 100000 in
set_option maxHeartbeats 8000000 in
theorem memories_any (G : Nat → Nat) (q d K D R M X Y Z : Nat) (m : MemS) (hm : MemOk m) (hk : keysF m = [0, 9]) (ht : m.tones.length ≤ 1000000) (w : World) (hw : W6h w G K D R M X Y Z) (hp : PM w G q M m) (hz : RM w G d Z m) :
    Calls Tryz.prog 26 #[.pointer (some ⟨K, 0, none⟩)] w fun e w' => e = .returned (.bool true) ∧ ∃ G', Adv (fun _ => False) w G w' G' := by
  obtain ⟨bs0, ba, bc, ra0, sa0, ta, tc, hin⟩ := hz.read
  have HIN := Lib.hid hin
  have HP := Lib.hid (show PM w (fun _ => 0) 0 M m from hp.relabel (fun _ _ _ => rfl))
  have HM := Lib.hid hm
  have HK := Lib.hid (And.intro (block_cell hw.1 2 _ rfl) (block_cell hw.1 5 _ rfl))
  have HKY := Lib.hid hk
  obtain ⟨n, hn⟩ : ∃ n, n = m.banks.length := ⟨_, rfl⟩
  have hn2 : m.banks.length ≤ 1000000 := by
    obtain ⟨k0, k1, hb⟩ := two_banks hk
    rw [hb]
    show 2 ≤ 1000000
    omega
  have HN := Lib.hid hn
  have HN2 := Lib.hid hn2
  have QC := HK.out
  clear hin hp hm hw hz hk hn hn2
  go_enter Tryz.func26, Tryz.ntmps26
  go_upto_region 1 with fail
  go_cut [3, 4] (fun s3 s4 wx => ∃ x3 x4 b1 r1 s1 b2 r2 s2 c1 d1 e1 c2 d2 e2, s3 = .pointer (some ⟨x3, 0, none⟩) ∧ s4 = .pointer (some ⟨x4, 0, none⟩) ∧ MC w wx x3 x4 n b1 r1 s1 b2 r2 s2 c1 d1 e1 c2 d2 e2 m)
  case first =>
    go_region_held3 (fun w' => w'.cell? ⟨K, 2, none⟩ = some (.pointer (some ⟨M, 0, none⟩)) ∧ w'.cell? ⟨K, 5, none⟩ = some (.pointer (some ⟨Z, 0, none⟩))) (first | with_reducible exact QC | with_reducible assumption | (with_reducible refine keepK HK.out ?_; repeat' (first | with_reducible exact Zo.refl _ | with_reducible exact Y2.out | with_reducible exact ZB.out | with_reducible exact ZA.out | with_reducible refine Zo.al ?_ _ | with_reducible refine Zo.dr ?_ | with_reducible refine Zo.set8 ?_ _ ?_ _ _ _ _ _ _ _ _ | omega | (simp only [World.size_alloc]; omega) | (simp; omega))))
      (first | (go_at_call 82; refine Calls.mono (imageZ M m HM.out HKY.out n HN.out w _ HP.out ?hz) ?_; (case hz => repeat' (first | with_reducible exact Zo.refl _ | with_reducible refine Zo.al ?_ _ | with_reducible refine Zo.dr ?_)); rintro e w1 ⟨b1, c1, r1, d1, s1, e1, rfl, z1, i1⟩; have Z1 := Lib.hid z1; have I1 := Lib.hid i1; have zq := z1; (try (with_reducible (replace zq := Zo.predr zq))); (try (with_reducible (have P3 := Zo.one zq))); (try (with_reducible (have PP := Zo.two zq); obtain ⟨P3, P4⟩ := PP)); clear zq; (try (have pl1 := (Array.getElem?_eq_some_iff.1 P3).1)); (try (have pl2 := (Array.getElem?_eq_some_iff.1 P4).1)); have ZA := Lib.hid (Zo.trans (show Zo w _ by repeat' (first | with_reducible exact Zo.refl _ | with_reducible refine Zo.al ?_ _ | with_reducible refine Zo.dr ?_)) z1); have hzA := ZA.out.size; clear z1 i1) | (go_at_call 74; refine Calls.mono (refImageZ Z m HM.out n HN.out HN2.out ht bs0 ba bc ra0 sa0 ta tc w _ HIN.out ?hz) ?_; (case hz => repeat' (first | with_reducible exact ZA.out | with_reducible refine Zo.al ?_ _ | with_reducible refine Zo.dr ?_)); rintro e w2 ⟨b2, c2, r2, d2, s2, e2, rfl, z2, i2⟩; have Z2 := Lib.hid z2; have I2 := Lib.hid i2; have zq := z2; (try (with_reducible (replace zq := Zo.predr zq))); (try (with_reducible (have Q3 := Zo.one zq))); (try (with_reducible (have QQ := Zo.two zq); obtain ⟨Q3, Q4⟩ := QQ)); clear zq; have Y2 := Lib.hid (Zo.trans (show Zo w1 _ by repeat' (first | with_reducible exact Zo.refl _ | with_reducible refine Zo.al ?_ _ | with_reducible refine Zo.dr ?_)) z2); (try (have P3 := Y2.out.heap P3)); (try (have P4 := Y2.out.heap P4)); (try (have pa0 := block_cell P3 0 _ rfl; have pa1 := block_cell P3 1 _ rfl; have pa2 := block_cell P3 2 _ rfl; have pa3 := block_cell P3 3 _ rfl; have pa4 := block_cell P3 4 _ rfl; have pa5 := block_cell P3 5 _ rfl; have pa6 := block_cell P3 6 _ rfl; have pa7 := block_cell P3 7 _ rfl; have paf := block_free P3; have pal := (Array.getElem?_eq_some_iff.1 P3).1)); (try (have pb0 := block_cell P4 0 _ rfl; have pb1 := block_cell P4 1 _ rfl; have pb2 := block_cell P4 2 _ rfl; have pb3 := block_cell P4 3 _ rfl; have pb4 := block_cell P4 4 _ rfl; have pb5 := block_cell P4 5 _ rfl; have pb6 := block_cell P4 6 _ rfl; have pb7 := block_cell P4 7 _ rfl; have pbf := block_free P4; have pbl := (Array.getElem?_eq_some_iff.1 P4).1)); (try (have qa0 := block_cell Q3 0 _ rfl; have qa1 := block_cell Q3 1 _ rfl; have qa2 := block_cell Q3 2 _ rfl; have qa3 := block_cell Q3 3 _ rfl; have qa4 := block_cell Q3 4 _ rfl; have qa5 := block_cell Q3 5 _ rfl; have qa6 := block_cell Q3 6 _ rfl; have qa7 := block_cell Q3 7 _ rfl; have qaf := block_free Q3; have qal := (Array.getElem?_eq_some_iff.1 Q3).1)); (try (have qb0 := block_cell Q4 0 _ rfl; have qb1 := block_cell Q4 1 _ rfl; have qb2 := block_cell Q4 2 _ rfl; have qb3 := block_cell Q4 3 _ rfl; have qb4 := block_cell Q4 4 _ rfl; have qb5 := block_cell Q4 5 _ rfl; have qb6 := block_cell Q4 6 _ rfl; have qb7 := block_cell Q4 7 _ rfl; have qbf := block_free Q4; have qbl := (Array.getElem?_eq_some_iff.1 Q4).1)); have ZB := Lib.hid (ZA.out.trans Y2.out); have hzB := ZB.out.size; have hzY := Y2.out.size; (try (have hn1 : w.heap.size ≠ w1.heap.size := by omega)); (try (have hn2 : w1.heap.size ≠ w.heap.size := by omega)); (try (have hn3 : w.heap.size + 1 ≠ w1.heap.size := by omega)); (try (have hn4 : w1.heap.size ≠ w.heap.size + 1 := by omega)); (try (have hn5 : w.heap.size ≠ w2.heap.size := by omega)); (try (have hn6 : w2.heap.size ≠ w.heap.size := by omega)); (try (have hn7 : w.heap.size + 1 ≠ w2.heap.size := by omega)); (try (have hn8 : w2.heap.size ≠ w.heap.size + 1 := by omega)); (try (have hn9 : w1.heap.size ≠ w2.heap.size := by omega)); (try (have hn10 : w2.heap.size ≠ w1.heap.size := by omega)); (try (have hn11 : w1.heap.size + 1 ≠ w2.heap.size := by omega)); (try (have hn12 : w2.heap.size ≠ w1.heap.size + 1 := by omega)); clear z2 i2))
    all_goals
      go_wp2_with fail
      go_meet
      refine ⟨_, _, b1, r1, s1, b2, r2, s2, c1, d1, e1, c2, d2, e2, rfl, rfl, ?_⟩
      have J1 := I1.out.zo Y2.out
      first
        | ((with_reducible refine mc4 HM.out ZB.out ?_ ?_ J1 I2.out); (all_goals omega))
        | ((with_reducible refine mc5 HM.out ZB.out ?_ ?_ J1 I2.out); (all_goals omega))
        | ((with_reducible refine mc3 HM.out ZB.out ?_ ?_ ?_ J1 I2.out); omega; omega; assumption)
        | ((with_reducible refine mc6 HM.out ZB.out ?_ ?_ ?_ J1 I2.out); omega; omega; assumption)
        | ((with_reducible refine mc1 HM.out ZB.out ?_ ?_ ?_ ?_ ?_ J1 I2.out); omega; omega; omega; assumption; assumption)
  case rest =>
    obtain ⟨x3, x4, b1, r1, s1, b2, r2, s2, c1, d1, e1, c2, d2, e2, rfl, rfl, hmc⟩ := hcut
    obtain ⟨wk, rfl⟩ : ∃ v : World, v = wc := ⟨_, rfl⟩
    have HC := Lib.hid hmc
    have HZ := Lib.hid hmc.z
    clear QC
    have g0 := block_cell hmc.h3 0 _ rfl
    have g1 := block_cell hmc.h3 1 _ rfl
    have g2 := block_cell hmc.h3 2 _ rfl
    have g3 := block_cell hmc.h3 3 _ rfl
    have g4 := block_cell hmc.h3 4 _ rfl
    have g5 := block_cell hmc.h3 5 _ rfl
    have g6 := block_cell hmc.h3 6 _ rfl
    have g7 := block_cell hmc.h3 7 _ rfl
    have h0 := block_cell hmc.h4 0 _ rfl
    have h1 := block_cell hmc.h4 1 _ rfl
    have h2 := block_cell hmc.h4 2 _ rfl
    have h3 := block_cell hmc.h4 3 _ rfl
    have h4 := block_cell hmc.h4 4 _ rfl
    have h5 := block_cell hmc.h4 5 _ rfl
    have h6 := block_cell hmc.h4 6 _ rfl
    have h7 := block_cell hmc.h4 7 _ rfl
    clear hmc
    go_wp2_with fail
    refine (sameImage_yes _ _ m HM.out HN2.out wk ⟨b1, c1, r1, d1, s1, e1, by rw [← HN.out], HC.out.i1⟩ ⟨b2, c2, r2, d2, s2, e2, by rw [← HN.out], HC.out.i2⟩).mono ?_
    rintro e w3 ⟨rfl, z3⟩
    have Z3 := Lib.hid (HZ.out.trans z3)
    obtain ⟨qm, qz⟩ := keepK HK.out Z3.out
    clear z3 g0 h0 g1 h1 g2 h2 g3 h3 g4 h4 g5 h5 g6 h6 g7 h7
    go_wp2_with fail
    refine (tones_any (fun _ => 0) 0 0 M m HM.out ht w3 (HP.out.adv Z3.out id)).mono ?_
    rintro e w4 ⟨ta4, tc4, G4, rfl, a4, r4⟩
    have Z4 := Lib.hid (Z3.out.trans (Zo.of a4 id))
    have R4 := Lib.hid r4.reads
    obtain ⟨qm, qz⟩ := keepK HK.out Z4.out
    have c9 := block_cell (HIN.out.adv Z4.out id).head 9 _ rfl
    obtain ⟨tn, htn⟩ : ∃ v, v = m.tones.length := ⟨_, rfl⟩
    rw [← htn] at c9 ht
    rw [← htn]
    have HTN := Lib.hid htn
    clear a4 r4 htn
    go_wp2_with fail
    refine (sameTones_yes ta4 ta tn tc4 tc m.tones HTN.out.symm ht w4 R4.out (HIN.out.adv Z4.out id).tones).mono ?_
    rintro e w5 ⟨rfl, z, rfl⟩
    go_wp2
    go_ret
    exact ⟨rfl, _, (Z4.out.drN z).own G⟩
end Go.Proofs.YtdnalhjdmlkbmaaGreatDoor
namespace Go.Proofs.YtdnalhjdmlkbmaaGreatDoor
open Go.RowKit
set_option linter.unusedVariables false
/-- Both sides hold l, r, m. -/
structure S6 (w : World) (G : Nat → Nat) (K D R M X Y Z : Nat) (l : List Int) (r : List (Int × Int)) (m : MemS) : Prop where
  hw : W6h w G K D R M X Y Z
  pu : PU w G 1 D l
  pr : PR w G 2 R r
  pm : PM w G 3 M m
  eu : EU w G 9 X l
  er : ER w G 8 Y r
  rm : RM w G 11 Z m
  gd : Good3 l r m
section
variable {w w' : World} {G G' : Nat → Nat} {K D R M X Y Z : Nat} {l : List Int} {r : List (Int × Int)} {m : MemS}
theorem W6h.still (h : W6h w G K D R M X Y Z) (ha : Adv (fun _ => False) w G w' G') : W6h w' G' K D R M X Y Z := by
  have hl : K < w.heap.size := (Array.getElem?_eq_some_iff.1 h.1).1
  exact ⟨(ha.keep K hl id).trans h.1, (ha.own K hl).trans h.2⟩
theorem S6.still (h : S6 w G K D R M X Y Z l r m) (ha : Adv (fun _ => False) w G w' G') : S6 w' G' K D R M X Y Z l r m :=
  ⟨h.hw.still ha, h.pu.adv ha id, h.pr.adv ha id, h.pm.adv ha id, h.eu.adv ha id, h.er.adv ha id, h.rm.adv ha (fun _ _ => id), h.gd⟩
theorem S6.cells (h : S6 w G K D R M X Y Z l r m) : w.cell? ⟨K, 0, none⟩ = some (.pointer (some ⟨D, 0, none⟩)) ∧ w.cell? ⟨K, 1, none⟩ = some (.pointer (some ⟨R, 0, none⟩)) ∧ w.cell? ⟨K, 2, none⟩ = some (.pointer (some ⟨M, 0, none⟩)) :=
  ⟨block_cell h.hw.1 0 _ rfl, block_cell h.hw.1 1 _ rfl, block_cell h.hw.1 2 _ rfl⟩
theorem S6.refs (h : S6 w G K D R M X Y Z l r m) : w.cell? ⟨K, 3, none⟩ = some (.pointer (some ⟨X, 0, none⟩)) ∧ w.cell? ⟨K, 4, none⟩ = some (.pointer (some ⟨Y, 0, none⟩)) ∧ w.cell? ⟨K, 5, none⟩ = some (.pointer (some ⟨Z, 0, none⟩)) :=
  ⟨block_cell h.hw.1 3 _ rfl, block_cell h.hw.1 4 _ rfl, block_cell h.hw.1 5 _ rfl⟩
end
theorem EU.read {w : World} {G : Nat → Nat} {i D : Nat} {l : List Int} (h : EU w G i D l) : ∃ a c, w.cell? ⟨D, 0, none⟩ = some (.slice a l.length c) ∧ Reads w a (cellsU l) := by
  obtain ⟨v, h⟩ := h
  obtain ⟨a, c, rfl⟩ := h.slice
  exact ⟨a, c, h.cell, h.row'.reads⟩
theorem ER.read {w : World} {G : Nat → Nat} {i D : Nat} {l : List (Int × Int)} (h : ER w G i D l) : ∃ a c, w.cell? ⟨D, 0, none⟩ = some (.slice a l.length c) ∧ Reads w a (cellsR l) := by
  obtain ⟨v, h⟩ := h
  obtain ⟨a, c, rfl⟩ := h.slice
  exact ⟨a, c, h.cell, h.row'.reads⟩
set_option maxRecDepth 100000 in
set_option maxHeartbeats 2000000 in
theorem stacks_any (G : Nat → Nat) (K D R M X Y Z : Nat) (l : List Int) (r : List (Int × Int)) (m : MemS) (w : World) (hs : S6 w G K D R M X Y Z l r m) :
    Calls Tryz.prog 25 #[.pointer (some ⟨K, 0, none⟩)] w fun e w' => e = .returned (.bool true) ∧ ∃ G', Adv (fun _ => False) w G w' G' := by
  have hdr := (Adv.refl (fun _ => False) w G).drew
  have AC := Lib.hid hdr
  have HC := Lib.hid (hs.still hdr)
  have QC := HC.out.cells
  have hl9 := hs.gd.dl
  have hr9 := hs.gd.rl
  obtain ⟨n, hn⟩ : ∃ v, v = l.length := ⟨_, rfl⟩
  obtain ⟨k, hk⟩ : ∃ v, v = r.length := ⟨_, rfl⟩
  rw [← hn] at hl9
  rw [← hk] at hr9
  have HN := Lib.hid hn
  have HK := Lib.hid hk
  clear hdr hs hn hk
  go_enter Tryz.func25, Tryz.ntmps25
  go_upto_region 1 with fail
  go_region_held3 (fun w' => w'.cell? ⟨K, 0, none⟩ = some (.pointer (some ⟨D, 0, none⟩)) ∧ w'.cell? ⟨K, 1, none⟩ = some (.pointer (some ⟨R, 0, none⟩)) ∧ w'.cell? ⟨K, 2, none⟩ = some (.pointer (some ⟨M, 0, none⟩))) (first | with_reducible exact QC | with_reducible assumption)
    (first | (go_at_call 30; refine (cellsU_full _ 1 D l _ HC.out.pu HC.out.gd.dl).mono ?_; rintro e wz ⟨bA, Gz, rfl, az, rz⟩; have AC := Lib.hid (AC.out.trans az); have HC := Lib.hid (HC.out.still az); have RA := Lib.hid rz; (try (have RB := Lib.hid (RB.out.adv az id))); have QC := HC.out.cells; clear az rz) | (go_at_call 31; refine (cellsR_new _ 2 R r _ HC.out.pr (by have := HC.out.gd.rl; omega)).mono ?_; rintro e wz ⟨bB, kB, Gz, rfl, az, rz, oz⟩; have AC := Lib.hid (AC.out.trans az); have HC := Lib.hid (HC.out.still az); have RB := Lib.hid (show Has _ _ _ _ from ⟨rz, oz⟩); (try (have RA := Lib.hid (RA.out.adv az id))); have QC := HC.out.cells; clear az rz oz))
  obtain ⟨q3, q4, -⟩ := HC.out.refs
  obtain ⟨xa, xc, x0, xr⟩ := HC.out.eu.read
  obtain ⟨ya, yc, y0, yr⟩ := HC.out.er.read
  rw [← HN.out] at x0 ⊢
  rw [← HK.out] at y0 ⊢
  have XR := Lib.hid xr
  have YR := Lib.hid yr
  clear xr yr QC
  go_wp2_with fail
  refine (sameU_any bA xa n n n xc l l _ HN.out.symm HN.out.symm (by omega) (by omega) RA.out.1 XR.out).mono ?_
  rintro e w' ⟨rfl, q, rfl⟩
  rw [decide_eq_true (rfl : l = l)]
  go_wp2_with fail
  refine (sameR_any bB ya k kB k yc r r _ HK.out.symm HK.out.symm (by omega) (by omega) (RB.out.1.adv ((Adv.refl (fun _ => False) wz Gz).drewN q) (fun _ _ => id)) (YR.out.adv ((Adv.refl (fun _ => False) wz Gz).drewN q) (fun _ _ => id))).mono ?_
  rintro e w' ⟨rfl, q2, rfl⟩
  rw [decide_eq_true (rfl : r = r)]
  go_wp2
  go_ret
  exact ⟨rfl, Gz, AC.out.drewN (q + q2)⟩
end Go.Proofs.YtdnalhjdmlkbmaaGreatDoor
namespace Go.Proofs.YtdnalhjdmlkbmaaGreatDoor
open Go.RowKit
set_option linter.unusedVariables false
theorem prim_in (a b c d : Int) (s : ByteArray) (o : Bool) (w : World) : (Instr.field 85 (.agg #[.int .i64 a, .string s, .int .i64 b, .int .i64 c, .int .i64 d, .bool o]) 2).run Tryz.prog w = .ok (.int .i64 b) w := by kernel_rfl
theorem reads_dropU {w : World} {g o : Nat} {l : List Int} (h : Reads w (some ⟨g, o, none⟩) (cellsU l)) (u : Nat) : Reads w (some ⟨g, o + u, none⟩) (cellsU (l.drop u)) := by
  rcases h with h | ⟨b, p, e, hc⟩
  · have h2 : l = [] := by
      have := congrArg List.length h
      rw [cellsU_length] at this
      exact List.eq_nil_of_length_eq_zero this
    subst h2
    exact .inl (by simp [cellsU])
  · cases e
    refine .inr ⟨g, o + u, rfl, fun j v hv => ?_⟩
    have := hc (u + j) v (by
      unfold cellsU at hv ⊢
      rw [List.map_drop, List.getElem?_drop] at hv
      exact hv)
    rwa [← Nat.add_assoc] at this
theorem Row.has {e size : Nat} {w : World} {G : Nat → Nat} {a : Option Addr} {n c : Nat} {xs : List Value} (h : Row e size w G 0 (.slice a n c) n xs) : Has w G a xs := by
  refine ⟨h.reads, fun ad e => ?_⟩
  rcases h.row.2 with ⟨e1, _⟩ | ⟨g, cap, cur, e1, hg, hgl, _⟩
  · cases e1; cases e
  · cases e1; cases e; exact ⟨h.own g rfl, (h.row.lt g rfl).2⟩
def S9 (o : Nat) : Prop := 8 ≤ o ∧ o < 15
/-- What Do leaves. -/
def DoIs9 (X Y Z : Nat) (w : World) (G : Nat → Nat) (d : List Int) (r : List (Int × Int)) (m : MemS) (f : Int) (e : Ending) (w' : World) : Prop :=
  e = .returned (.int .i64 f) ∧ ∃ G', Adv S9 w G w' G' ∧ EU w' G' 9 X d ∧ ER w' G' 8 Y r ∧ RM w' G' 11 Z m







/-- A row of the document's stack as it may lie. -/
theorem EU.lies {w : World} {G : Nat → Nat} {i X n : Nat} {d : List Int} (h : EU w G i X d) (hn : n = d.length) : ∃ xa xc, Pile 31 119 1 w G i X (.slice xa n xc) n (cellsU d) ∧ ((xa = none ∧ n = 0 ∧ xc = 0) ∨ ∃ g, xa = some ⟨g, 0, none⟩ ∧ n ≤ xc ∧ xc ≤ maxLen) := by
  subst hn
  obtain ⟨v, h⟩ := h
  rcases h.row.2 with ⟨e1, e2⟩ | ⟨g, cap, cur, e1, hg, hgl, c1, c2, _⟩
  · subst e1
    rw [e2] at h ⊢
    exact ⟨none, 0, h, .inl ⟨rfl, rfl, rfl⟩⟩
  · subst e1
    exact ⟨_, cap, h, .inr ⟨g, rfl, c1, c2⟩⟩
theorem reads_takeU {w : World} {a : Option Addr} {l : List Int} (h : Reads w a (cellsU l)) (u : Nat) : Reads w a (cellsU (l.take u)) := h.takeU u
theorem wrap_sub {n tn u : Nat} (h : n = u + tn) (hn : n ≤ 1000000) : IntKind.i64.wrap ((n : Int) - tn) = u := by
  rw [show (n : Int) - tn = u from by omega]
  exact IntWalk.i64_in _ (by omega)
set_option maxRecDepth 100000 in
set_option maxHeartbeats 8000000 in
theorem refDo_zero (k : Nat) (k1 : 1 ≤ k) (k64 : k < 64) (hpl : plainB k = true) (G : Nat → Nat) (X Y Z : Nat) (d : List Int) (r : List (Int × Int)) (m : MemS) (t : Nat) (w : World) (hd : EU w G 9 X d) (hr : ER w G 8 Y r) (hz : RM w G 11 Z m) (hg : Good3 d r m) (hmg : MGood m t) (ht : t ≤ 99999) (hf : faultF k d r = 0) :
    Calls Tryz.prog 52 #[.int .i64 k, .pointer (some ⟨X, 0, none⟩), .pointer (some ⟨Y, 0, none⟩), .pointer (some ⟨Z, 0, none⟩)] w (DoIs9 X Y Z w G (doF k d r m).1 (doF k d r m).2.1 (doF k d r m).2.2 0) := by
  have HD := Lib.hid hd
  have HR := Lib.hid hr
  have HZ := Lib.hid hz
  have HG := Lib.hid hg
  have HM := Lib.hid hmg
  have HF := Lib.hid hf
  have HPL := Lib.hid hpl
  have htk := takes_le k k64
  obtain ⟨n, hn⟩ : ∃ n, n = d.length := ⟨_, rfl⟩
  obtain ⟨tn, htn⟩ : ∃ v : Nat, (v : Int) = takesN k := ⟨(takesN k).toNat, by omega⟩
  have hn9 : n ≤ 256 := by rw [hn]; exact hg.dl
  obtain ⟨z1, z2, z3⟩ := faultF_zero hf
  have z4 := (needF_ok z1 htk.1 (leaves_le k k64).1)
  have z5 : tn ≤ n := by omega
  obtain ⟨u, hu⟩ : ∃ u : Nat, n = u + tn := ⟨n - tn, by omega⟩
  have hu2 : d.length - (takesN k).toNat = u := by omega
  have HACT := Lib.hid (show doF k d r m = actF k (d.take u) (d.drop u) r m from by rw [doF_zero hf, hu2])
  have HXL := Lib.hid (show (d.drop u).length = tn from by rw [List.length_drop]; omega)
  have HBL := Lib.hid (show (d.take u).length = u ∧ (u : Int) + leavesN k ≤ 256 from ⟨by rw [List.length_take]; omega, by omega⟩)
  have HLK := Lib.hid (And.intro z2 z3)
  have HKI := Lib.hid (kinds_of k k1 k64 hpl)
  have HW := Lib.hid (wrap_sub hu (by omega))
  have HN := Lib.hid hn
  have HT := Lib.hid htn
  have HU := Lib.hid hu
  have hut : u ≤ n := by omega
  clear hd hr hz hg hmg hf hpl htk hn htn z1 z2 z3 z4 z5 hu hu2
  go_enter Tryz.func52, Tryz.ntmps52
  go_wp2_with fail
  refine (refPlain_any k _).mono ?_
  rintro e w0 ⟨rfl, rfl⟩
  rw [HPL.out]
  go_wp2_with fail
  refine (refMay_any k k1 k64 G 9 8 X Y d r w HD.out HR.out HG.out.dl HG.out.rl).mono ?_
  rintro e w1 ⟨rfl, G1, a1⟩
  rw [HF.out]
  have A1 := Lib.hid (a1.trans (Adv.refl (fun _ => False) w1 G1).drew)
  have HD1 := Lib.hid (HD.out.adv A1.out id)
  obtain ⟨xa, xc, hp, hcs⟩ := HD1.out.lies HN.out
  have x0 := hp.cell
  have HCS := Lib.hid hcs
  have HP := Lib.hid hp
  have hfld := prim_in
  have hw7 := HW.out
  obtain ⟨i0, hi, hz0, hz1, hz2⟩ := info_parts Tryz.info31
  clear a1 hp hcs
  go_upto_region 7 with fail
  go_region_held3 (fun w' => w'.cell? ⟨X, 0, none⟩ = some (.slice xa n xc)) (first | with_reducible exact x0 | with_reducible assumption)
    (first | (go_at_call 99; refine (refRow_any G1 k k1 k64 _).mono ?_; rintro e w2 ⟨rfl, G2, a2⟩; have A2 := Lib.hid (A1.out.trans a2); have P2 := Lib.hid (HP.out.adv a2 id); have x0 := a2.cell_some x0 id; unfold primV; rw [← HT.out]; clear a2))
  clear hfld hw7 A1 HD1 HP HW
  have hXl := World.block_lt_of_cell? w2 _ x0
  have hrd := P2.out.reads.1
  have hrd0 := Lib.hid (hrd.alloc (.cells #[] 31))
  have hA0 := (Adv.refl (fun o => o = 9) w2 (fun _ => 0)).alloc (.cells #[] 31) 9
  have hR0 := Row.new w2 (fun _ => 0) 31 1 9 0 [] (Nat.zero_le _) rfl
  obtain ⟨Gn, hGn⟩ : ∃ Gn, Gn = own1 w2 (fun _ => 0) 9 := ⟨_, rfl⟩
  rw [← hGn] at hA0 hR0
  have HA0 := Lib.hid hA0
  have HR0 := Lib.hid hR0
  clear hrd hA0 hR0 hGn
  go_upto_region 8 with fail
  go_cut [12] (fun v12 wx => ∃ xb cx Gx, v12 = .slice xb tn cx ∧ Adv (fun _ => False) w2 G2 wx Gx ∧ Has wx Gx xb (cellsU (d.drop u)))
  case first =>
    rcases HCS.out with ⟨rfl, rfl, rfl⟩ | ⟨g, rfl, hc1, hc2⟩
    · obtain ⟨rfl, rfl⟩ : u = 0 ∧ tn = 0 := by have := HU.out; omega
      go_wp2_with (first | (at_builtin; refine wpList_append_reads rfl (.tmp 50) (.tmp 56) 22 rfl 31 i0 (.int .u16 0) 1 2 Tryz.underlying22 hi hz0 hz1 hz2 rfl (by decide) Gn 9 (some ⟨w2.heap.size, 0, none⟩) 0 0 [] rfl HR0.out none 0 0 (cellsU []) rfl rfl (.inl rfl) (cellsU_one _) (by unfold maxLen; omega) (by omega) ?_; intro va vc wq Gq h1 h2; rw [Nat.zero_add, List.nil_append] at h1; rw [Nat.zero_add]; skip))
      go_meet
      obtain ⟨f1, f2⟩ := fresh_row (HA0.out.trans h2) h1 G2 0
      exact ⟨va, vc, _, rfl, f1, by rw [show d.drop 0 = [] from by rw [List.drop_zero]; exact List.eq_nil_of_length_eq_zero HN.out.symm]; exact f2.has⟩
    · have hc3 : xc ≤ 9223372036854775807 := by unfold maxLen at hc2; omega
      have hxs := Lib.hid (show Reads (w2.alloc (.cells #[] 31)) (some ⟨g, u, none⟩) (cellsU (d.drop u)) from by
        have := reads_dropU hrd0.out u
        rwa [Nat.zero_add] at this)
      by_cases hx : xc = u
      · obtain rfl : tn = 0 := by have := HU.out; omega
        obtain rfl : n = u := by have := HU.out; omega
        subst hx
        go_wp2_with (first | (at_builtin; refine wpList_append_reads rfl (.tmp 50) (.tmp 56) 22 rfl 31 i0 (.int .u16 0) 1 2 Tryz.underlying22 hi hz0 hz1 hz2 rfl (by decide) Gn 9 (some ⟨w2.heap.size, 0, none⟩) 0 0 [] rfl HR0.out (some ⟨g, 0, none⟩) 0 0 (cellsU []) rfl rfl (.inl rfl) (cellsU_one _) (by unfold maxLen; omega) (by omega) ?_; intro va vc wq Gq h1 h2; rw [Nat.zero_add, List.nil_append] at h1; rw [Nat.zero_add]; skip))
        go_meet
        obtain ⟨f1, f2⟩ := fresh_row (HA0.out.trans h2) h1 G2 0
        exact ⟨va, vc, _, rfl, f1, by rw [show d.drop xc = [] from List.eq_nil_of_length_eq_zero HXL.out]; exact f2.has⟩
      · have hsub : n - u = tn := by have := HU.out; omega
        go_wp2_with (first | (at_builtin; refine wpList_append_reads rfl (.tmp 50) (.tmp 56) 22 rfl 31 i0 (.int .u16 0) 1 2 Tryz.underlying22 hi hz0 hz1 hz2 rfl (by decide) Gn 9 (some ⟨w2.heap.size, 0, none⟩) 0 0 [] rfl HR0.out (some ⟨g, u, none⟩) tn (xc - u) (cellsU (d.drop u)) rfl (by rw [cellsU_length, HXL.out, Nat.mul_one]) hxs.out (cellsU_one _) (by unfold maxLen; omega) (by omega) ?_; intro va vc wq Gq h1 h2; rw [Nat.zero_add, List.nil_append] at h1; rw [Nat.zero_add]; skip))
        go_meet
        obtain ⟨f1, f2⟩ := fresh_row (HA0.out.trans h2) h1 G2 0
        exact ⟨va, vc, _, by first | rfl | rw [hsub], f1, f2.has⟩
  case rest =>
    obtain ⟨xb, cx, G3, rfl, a3, hx⟩ := hcut
    obtain ⟨w3, rfl⟩ : ∃ x : World, x = wc := ⟨_, rfl⟩
    have x1 := a3.cell_some x0 id
    have A3 := Lib.hid (A2.out.trans a3)
    have hp3 := P2.out.adv a3 id
    have hfz := hp3.frozen
    have hXl3 : X < w3.heap.size := hp3.lt
    have P3 := Lib.hid hp3
    have HX := Lib.hid hx
    have hrd1 := Lib.hid (hp3.reads.1.alloc (.cells #[] 31))
    have hA1 := (Adv.refl (fun o => o = 9) w3 (fun _ => 0)).alloc (.cells #[] 31) 9
    have hR1 := Row.new w3 (fun _ => 0) 31 1 9 0 [] (Nat.zero_le _) rfl
    obtain ⟨Gm, hGm⟩ : ∃ Gm, Gm = own1 w3 (fun _ => 0) 9 := ⟨_, rfl⟩
    rw [← hGm] at hA1 hR1
    have HA1 := Lib.hid hA1
    have HR1 := Lib.hid hR1
    clear a3 hx hA1 hR1 hGm hp3 x0 hXl HA0 HR0 hrd0 A2 P2
    go_upto_region 9 with fail
    go_cut [66] (fun v66 wx => ∃ Gx, Adv (fun o => o = 9) w3 G3 wx Gx ∧ EU wx Gx 9 X (d.take u))
    case first =>
      rcases HCS.out with ⟨rfl, rfl, rfl⟩ | ⟨g, rfl, hc1, hc2⟩
      · obtain ⟨rfl, rfl⟩ : u = 0 ∧ tn = 0 := by have := HU.out; omega
        have hd0 := Lib.hid (show d.take 0 = [] from List.take_zero)
        go_wp2_with (first | (at_builtin; refine wpList_append_reads rfl (.tmp 59) (.tmp 65) 22 rfl 31 i0 (.int .u16 0) 1 2 Tryz.underlying22 hi hz0 hz1 hz2 rfl (by decide) Gm 9 (some ⟨w3.heap.size, 0, none⟩) 0 0 [] rfl HR1.out none 0 0 (cellsU []) rfl rfl (.inl rfl) (cellsU_one _) (by unfold maxLen; omega) (by omega) ?_; intro va2 vc2 w4 G4 h1 h2; rw [Nat.zero_add, List.nil_append] at h1; rw [Nat.zero_add]; obtain ⟨f1, f2⟩ := fresh_row (HA1.out.trans h2) h1 G3 9; have hc4 := f1.cell_some x1 id; have hf4 : w4.frozen? ⟨X, 0, none⟩ = false := (World.frozen?_of_block (f1.keep X hXl3 id)).trans hfz; have F1 := Lib.hid f1; have F2 := Lib.hid f2; have HNE := Lib.hid (show (Value.slice va2 0 vc2).ownBlock ≠ some X from fun e => absurd ((h1.own X e).symm.trans ((HA1.out.trans h2).own X hXl3)) (by decide)); clear h1 h2 f1 f2))
        go_meet
        have hput := P3.out.put F1.out F2.out HNE.out
        exact ⟨_, hput.1, _, by rw [hd0.out]; exact hput.2⟩
      · have hc3 : xc ≤ 9223372036854775807 := by unfold maxLen at hc2; omega
        have huc : (u : Int) ≤ xc := by omega
        go_wp2_with (first | (at_builtin; refine wpList_append_reads rfl (.tmp 59) (.tmp 65) 22 rfl 31 i0 (.int .u16 0) 1 2 Tryz.underlying22 hi hz0 hz1 hz2 rfl (by decide) Gm 9 (some ⟨w3.heap.size, 0, none⟩) 0 0 [] rfl HR1.out (some ⟨g, 0, none⟩) u xc (cellsU (d.take u)) rfl (by rw [cellsU_length, HBL.out.1, Nat.mul_one]) (reads_takeU hrd1.out u) (cellsU_one _) (by unfold maxLen; omega) (by omega) ?_; intro va2 vc2 w4 G4 h1 h2; rw [Nat.zero_add, List.nil_append] at h1; rw [Nat.zero_add]; obtain ⟨f1, f2⟩ := fresh_row (HA1.out.trans h2) h1 G3 9; have hc4 := f1.cell_some x1 id; have hf4 : w4.frozen? ⟨X, 0, none⟩ = false := (World.frozen?_of_block (f1.keep X hXl3 id)).trans hfz; have F1 := Lib.hid f1; have F2 := Lib.hid f2; have HNE := Lib.hid (show (Value.slice va2 u vc2).ownBlock ≠ some X from fun e => absurd ((h1.own X e).symm.trans ((HA1.out.trans h2).own X hXl3)) (by decide)); clear h1 h2 f1 f2))
        go_meet
        have hput := P3.out.put F1.out F2.out HNE.out
        exact ⟨_, hput.1, _, by rw [HBL.out.1]; exact hput.2⟩
    case rest =>
      obtain ⟨G5, a5, e5⟩ := hcut
      obtain ⟨w5, rfl⟩ : ∃ x : World, x = wc := ⟨_, rfl⟩
      have A5 := Lib.hid ((A3.out.mono (T := S9) fun _ h => h.elim).trans (a5.mono (T := S9) fun o h => by subst h; exact ⟨by omega, by omega⟩))
      have E5 := Lib.hid e5
      have R5 := Lib.hid ((HR.out.adv A3.out id).adv a5 (by omega))
      have Z5 := Lib.hid ((HZ.out.adv A3.out fun _ _ => id).adv a5 (fun j hj => by omega))
      have X5 := Lib.hid (HX.out.adv a5 (by omega))
      clear a5 e5 A3 P3 HX hrd1 HA1 HR1 hXl3 hfz x1
      rcases HKI.out with ⟨h12, h20⟩ | hun | hbin | hmem | h9 | hret
      · have hac := actF_shuf k h12 h20 (d.take u) (d.drop u) r m
        have hcall := refShuf_any k h12 h20 G5 xb tn cx (d.drop u) w5 HT.out HXL.out X5.out.1
        obtain ⟨out, ho⟩ : ∃ o, o = picks (d.drop u) (shufP k) := ⟨_, rfl⟩
        rw [← ho] at hac hcall
        have HAC := Lib.hid (HACT.out.trans hac.1)
        have HOL := Lib.hid hac.2
        have HCALL := Lib.hid hcall
        clear hac hcall ho
        have c71 : decide ((12 : Int) ≤ k) = true := by simp; omega
        have c74 : decide ((k : Int) ≤ 20) = true := by simp; omega
        go_wp2_with fail
        refine HCALL.out.mono ?_
        rintro e w6 ⟨ob, oc, G6, rfl, -, a6, o6, -⟩
        have A6 := Lib.hid (A5.out.trans (a6.mono (T := S9) fun _ h => h.elim))
        have E6 := Lib.hid (E5.out.adv a6 id)
        have R6 := Lib.hid (R5.out.adv a6 id)
        have Z6 := Lib.hid (Z5.out.adv a6 fun _ _ => id)
        have O6 := Lib.hid o6.1
        clear a6 o6
        go_wp2_with fail
        refine (refPush G6 9 X (d.take u) out ob out.length oc w6 E6.out rfl (by have := HBL.out; have := HOL.out; (try simp at *); omega) O6.out).mono ?_
        rintro e w7 ⟨rfl, G7, a7, h7⟩
        have A7 := Lib.hid (A6.out.trans (a7.mono (T := S9) fun o h => by subst h; exact ⟨by omega, by omega⟩))
        have H7 := Lib.hid h7
        have R7 := Lib.hid (R6.out.adv a7 (by omega))
        have Z7 := Lib.hid (Z6.out.adv a7 (fun j hj => by omega))
        clear a7 h7
        go_wp2
        go_ret
        rw [HAC.out]
        exact ⟨rfl, G7, A7.out, H7.out, R7.out, Z7.out⟩
      · have htn : takesN k = 1 := (actF_un k hun [] [] r m).2.1
        obtain rfl : tn = 1 := by have := HT.out; omega
        obtain ⟨x, hx⟩ := list1 HXL.out
        have hac := actF_un k hun (d.take u) (d.drop u) r m
        rw [hx] at hac
        have hx16 := HG.out.d16.drop u
        have h5 := X5.out.1
        rw [hx] at hx16 h5
        have hxr := hx16 x (by simp)
        obtain ⟨g, o, rfl, hgl, c0⟩ := reads1 h5
        have HCALL := Lib.hid (refUn_any k hun x hxr.1 hxr.2)
        obtain ⟨y, hy⟩ : ∃ y, y = unF k x := ⟨_, rfl⟩
        rw [show ([x] : List Int).getD 0 0 = x from rfl, ← hy] at hac
        rw [← hy] at HCALL
        have HAC := Lib.hid (show doF k d r m = (d.take u ++ [y], r, m) from by rw [HACT.out, hx]; exact hac.1)
        have HOL := Lib.hid (show (([y] : List Int).length : Int) = leavesN k from by rw [hac.2.2]; rfl)
        have ho' : 21 ≤ k ∧ k < 50 := by unfold unK at hun; omega
        clear hac hx hx16 h5 hxr hy hun htn hgl
        have c71 : decide ((12 : Int) ≤ k) = true := by simp; omega
        have c74 : decide ((k : Int) ≤ 20) = false := by simp; omega
        have c81 : ((k : Int) == 6) = false := by simp; omega
        have c84 : decide ((55 : Int) ≤ k) = false := by simp; omega
        have c96 : decide ((50 : Int) ≤ k) = false := by simp; omega
        have c103 : decide ((20 : Int) < k) = true := by simp; omega
        go_wp2_with fail
        refine (HCALL.out w5).mono ?_
        rintro e w6 ⟨rfl, rfl⟩
        have a6 := (Adv.refl (fun _ => False) w5 G5).alloc (.cells #[.int .u16 y] 31) 0
        have A6 := Lib.hid (A5.out.trans (a6.mono (T := S9) fun _ h => h.elim))
        have E6 := Lib.hid (E5.out.adv a6 id)
        have R6 := Lib.hid (R5.out.adv a6 id)
        have Z6 := Lib.hid (Z5.out.adv a6 fun _ _ => id)
        have O6 := Lib.hid (Reads.new w5 (cellsU [y]) 31)
        clear a6 c0
        go_wp2_with fail
        refine (refPush _ 9 X (d.take u) [y] (some ⟨w5.heap.size, 0, none⟩) 1 1 _ E6.out rfl (by have := HBL.out; have := HOL.out; (try simp at *); omega) O6.out).mono ?_
        rintro e w7 ⟨rfl, G7, a7, h7⟩
        have A7 := Lib.hid (A6.out.trans (a7.mono (T := S9) fun o h => by subst h; exact ⟨by omega, by omega⟩))
        have H7 := Lib.hid h7
        have R7 := Lib.hid (R6.out.adv a7 (by omega))
        have Z7 := Lib.hid (Z6.out.adv a7 (fun j hj => by omega))
        clear a7 h7
        go_wp2
        go_ret
        rw [HAC.out]
        exact ⟨rfl, G7, A7.out, H7.out, R7.out, Z7.out⟩
      · have htn : takesN k = 2 := (actF_bin k hbin [] [] r m).2.1
        obtain rfl : tn = 2 := by have := HT.out; omega
        obtain ⟨x, x2, hx⟩ := list2 HXL.out
        have hac := actF_bin k hbin (d.take u) (d.drop u) r m
        rw [hx] at hac
        have hx16 := HG.out.d16.drop u
        have h5 := X5.out.1
        rw [hx] at hx16 h5
        have hxr := hx16 x (by simp)
        have hxr2 := hx16 x2 (by simp)
        obtain ⟨g, o, rfl, hgl, c0, c1⟩ := reads2 h5
        have HCALL := Lib.hid (refBin_any k hbin x x2 hxr.1 hxr.2 hxr2.1 hxr2.2)
        obtain ⟨y, hy⟩ : ∃ y, y = binF k x x2 := ⟨_, rfl⟩
        rw [show ([x, x2] : List Int).getD 0 0 = x from rfl, show ([x, x2] : List Int).getD 1 0 = x2 from rfl, ← hy] at hac
        rw [← hy] at HCALL
        have HAC := Lib.hid (show doF k d r m = (d.take u ++ [y], r, m) from by rw [HACT.out, hx]; exact hac.1)
        have HOL := Lib.hid (show (([y] : List Int).length : Int) = leavesN k from by rw [hac.2.2]; rfl)
        have ho' : 21 ≤ k ∧ k < 50 := by unfold binK at hbin; omega
        have QC : w5.drew.cell? ⟨g, o, none⟩ = some (.int .u16 x) ∧ w5.drew.cell? ⟨g, o + 1, none⟩ = some (.int .u16 x2) := ⟨c0, c1⟩
        clear hac hx hx16 h5 hxr hxr2 hy hbin htn hgl c0 c1
        have c71 : decide ((12 : Int) ≤ k) = true := by simp; omega
        have c74 : decide ((k : Int) ≤ 20) = false := by simp; omega
        have c81 : ((k : Int) == 6) = false := by simp; omega
        have c84 : decide ((55 : Int) ≤ k) = false := by simp; omega
        have c96 : decide ((50 : Int) ≤ k) = false := by simp; omega
        have c103 : decide ((20 : Int) < k) = true := by simp; omega
        go_upto_region 21 with fail
        go_region_held3 (fun w' => w'.cell? ⟨g, o, none⟩ = some (.int .u16 x) ∧ w'.cell? ⟨g, o + 1, none⟩ = some (.int .u16 x2)) (first | with_reducible exact QC | with_reducible assumption)
          (first | (go_at_call 104; refine (HCALL.out _).mono ?_; rintro e wz ⟨rfl, rfl⟩))
        have a6 := ((Adv.refl (fun _ => False) w5 G5).drew).alloc (.cells #[.int .u16 y] 31) 0
        have A6 := Lib.hid (A5.out.trans (a6.mono (T := S9) fun _ h => h.elim))
        have E6 := Lib.hid (E5.out.adv a6 id)
        have R6 := Lib.hid (R5.out.adv a6 id)
        have Z6 := Lib.hid (Z5.out.adv a6 fun _ _ => id)
        have O6 := Lib.hid (Reads.new w5.drew (cellsU [y]) 31)
        clear a6 QC
        go_wp2_with fail
        refine (refPush _ 9 X (d.take u) [y] (some ⟨w5.heap.size, 0, none⟩) 1 1 _ E6.out rfl (by have := HBL.out; have := HOL.out; (try simp at *); omega) O6.out).mono ?_
        rintro e w7 ⟨rfl, G7, a7, h7⟩
        have A7 := Lib.hid (A6.out.trans (a7.mono (T := S9) fun o h => by subst h; exact ⟨by omega, by omega⟩))
        have H7 := Lib.hid h7
        have R7 := Lib.hid (R6.out.adv a7 (by omega))
        have Z7 := Lib.hid (Z6.out.adv a7 (fun j hj => by omega))
        clear a7 h7
        go_wp2
        go_ret
        rw [HAC.out]
        exact ⟨rfl, G7, A7.out, H7.out, R7.out, Z7.out⟩
      · have hac := actF_mem k hmem (d.take u) (d.drop u) r m
        have hcall := refMem_any k hmem G5 11 Z (by decide) m t HM.out ht xb tn cx (d.drop u) w5 Z5.out HT.out HXL.out (HG.out.d16.drop u) X5.out.1 (fun ad e => (X5.out.2 ad e).1)
        obtain ⟨out, ho⟩ : ∃ o, o = memOut k (d.drop u) m := ⟨_, rfl⟩
        obtain ⟨m', hm'⟩ : ∃ o, o = memNew k (d.drop u) m := ⟨_, rfl⟩
        rw [← ho, ← hm'] at hac hcall
        have HAC := Lib.hid (HACT.out.trans hac.1)
        have HOL := Lib.hid hac.2
        have HCALL := Lib.hid hcall
        clear hac hcall ho hm'
        rcases hmem with hmem | hmem
        all_goals (try have c84 : decide ((55 : Int) ≤ k) = false := (by simp; omega))
        all_goals (try have c87 : decide ((k : Int) ≤ 59) = false := (by simp; omega))
        all_goals (try have c84 : decide ((55 : Int) ≤ k) = true := (by simp; omega))
        all_goals
          have c71 : decide ((12 : Int) ≤ k) = true := by simp; omega
          have c74 : decide ((k : Int) ≤ 20) = false := by simp; omega
          have c81 : ((k : Int) == 6) = false := by simp; omega
          have c96 : decide ((50 : Int) ≤ k) = true := by simp; omega
          go_wp2_with fail
          refine HCALL.out.mono ?_
          rintro e w6 ⟨ob, oc, G6, rfl, -, a6, o6, z6⟩
          have A6 := Lib.hid (A5.out.trans (a6.mono (T := S9) fun o h => by unfold SD at h; exact ⟨by omega, by omega⟩))
          have E6 := Lib.hid (E5.out.adv a6 (by unfold SD; omega))
          have R6 := Lib.hid (R5.out.adv a6 (by unfold SD; omega))
          have Z6 := Lib.hid z6
          have O6 := Lib.hid o6.1
          clear a6 o6 z6
          go_wp2_with fail
          refine (refPush G6 9 X (d.take u) out ob out.length oc w6 E6.out rfl (by have := HBL.out; have := HOL.out; (try simp at *); omega) O6.out).mono ?_
          rintro e w7 ⟨rfl, G7, a7, h7⟩
          have A7 := Lib.hid (A6.out.trans (a7.mono (T := S9) fun o h => by subst h; exact ⟨by omega, by omega⟩))
          have H7 := Lib.hid h7
          have R7 := Lib.hid (R6.out.adv a7 (by omega))
          have Z7 := Lib.hid (Z6.out.adv a7 (fun j hj => by omega))
          clear a7 h7
          go_wp2
          go_ret
          rw [HAC.out]
          exact ⟨rfl, G7, A7.out, H7.out, R7.out, Z7.out⟩
      · have hac : actF k (d.take u) (d.drop u) r m = (d.take u ++ [], r, m) := by
          subst h9
          show (d.take u, r, m) = _
          rw [List.append_nil]
        have HAC := Lib.hid (HACT.out.trans hac)
        have h9' : 9 ≤ k ∧ k ≤ 9 := by omega
        clear hac h9
        have c71 : decide ((12 : Int) ≤ k) = false := by simp; omega
        have c81 : ((k : Int) == 6) = false := by simp; omega
        have c84 : decide ((55 : Int) ≤ k) = false := by simp; omega
        have c96 : decide ((50 : Int) ≤ k) = false := by simp; omega
        have c103 : decide ((20 : Int) < k) = false := by simp; omega
        go_wp2_with fail
        refine (refPush G5 9 X (d.take u) [] none 0 0 w5 E5.out rfl (by have := HBL.out; have := leaves_le k k64; simp at *; omega) (.inl rfl)).mono ?_
        rintro e w7 ⟨rfl, G7, a7, h7⟩
        have A7 := Lib.hid (A5.out.trans (a7.mono (T := S9) fun o h => by subst h; exact ⟨by omega, by omega⟩))
        have H7 := Lib.hid h7
        have R7 := Lib.hid (R5.out.adv a7 (by omega))
        have Z7 := Lib.hid (Z5.out.adv a7 (fun j hj => by omega))
        clear a7 h7
        go_wp2
        go_ret
        rw [HAC.out]
        exact ⟨rfl, G7, A7.out, H7.out, R7.out, Z7.out⟩
      · have hret' : k = 6 ∨ (55 ≤ k ∧ k ≤ 59) := by omega
        have hac := actF_ret k hret' (d.take u) (d.drop u) r m
        have hcall := refRet_any k hret' G5 8 Y (by decide) r xb tn cx (d.drop u) w5 R5.out HG.out.rl HT.out HXL.out X5.out.1 (fun ad e => (X5.out.2 ad e).1) HLK.out.1 HLK.out.2
        obtain ⟨out, ho⟩ : ∃ o, o = retOut k r := ⟨_, rfl⟩
        obtain ⟨r', hr'⟩ : ∃ o, o = retNew k (d.drop u) r := ⟨_, rfl⟩
        rw [← ho, ← hr'] at hac hcall
        have HAC := Lib.hid (HACT.out.trans hac.1)
        have HOL := Lib.hid hac.2
        have HCALL := Lib.hid hcall
        have hret2 : (6 ≤ k ∧ k ≤ 6) ∨ (55 ≤ k ∧ k ≤ 59) := by omega
        clear hac hcall ho hr' hret hret'
        rcases hret2 with hret | hret
        all_goals (try have c71 : decide ((12 : Int) ≤ k) = false := (by simp; omega))
        all_goals (try have c71 : decide ((12 : Int) ≤ k) = true := (by simp; omega))
        all_goals (try have c74 : decide ((k : Int) ≤ 20) = false := (by simp; omega))
        all_goals (try have c81 : ((k : Int) == 6) = true := (by simp; omega))
        all_goals (try have c81 : ((k : Int) == 6) = false := (by simp; omega))
        all_goals (try have c84 : decide ((55 : Int) ≤ k) = true := (by simp; omega))
        all_goals (try have c87 : decide ((k : Int) ≤ 59) = true := (by simp; omega))
        all_goals
          go_wp2_with fail
          refine HCALL.out.mono ?_
          rintro e w6 ⟨ob, oc, G6, rfl, -, a6, o6, z6⟩
          have A6 := Lib.hid (A5.out.trans (a6.mono (T := S9) fun o h => by subst h; exact ⟨by omega, by omega⟩))
          have E6 := Lib.hid (E5.out.adv a6 (by omega))
          have R6 := Lib.hid z6
          have Z6 := Lib.hid (Z5.out.adv a6 (fun j hj => by omega))
          have O6 := Lib.hid o6.1
          clear a6 o6 z6
          go_wp2_with fail
          refine (refPush G6 9 X (d.take u) out ob out.length oc w6 E6.out rfl (by have := HBL.out; have := HOL.out; (try simp at *); omega) O6.out).mono ?_
          rintro e w7 ⟨rfl, G7, a7, h7⟩
          have A7 := Lib.hid (A6.out.trans (a7.mono (T := S9) fun o h => by subst h; exact ⟨by omega, by omega⟩))
          have H7 := Lib.hid h7
          have R7 := Lib.hid (R6.out.adv a7 (by omega))
          have Z7 := Lib.hid (Z6.out.adv a7 (fun j hj => by omega))
          clear a7 h7
          go_wp2
          go_ret
          rw [HAC.out]
          exact ⟨rfl, G7, A7.out, H7.out, R7.out, Z7.out⟩
end Go.Proofs.YtdnalhjdmlkbmaaGreatDoor
namespace Go.Proofs.YtdnalhjdmlkbmaaGreatDoor
open Go.RowKit
set_option linter.unusedVariables false
set_option maxRecDepth 100000 in
theorem refDo_fault (k : Nat) (k1 : 1 ≤ k) (k64 : k < 64) (hpl : plainB k = true) (G : Nat → Nat) (X Y Z : Nat) (d : List Int) (r : List (Int × Int)) (w : World) (hd : EU w G 9 X d) (hr : ER w G 8 Y r) (hd9 : d.length ≤ 256) (hr9 : r.length ≤ 128) (hf : faultF k d r ≠ 0) :
    Calls Tryz.prog 52 #[.int .i64 k, .pointer (some ⟨X, 0, none⟩), .pointer (some ⟨Y, 0, none⟩), .pointer (some ⟨Z, 0, none⟩)] w fun e w' => e = .returned (.int .i64 (faultF k d r)) ∧ ∃ G', Adv (fun _ => False) w G w' G' := by
  have MAY := Lib.hid (refMay_any k k1 k64 G 9 8 X Y d r w hd hr hd9 hr9)
  have HPL := Lib.hid hpl
  obtain ⟨f, hff⟩ : ∃ f, f = faultF k d r := ⟨_, rfl⟩
  rw [← hff] at MAY hf ⊢
  have hb : (f == 0) = false := by simpa using hf
  have hb2 : (f != 0) = true := by simpa using hf
  clear hd hr hff hpl
  go_enter Tryz.func52, Tryz.ntmps52
  go_wp2_with fail
  refine (refPlain_any k _).mono ?_
  rintro e w0 ⟨rfl, rfl⟩
  rw [HPL.out]
  go_wp2_with fail
  refine MAY.out.mono ?_
  rintro e w1 ⟨rfl, G1, a1⟩
  have A1 := Lib.hid a1
  clear a1
  go_wp2
  go_ret
  exact ⟨rfl, G1, A1.out⟩
theorem refDo_k (k : Nat) (k1 : 1 ≤ k) (k64 : k < 64) (hpl : plainB k = true) (G : Nat → Nat) (X Y Z : Nat) (d : List Int) (r : List (Int × Int)) (m : MemS) (t : Nat) (w : World) (hd : EU w G 9 X d) (hr : ER w G 8 Y r) (hz : RM w G 11 Z m) (hg : Good3 d r m) (hmg : MGood m t) (ht : t ≤ 99999) :
    Calls Tryz.prog 52 #[.int .i64 k, .pointer (some ⟨X, 0, none⟩), .pointer (some ⟨Y, 0, none⟩), .pointer (some ⟨Z, 0, none⟩)] w (DoIs9 X Y Z w G (doF k d r m).1 (doF k d r m).2.1 (doF k d r m).2.2 (faultF k d r)) := by
  by_cases hf : faultF k d r = 0
  · rw [hf]
    exact refDo_zero k k1 k64 hpl G X Y Z d r m t w hd hr hz hg hmg ht hf
  · rw [doF_fault hf]
    refine (refDo_fault k k1 k64 hpl G X Y Z d r w hd hr hg.dl hg.rl hf).mono ?_
    rintro e w' ⟨rfl, G', ha⟩
    exact ⟨rfl, G', ha.mono (fun _ h => h.elim), hd.adv ha id, hr.adv ha id, hz.adv ha fun _ _ => id⟩
set_option maxRecDepth 100000 in
theorem refDo_not (op : Int) (hpl : plainB op = false) (X Y Z : Nat) (w : World) :
    Calls Tryz.prog 52 #[.int .i64 op, .pointer (some ⟨X, 0, none⟩), .pointer (some ⟨Y, 0, none⟩), .pointer (some ⟨Z, 0, none⟩)] w fun e w' => e = .returned (.int .i64 6) ∧ w = w' := by
  have HPL := Lib.hid hpl
  clear hpl
  go_enter Tryz.func52, Tryz.ntmps52
  go_wp2_with fail
  refine (refPlain_any op _).mono ?_
  rintro e w0 ⟨rfl, rfl⟩
  rw [HPL.out]
  go_wp2
  go_ret
  exact ⟨rfl, rfl⟩
end Go.Proofs.YtdnalhjdmlkbmaaGreatDoor
namespace Go.Proofs.YtdnalhjdmlkbmaaGreatDoor
open Go.RowKit
set_option linter.unusedVariables false
theorem cell_adv (G : Nat → Nat) (i D : Nat) (M : MemS) (hm : MemOk M) (a : Int) (h0 : 0 ≤ a) (h9 : a < 65536) (w : World) (hp : PM w G i D M) :
    Calls Tryz.prog 105 #[.pointer (some ⟨D, 0, none⟩), .int .u16 a] w fun e w' => e = .returned (.int .u16 (cellF M a)) ∧ ∃ G', Adv (fun _ => False) w G w' G' := by
  refine (cell_any G i D M hm a h0 h9 w hp).mono ?_
  rintro e w' ⟨rfl, q, rfl⟩
  exact ⟨rfl, G, (Adv.refl _ w G).drewN q⟩
def portsL : List Int := [65280, 65282, 65284, 65286, 65288]
theorem ports_rng : ∀ (j : Nat) (p : Int), portsL[j]? = some p → 0 ≤ p ∧ p < 65536 := by
  intro j p h
  have hm := List.mem_of_getElem? h
  simp [portsL] at hm
  omega
theorem RM.tonesAt {w : World} {G : Nat → Nat} {d D : Nat} {m : MemS} (h : RM w G d D m) : ∃ ta tc, w.cell? ⟨D, 9, none⟩ = some (.slice ta m.tones.length tc) ∧ Reads w ta (tonesC m.tones) := by
  obtain ⟨ra, sa, bs, bv, tv, h⟩ := h
  obtain ⟨ta, tc, rfl, -⟩ := h.tones.slice
  exact ⟨ta, tc, block_cell h.head 9 _ rfl, h.tones.reads⟩
set_option maxRecDepth 100000 in
set_option maxHeartbeats 8000000 in
theorem near_any (G : Nat → Nat) (K D R M X Y Z : Nat) (l : List Int) (r : List (Int × Int)) (m : MemS) (t : Nat) (xa : Option Addr) (n cx : Nat) (xs : List Int) (w : World) (hs : S6 w G K D R M X Y Z l r m) (hm : MGood m t) (ht : t ≤ 1000000) (hn : xs.length = n) (hn3 : n ≤ 3) (hx : Reads w xa (cellsU xs)) (h16 : D16 xs) :
    Calls Tryz.prog 53 #[.pointer (some ⟨K, 0, none⟩), .slice xa n cx] w fun e w' => e = .returned (.bool true) ∧ ∃ G', Adv (fun _ => False) w G w' G' := by
  have HS := Lib.hid hs
  have HM := Lib.hid hm
  have HN := Lib.hid hn
  have HX := Lib.hid hx
  have H16 := Lib.hid h16
  have HTN := Lib.hid (show m.tones.length ≤ 1000000 from Nat.le_trans hm.tn ht)
  clear hs hm hn hx h16 ht
  go_enter Tryz.func53, Tryz.ntmps53
  go_wp2_with fail
  go_loopw [5] (fun v wr => ∃ j : Nat, j ≤ n ∧ v = .int .i64 j ∧ ∃ Gr, Adv (fun _ => False) w G wr Gr) (fun v _ => n - (intOf v).toNat)
  case atStart => exact ⟨0, Nat.zero_le _, rfl, G, Adv.refl _ _ _⟩
  case round =>
    obtain ⟨j, hj0, rfl, Gr, ar⟩ := hrel
    by_cases hlt : j < n
    · obtain ⟨a, ha⟩ : ∃ a, xs[j]? = some a := ⟨xs[j]'(by rw [HN.out]; exact hlt), by simp⟩
      have hr16 := H16.out a (List.mem_of_getElem? ha)
      have hget : (cellsU xs)[j]? = some (.int .u16 a) := by unfold cellsU; rw [List.getElem?_map, ha]; rfl
      obtain ⟨g, o, rfl, hc, hgl⟩ := (HX.out.adv ar (fun _ _ => id)).some (by intro e; rw [e] at hget; cases hget)
      have qx := hc j _ hget
      have HA := Lib.hid ar
      have HC := Lib.hid (HS.out.still ar)
      have h4 : (j : Int) < 4 := by omega
      have hb0 : 0 ≤ a := hr16.1
      have hb1 : a < 65536 := hr16.2
      have hdr := (Adv.refl (fun _ => False) wr Gr).drew
      have AC := Lib.hid (ar.trans hdr)
      have SC := Lib.hid ((HS.out.still ar).still hdr)
      have QC := And.intro SC.out.cells.2.2 (And.intro SC.out.refs.2.2 (hdr.cell_some qx id))
      obtain ⟨b, hb⟩ : ∃ b, b = IntKind.wrap .u16 (a + 1) := ⟨_, rfl⟩
      have hbr : 0 ≤ b ∧ b < 65536 := by rw [hb]; exact nextA_lo a
      have hbw : IntKind.u16.wrap (a + 1) = b := hb.symm
      have HNX := Lib.hid hbr
      clear ha hget hc hgl hr16 ar hdr qx hb hbr
      go_upto_region 4 with fail
      go_cut [60] from 9 to 60 (fun v wx => v = .bool false ∧ ∃ Gx, Adv (fun _ => False) w G wx Gx)
      case first =>
        go_region_held3 (fun w' => w'.cell? ⟨K, 2, none⟩ = some (.pointer (some ⟨M, 0, none⟩)) ∧ w'.cell? ⟨K, 5, none⟩ = some (.pointer (some ⟨Z, 0, none⟩)) ∧ w'.cell? ⟨g, o + j, none⟩ = some (.int .u16 a)) (first | with_reducible exact QC | with_reducible assumption)
          (first
            | (go_at_call 105; (with_reducible refine Calls.mono (cell_adv _ 3 M m HM.out.ok a hb0 hb1 _ SC.out.pm) ?_); rintro e wz ⟨rfl, Gz, az⟩; have AC := Lib.hid (AC.out.trans az); have SC := Lib.hid (SC.out.still az); have QC := And.intro SC.out.cells.2.2 (And.intro SC.out.refs.2.2 (az.cell_some QC.2.2 id)); clear az)
            | (go_at_call 105; (with_reducible refine Calls.mono (cell_adv _ 3 M m HM.out.ok b HNX.out.1 HNX.out.2 _ SC.out.pm) ?_); rintro e wz ⟨rfl, Gz, az⟩; have AC := Lib.hid (AC.out.trans az); have SC := Lib.hid (SC.out.still az); have QC := And.intro SC.out.cells.2.2 (And.intro SC.out.refs.2.2 (az.cell_some QC.2.2 id)); clear az)
            | (go_at_call 106; (with_reducible refine Calls.mono (refCell_mem _ 11 Z m HM.out.ok HM.out.rng HM.out.bl a hb0 hb1 _ SC.out.rm) ?_); rintro e wz ⟨rfl, Gz, az⟩; have AC := Lib.hid (AC.out.trans az); have SC := Lib.hid (SC.out.still az); have QC := And.intro SC.out.cells.2.2 (And.intro SC.out.refs.2.2 (az.cell_some QC.2.2 id)); clear az)
            | (go_at_call 106; (with_reducible refine Calls.mono (refCell_mem _ 11 Z m HM.out.ok HM.out.rng HM.out.bl b HNX.out.1 HNX.out.2 _ SC.out.rm) ?_); rintro e wz ⟨rfl, Gz, az⟩; have AC := Lib.hid (AC.out.trans az); have SC := Lib.hid (SC.out.still az); have QC := And.intro SC.out.cells.2.2 (And.intro SC.out.refs.2.2 (az.cell_some QC.2.2 id)); clear az))
        all_goals
          go_wp2_with fail
          go_meet
          exact ⟨rfl, _, AC.out⟩
      case rest =>
        obtain ⟨rfl, Gx, hcx⟩ := hcut
        have HB := Lib.hid hcx
        clear hcx QC
        go_wp2
        go_roundw
        case rel => exact ⟨j + 1, by omega, by go_num, Gx, HB.out⟩
        case measure => simp [intOf]; omega
    · obtain ⟨wo, rfl⟩ : ∃ x : World, x = wr := ⟨_, rfl⟩
      have HA := Lib.hid ar
      have hd0 := ((Adv.refl (fun _ => False) wo Gr).alloc (.cells #[.int .u16 65280, .int .u16 65282, .int .u16 65284, .int .u16 65286, .int .u16 65288] 31) 0)
      have HA2 := Lib.hid (ar.trans hd0)
      have HP := Lib.hid (Reads.new wo (cellsU portsL) 31)
      clear ar hd0
      go_wp2_with fail
      go_loopw [7] (fun v ws => ∃ i : Nat, i ≤ 5 ∧ v = .int .i64 i ∧ ∃ Gs, Adv (fun _ => False) w G ws Gs ∧ Reads ws (some ⟨wo.heap.size, 0, none⟩) (cellsU portsL)) (fun v _ => 5 - (intOf v).toNat)
      case atStart => exact ⟨0, Nat.zero_le _, rfl, _, HA2.out, HP.out⟩
      case round =>
        obtain ⟨i, hi0, rfl, Gs, asx, rs⟩ := hrel
        by_cases hit : i < 5
        · obtain ⟨p, hp⟩ : ∃ p, portsL[i]? = some p := ⟨portsL[i]'(show i < 5 from hit), List.getElem?_eq_getElem _⟩
          have hpr := ports_rng i p hp
          have hget : (cellsU portsL)[i]? = some (.int .u16 p) := by unfold cellsU; rw [List.getElem?_map, hp]; rfl
          obtain ⟨g, o, e, hc, hgl⟩ := rs.some (by intro e; cases e)
          cases e
          have qx := hc i _ hget
          rw [Nat.zero_add] at qx
          have hb0 : 0 ≤ p := hpr.1
          have hb1 : p < 65536 := hpr.2
          have hdr := (Adv.refl (fun _ => False) wr Gs).drew
          have AC := Lib.hid (asx.trans hdr)
          have RC := Lib.hid (rs.adv hdr (fun _ _ => id))
          have SC := Lib.hid ((HS.out.still asx).still hdr)
          have QC := And.intro SC.out.cells.2.2 (And.intro SC.out.refs.2.2 (hdr.cell_some qx id))
          clear hp hget hc hgl hpr asx rs hdr qx
          go_upto_region 10 with fail
          go_cut [86] from 62 to 86 (fun v wx => v = .bool false ∧ ∃ Gx, Adv (fun _ => False) w G wx Gx ∧ Reads wx (some ⟨wo.heap.size, 0, none⟩) (cellsU portsL))
          case first =>
            go_region_held3 (fun w' => w'.cell? ⟨K, 2, none⟩ = some (.pointer (some ⟨M, 0, none⟩)) ∧ w'.cell? ⟨K, 5, none⟩ = some (.pointer (some ⟨Z, 0, none⟩)) ∧ w'.cell? ⟨wo.heap.size, i, none⟩ = some (.int .u16 p)) (first | with_reducible exact QC | with_reducible assumption)
              (first
                | (go_at_call 105; (with_reducible refine Calls.mono (cell_adv _ 3 M m HM.out.ok p hb0 hb1 _ SC.out.pm) ?_); rintro e wz ⟨rfl, Gz, az⟩; have AC := Lib.hid (AC.out.trans az); have RC := Lib.hid (RC.out.adv az (fun _ _ => id)); have SC := Lib.hid (SC.out.still az); have QC := And.intro SC.out.cells.2.2 (And.intro SC.out.refs.2.2 (az.cell_some QC.2.2 id)); clear az)
                | (go_at_call 106; (with_reducible refine Calls.mono (refCell_mem _ 11 Z m HM.out.ok HM.out.rng HM.out.bl p hb0 hb1 _ SC.out.rm) ?_); rintro e wz ⟨rfl, Gz, az⟩; have AC := Lib.hid (AC.out.trans az); have RC := Lib.hid (RC.out.adv az (fun _ _ => id)); have SC := Lib.hid (SC.out.still az); have QC := And.intro SC.out.cells.2.2 (And.intro SC.out.refs.2.2 (az.cell_some QC.2.2 id)); clear az))
            all_goals
              go_wp2_with fail
              go_meet
              exact ⟨rfl, _, AC.out, RC.out⟩
          case rest =>
            obtain ⟨rfl, Gx, hcx, hrx⟩ := hcut
            have HB := Lib.hid hcx
            have RB := Lib.hid hrx
            clear hcx QC hrx
            go_wp2
            go_roundw
            case rel => exact ⟨i + 1, by omega, by go_num, Gx, HB.out, RB.out⟩
            case measure => simp [intOf]; omega
        · have AS := Lib.hid asx
          have SS := Lib.hid (HS.out.still asx)
          have q2 := SS.out.cells.2.2
          clear asx rs
          go_wp2_with fail
          refine (tones_any Gs 3 0 M m HM.out.ok HTN.out wr SS.out.pm).mono ?_
          rintro e w5 ⟨ta, tc, G5, rfl, a5, h5⟩
          have A5 := Lib.hid (AS.out.trans a5)
          have S5 := Lib.hid (SS.out.still a5)
          have R5 := Lib.hid h5.reads
          obtain ⟨tb, td, c9, rb⟩ := S5.out.rm.tonesAt
          have RB := Lib.hid rb
          have q5 := S5.out.refs.2.2
          obtain ⟨k, hk⟩ : ∃ k, k = m.tones.length := ⟨_, rfl⟩
          rw [← hk] at c9 ⊢
          have HK := Lib.hid hk
          clear a5 h5 rb q2 hk
          go_wp2_with fail
          refine (sameTones_yes ta tb k tc td m.tones HK.out.symm (by rw [HK.out]; exact HTN.out) _ R5.out RB.out).mono ?_
          rintro e w6 ⟨rfl, q, rfl⟩
          go_wp2
          go_ret
          exact ⟨rfl, G5, A5.out.drewN q⟩
end Go.Proofs.YtdnalhjdmlkbmaaGreatDoor
namespace Go.Proofs.YtdnalhjdmlkbmaaGreatDoor
open Go.RowKit
set_option linter.unusedVariables false
theorem do_not (op : Int) (hp : plainB op = false) (a b c : Option Addr) (w : World) : Calls Tryz.prog 23 #[.int .i64 op, .pointer a, .pointer b, .pointer c] w fun e w' => e = .returned (.int .i64 6) ∧ w = w' := by
  go_enter Tryz.func23, Tryz.ntmps23
  go_wp2_with fail
  refine (plain_any op _).mono ?_
  rintro e w' ⟨rfl, rfl⟩
  rw [hp]
  go_wp2
  go_ret
  exact ⟨rfl, rfl⟩
theorem do_nil1 (op : Int) (b c : Option Addr) (w : World) : Calls Tryz.prog 23 #[.int .i64 op, .pointer none, .pointer b, .pointer c] w fun e w' => e = .returned (.int .i64 6) ∧ w = w' := by
  by_cases hp : plainB op = true
  · go_enter Tryz.func23, Tryz.ntmps23
    go_wp2_with fail
    refine (plain_any op _).mono ?_
    rintro e w' ⟨rfl, rfl⟩
    rw [hp]
    go_wp2
    go_ret
    exact ⟨rfl, rfl⟩
  · exact do_not op (by simpa using hp) _ _ _ w
theorem do_nil2 (op : Int) (D : Nat) (c : Option Addr) (w : World) : Calls Tryz.prog 23 #[.int .i64 op, .pointer (some ⟨D, 0, none⟩), .pointer none, .pointer c] w fun e w' => e = .returned (.int .i64 6) ∧ w = w' := by
  by_cases hp : plainB op = true
  · go_enter Tryz.func23, Tryz.ntmps23
    go_wp2_with fail
    refine (plain_any op _).mono ?_
    rintro e w' ⟨rfl, rfl⟩
    rw [hp]
    go_wp2
    go_ret
    exact ⟨rfl, rfl⟩
  · exact do_not op (by simpa using hp) _ _ _ w
theorem do_nil3 (op : Int) (D R : Nat) (w : World) : Calls Tryz.prog 23 #[.int .i64 op, .pointer (some ⟨D, 0, none⟩), .pointer (some ⟨R, 0, none⟩), .pointer none] w fun e w' => e = .returned (.int .i64 6) ∧ w = w' := by
  by_cases hp : plainB op = true
  · go_enter Tryz.func23, Tryz.ntmps23
    go_wp2_with fail
    refine (plain_any op _).mono ?_
    rintro e w' ⟨rfl, rfl⟩
    rw [hp]
    go_wp2
    go_ret
    exact ⟨rfl, rfl⟩
  · exact do_not op (by simpa using hp) _ _ _ w
end Go.Proofs.YtdnalhjdmlkbmaaGreatDoor
