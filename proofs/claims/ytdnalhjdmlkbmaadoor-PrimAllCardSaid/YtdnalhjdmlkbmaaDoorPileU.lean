/- What the functions of stack.pile do, at uint16. -/
import Derived.Test.YtdnalhjdmlkbmaaDoorLib
import Derived.Test.YtdnalhjdmlkbmaaDoorProg
import Derived.Outline
import Derived.Deep.QuietTactic
import Derived.BigQuiet
namespace Go.Proofs.YtdnalhjdmlkbmaaDoor
open Go.RowKit

theorem Tryd.info41 : (Tryd.prog.info? 41).map (fun i => (i.zero, i.size, i.bytes)) = some (some (.int .u16 0), 1, 2) := by kernel_rfl

set_option maxHeartbeats 400000 in
theorem innerU_any (D : Nat) (w : World) : Calls Tryd.prog 60 #[.pointer (some ⟨D, 0, none⟩)] w fun e w' => e = .returned (.pointer (some ⟨D, 0, none⟩)) ∧ w = w' := by
  go_enter Tryd.func60, Tryd.ntmps60
  go_wp2
  go_ret
  exact ⟨rfl, rfl⟩
theorem innerU_nil (w : World) : Calls Tryd.prog 60 #[.pointer none] w fun e w' => e = .returned (.pointer none) ∧ w = w' := by
  go_enter Tryd.func60, Tryd.ntmps60
  go_wp2
  go_ret
  exact ⟨rfl, rfl⟩

set_option maxHeartbeats 400000 in
theorem sizeU_any (D : Nat) (a : Option Addr) (n cap : Nat) (w : World) (hc : w.cell? ⟨D, 0, none⟩ = some (.slice a n cap)) :
    Calls Tryd.prog 61 #[.pointer (some ⟨D, 0, none⟩)] w fun e w' => e = .returned (.int .i64 n) ∧ w = w' := by
  go_enter Tryd.func61, Tryd.ntmps61
  go_wp2
  go_ret
  exact ⟨rfl, rfl⟩
theorem sizeU_nil (w : World) : Calls Tryd.prog 61 #[.pointer none] w fun e w' => e = .returned (.int .i64 0) ∧ w = w' := by
  go_enter Tryd.func61, Tryd.ntmps61
  go_wp2
  go_ret
  exact ⟨rfl, rfl⟩

set_option maxHeartbeats 400000 in
theorem roomU_any (D : Nat) (a : Option Addr) (n cap : Nat) (m lim : Int) (w : World) (hc : w.cell? ⟨D, 0, none⟩ = some (.slice a n cap)) (hn : n ≤ 9223372036854775807) (h0 : 0 ≤ lim) (h1 : lim ≤ 100000) :
    Calls Tryd.prog 81 #[.pointer (some ⟨D, 0, none⟩), .int .i64 m, .int .i64 lim] w fun e w' => e = .returned (.bool (decide (m ≤ lim - n))) ∧ w = w' := by
  go_enter Tryd.func81, Tryd.ntmps81
  go_wp2
  go_ret
  exact ⟨rfl, rfl⟩
theorem roomU_nil (m lim : Int) (w : World) :
    Calls Tryd.prog 81 #[.pointer none, .int .i64 m, .int .i64 lim] w fun e w' => e = .returned (.bool false) ∧ w = w' := by
  go_enter Tryd.func81, Tryd.ntmps81
  go_wp2
  go_ret
  exact ⟨rfl, rfl⟩

set_option maxHeartbeats 400000 in
/-- put: there is no room. -/
theorem putU_full (D : Nat) (a : Option Addr) (n cap : Nat) (lim : Int) (xa : Option Addr) (m c : Nat) (w : World) (hc : w.cell? ⟨D, 0, none⟩ = some (.slice a n cap)) (hn : n ≤ 9223372036854775807) (hm : m ≤ 9223372036854775807) (h0 : 0 ≤ lim) (h1 : lim ≤ 100000)
    (hpos : 0 < m) (hfull : lim < (n : Int) + m) :
    Calls Tryd.prog 65 #[.pointer (some ⟨D, 0, none⟩), .int .i64 lim, .slice xa m c] w fun e w' => e = .returned (.bool false) ∧ w = w' := by
  have hm0 : ((m : Int) == 0) = false := by simp; omega
  have hd : decide ((m : Int) ≤ lim - n) = false := by simp; omega
  go_enter Tryd.func65, Tryd.ntmps65
  go_wp2_with (go_at_call 81; refine (roomU_any D a n cap m lim _ hc hn h0 h1).mono ?_; rintro e w' ⟨rfl, rfl⟩)
  go_ret
  exact ⟨rfl, rfl⟩
/-- put: nothing is put. -/
theorem putU_none (p : Value) (lim : Int) (xa : Option Addr) (c : Nat) (w : World) :
    Calls Tryd.prog 65 #[p, .int .i64 lim, .slice xa 0 c] w fun e w' => e = .returned (.bool true) ∧ w = w' := by
  go_enter Tryd.func65, Tryd.ntmps65
  go_wp2
  go_ret
  exact ⟨rfl, rfl⟩
/-- put into no stack. -/
theorem putU_nil (lim : Int) (xa : Option Addr) (m c : Nat) (w : World) (hpos : 0 < m) :
    Calls Tryd.prog 65 #[.pointer none, .int .i64 lim, .slice xa m c] w fun e w' => e = .returned (.bool false) ∧ w = w' := by
  have hm0 : ((m : Int) == 0) = false := by simp; omega
  go_enter Tryd.func65, Tryd.ntmps65
  go_wp2_with (go_at_call 81; refine (roomU_nil _ _ _).mono ?_; rintro e w' ⟨rfl, rfl⟩)
  go_ret
  exact ⟨rfl, rfl⟩

set_option maxHeartbeats 400000 in
theorem putU_room (T : Nat) (G : Nat → Nat) (i D : Nat) (a : Option Addr) (n cap : Nat) (xs : List Value) (lim : Int) (xa : Addr) (m c : Nat) (news : List Value) (w : World) (hp : Pile 41 T 1 w G i D (.slice a n cap) n xs)
    (hm : m ≤ 9223372036854775807) (h0 : 0 ≤ lim) (h1 : lim ≤ 100000) (hpos : 0 < m) (hroom : (n : Int) + m ≤ lim)
    (hl : news.length = m) (hnews : ∀ j u, news[j]? = some u → w.cell? (xa.add j) = some u) (hone : ∀ u ∈ news, u.oneCell' = true) :
    Calls Tryd.prog 65 #[.pointer (some ⟨D, 0, none⟩), .int .i64 lim, .slice (some xa) m c] w fun e w' => e = .returned (.bool true) ∧
      ∃ G' v', Adv (· = i) w G w' G' ∧ Pile 41 T 1 w' G' i D v' (n + m) (xs ++ news) := by
  have hm0 : ((m : Int) == 0) = false := by simp; omega
  have hd : decide ((m : Int) ≤ lim - n) = true := by simp; omega
  have hc := hp.cell
  have hf := hp.frozen
  obtain ⟨i0, hi, hz0, hz1, hz2⟩ := info_parts Tryd.info41
  have HP := Lib.hid hp
  clear hp
  go_enter Tryd.func65, Tryd.ntmps65
  have hcD : ∀ w1, w.grownBy w1 (Value.slice a n cap).ownBlock → w1.cell? ⟨D, 0, none⟩ = some (.slice a n cap) ∧ w1.frozen? ⟨D, 0, none⟩ = false := fun w1 hg =>
    ⟨(World.cell?_of_block (hg.block D HP.out.lt (fun e => HP.out.ne e.symm))).trans hc, (World.frozen?_of_block (hg.block D HP.out.lt (fun e => HP.out.ne e.symm))).trans hf⟩
  have HD := Lib.hid hcD
  clear hcD
  go_wp2_with (first | (go_at_call 81; refine (roomU_any D a n cap m lim _ hc (by omega) h0 h1).mono ?_; rintro e w' ⟨rfl, rfl⟩) | (at_builtin; refine wpList_append_own2 rfl (.tmp 20) (.tmp 21) 42 rfl 41 i0 (.int .u16 0) 1 2 Tryd.underlying42 hi hz0 hz1 hz2 rfl (by decide) a n cap xs rfl HP.out.row xa m c news rfl (by omega) hnews hone (by unfold maxLen; omega) (by omega) ?_; intro va' vc' w1 h1 h2 h3; obtain ⟨hc1, hf1⟩ := HD.out w1 h2; have H1 := Lib.hid h1; clear h1; have H2 := Lib.hid h2; clear h2; have H3 := Lib.hid h3; clear h3))
  go_ret
  exact ⟨rfl, _, _, HP.out.appended H1.out H2.out H3.out⟩

set_option maxHeartbeats 400000 in
theorem takeU_any (T : Nat) (G : Nat → Nat) (i D : Nat) (a : Option Addr) (m cap : Nat) (ys : List Value) (x : Int) (w : World) (hp : Pile 41 T 1 w G i D (.slice a (m + 1) cap) (m + 1) (ys ++ [.int .u16 x])) :
    Calls Tryd.prog 62 #[.pointer (some ⟨D, 0, none⟩)] w fun e w' => e = .returned (.int .u16 x) ∧ Adv (· = i) w G w' G ∧ Pile 41 T 1 w' G i D (.slice a m cap) m ys := by
  have hc := hp.cell
  have hf := hp.frozen
  obtain ⟨g, rfl, hcap, hlc, hcx⟩ := hp.last
  have hmax : cap ≤ 9223372036854775807 := by unfold maxLen at hcap; omega
  have HP := Lib.hid hp
  clear hp hcap
  go_enter Tryd.func62, Tryd.ntmps62
  go_wp2
  go_ret
  exact ⟨rfl, HP.out.popped⟩

theorem allU_nil (w : World) : Calls Tryd.prog 63 #[.pointer none] w fun e w' => e = .returned (.slice none 0 0) ∧ w = w' := by
  go_enter Tryd.func63, Tryd.ntmps63
  go_wp2_with (go_at_call 61; refine (sizeU_nil _).mono ?_; rintro e w' ⟨rfl, rfl⟩)
  go_ret
  exact ⟨rfl, rfl⟩
theorem allU_none (D : Nat) (a : Option Addr) (cap : Nat) (w : World) (hc : w.cell? ⟨D, 0, none⟩ = some (.slice a 0 cap)) :
    Calls Tryd.prog 63 #[.pointer (some ⟨D, 0, none⟩)] w fun e w' => e = .returned (.slice none 0 0) ∧ w = w' := by
  go_enter Tryd.func63, Tryd.ntmps63
  go_wp2_with (go_at_call 61; refine (sizeU_any D a 0 cap _ hc).mono ?_; rintro e w' ⟨rfl, rfl⟩)
  go_ret
  exact ⟨rfl, rfl⟩
set_option maxRecDepth 100000 in
set_option maxHeartbeats 400000 in
theorem allU_some (D : Nat) (a : Addr) (n cap : Nat) (xs : List Value) (w : World) (hn0 : 0 < n) (hn1 : n ≤ 1000) (hl : xs.length = n) (hone : ∀ u ∈ xs, u.oneCell' = true)
    (hc : w.cell? ⟨D, 0, none⟩ = some (.slice (some a) n cap)) (hx : ∀ j u, xs[j]? = some u → w.cell? (a.add j) = some u) (hb : a.block < w.heap.size) :
    Calls Tryd.prog 63 #[.pointer (some ⟨D, 0, none⟩)] w fun e w' => e = .returned (.slice (some ⟨w.heap.size, 0, none⟩) n n) ∧ w' = w.alloc (.cells xs.toArray 41) := by
  have hm0 : ((n : Int) == 0) = false := by simp; omega
  obtain ⟨i0, hi, hz0, hz1, hz2⟩ := info_parts Tryd.info41
  have hmk := fun w1 => run_make (P := Tryd.prog) w1 42 41 i0 (.int .u16 0) Tryd.underlying42 hi hz0 .i64 .i64 n n (by omega) (by omega) (by rw [hz2]; omega) (by omega)
  rw [hz1, Int.toNat_natCast, Nat.mul_one] at hmk
  have HL := Lib.hid hl
  clear hl
  have hcD : w.cell? ⟨D, 0, none⟩ = some (.slice (some a) n cap) := hc
  have hD : D < w.heap.size := World.block_lt_of_cell? w _ hc
  go_enter Tryd.func63, Tryd.ntmps63
  go_wp2_with (first | (go_at_call 61; refine (sizeU_any D (some a) n cap _ hc).mono ?_; rintro e w' ⟨rfl, rfl⟩) | (refine wpList_copy_new rfl (.tmp 13) (.tmp 17) 42 42 rfl 41 i0 Tryd.underlying42 hi n n a cap rfl rfl _ xs (by rw [HL.out, hz1]; omega) (by rw [HL.out]; simp [size_madeCells]) hx hb hone ?_))
  go_ret
  exact ⟨rfl, rfl⟩
end Go.Proofs.YtdnalhjdmlkbmaaDoor
