/- What the methods of stack.Data do. -/
import Derived.Test.YtdnalhjdmlkbmaaDoorPileU
namespace Go.Proofs.YtdnalhjdmlkbmaaDoor
open Go.RowKit

theorem lenU_any (D : Nat) (a : Option Addr) (n cap : Nat) (w : World) (hc : w.cell? ⟨D, 0, none⟩ = some (.slice a n cap)) :
    Calls Tryd.prog 23 #[.pointer (some ⟨D, 0, none⟩)] w fun e w' => e = .returned (.int .i64 n) ∧ w = w' := by
  go_enter Tryd.func23, Tryd.ntmps23
  go_wp2_with (first | (go_at_call 60; refine (innerU_any D _).mono ?_; rintro e w' ⟨rfl, rfl⟩) | (go_at_call 61; refine (sizeU_any D a n cap _ hc).mono ?_; rintro e w' ⟨rfl, rfl⟩))
  go_ret
  exact ⟨rfl, rfl⟩
theorem lenU_nil (w : World) : Calls Tryd.prog 23 #[.pointer none] w fun e w' => e = .returned (.int .i64 0) ∧ w = w' := by
  go_enter Tryd.func23, Tryd.ntmps23
  go_wp2_with (first | (go_at_call 60; refine (innerU_nil _).mono ?_; rintro e w' ⟨rfl, rfl⟩) | (go_at_call 61; refine (sizeU_nil _).mono ?_; rintro e w' ⟨rfl, rfl⟩))
  go_ret
  exact ⟨rfl, rfl⟩

theorem ret_int {k : IntKind} {a b : Int} (h : a = b) : Ending.returned (.int k a) = .returned (.int k b) := by rw [h]
/-- Need's answer. -/
def needF (n : Int) (i o : Int) : Int := if n < max i 0 then 1 else if 256 - (n - max i 0) < max o 0 then 2 else 0
theorem needF_1 {n i o : Int} (h : n < max i 0) : needF n i o = 1 := if_pos h

set_option maxHeartbeats 400000 in
theorem needU_any (D : Nat) (a : Option Addr) (n cap : Nat) (i o : Int) (w : World) (hc : w.cell? ⟨D, 0, none⟩ = some (.slice a n cap)) (hn : n ≤ 100000) (hi : i ≤ 9223372036854775807) (ho : o ≤ 9223372036854775807) :
    Calls Tryd.prog 55 #[.pointer (some ⟨D, 0, none⟩), .int .i64 i, .int .i64 o] w fun e w' => e = .returned (.int .i64 (needF n i o)) ∧ w = w' := by
  go_enter Tryd.func55, Tryd.ntmps55
  go_wp2_with (first | (go_at_call 60; refine (innerU_any D _).mono ?_; rintro e w' ⟨rfl, rfl⟩) | (go_at_call 61; refine (sizeU_any D a n cap _ hc).mono ?_; rintro e w' ⟨rfl, rfl⟩))
  all_goals
    go_ret
    exact ⟨ret_int (by unfold needF; (repeat' split) <;> omega), rfl⟩
theorem needU_nil (i o : Int) (w : World) (hi : i ≤ 9223372036854775807) (ho : o ≤ 9223372036854775807) :
    Calls Tryd.prog 55 #[.pointer none, .int .i64 i, .int .i64 o] w fun e w' => e = .returned (.int .i64 (needF 0 i o)) ∧ w = w' := by
  go_enter Tryd.func55, Tryd.ntmps55
  go_wp2_with (first | (go_at_call 60; refine (innerU_nil _).mono ?_; rintro e w' ⟨rfl, rfl⟩) | (go_at_call 61; refine (sizeU_nil _).mono ?_; rintro e w' ⟨rfl, rfl⟩))
  all_goals
    go_ret
    exact ⟨ret_int (by unfold needF; (repeat' split) <;> omega), rfl⟩

theorem pushU_nil (xa : Option Addr) (m c : Nat) (w : World) (hpos : 0 < m) :
    Calls Tryd.prog 30 #[.pointer none, .slice xa m c] w fun e w' => e = .returned (.int .i64 2) ∧ w = w' := by
  go_enter Tryd.func30, Tryd.ntmps30
  go_wp2_with (first | (go_at_call 60; refine (innerU_nil _).mono ?_; rintro e w' ⟨rfl, rfl⟩) | (go_at_call 65; refine (putU_nil _ xa m c _ hpos).mono ?_; rintro e w' ⟨rfl, rfl⟩))
  go_ret
  exact ⟨rfl, rfl⟩
theorem pushU_nil0 (xa : Option Addr) (c : Nat) (w : World) :
    Calls Tryd.prog 30 #[.pointer none, .slice xa 0 c] w fun e w' => e = .returned (.int .i64 0) ∧ w = w' := by
  go_enter Tryd.func30, Tryd.ntmps30
  go_wp2_with (first | (go_at_call 60; refine (innerU_nil _).mono ?_; rintro e w' ⟨rfl, rfl⟩) | (go_at_call 65; refine (putU_none _ _ xa c _).mono ?_; rintro e w' ⟨rfl, rfl⟩))
  go_ret
  exact ⟨rfl, rfl⟩
theorem pushU_none (D : Nat) (xa : Option Addr) (c : Nat) (w : World) :
    Calls Tryd.prog 30 #[.pointer (some ⟨D, 0, none⟩), .slice xa 0 c] w fun e w' => e = .returned (.int .i64 0) ∧ w = w' := by
  go_enter Tryd.func30, Tryd.ntmps30
  go_wp2_with (first | (go_at_call 60; refine (innerU_any D _).mono ?_; rintro e w' ⟨rfl, rfl⟩) | (go_at_call 65; refine (putU_none _ _ xa c _).mono ?_; rintro e w' ⟨rfl, rfl⟩))
  go_ret
  exact ⟨rfl, rfl⟩
theorem pushU_full (D : Nat) (a : Option Addr) (n cap : Nat) (xa : Option Addr) (m c : Nat) (w : World) (hc : w.cell? ⟨D, 0, none⟩ = some (.slice a n cap)) (hn : n ≤ 9223372036854775807) (hm : m ≤ 9223372036854775807)
    (hpos : 0 < m) (hfull : 256 < (n : Int) + m) :
    Calls Tryd.prog 30 #[.pointer (some ⟨D, 0, none⟩), .slice xa m c] w fun e w' => e = .returned (.int .i64 2) ∧ w = w' := by
  go_enter Tryd.func30, Tryd.ntmps30
  go_wp2_with (first | (go_at_call 60; refine (innerU_any D _).mono ?_; rintro e w' ⟨rfl, rfl⟩) | (go_at_call 65; refine (putU_full D a n cap 256 xa m c _ hc hn hm (by omega) (by omega) hpos hfull).mono ?_; rintro e w' ⟨rfl, rfl⟩))
  go_ret
  exact ⟨rfl, rfl⟩
set_option maxHeartbeats 400000 in
/-- Push, with room for all. -/
theorem pushU_room (T : Nat) (G : Nat → Nat) (i D : Nat) (a : Option Addr) (n cap : Nat) (xs : List Value) (xa : Addr) (m c : Nat) (news : List Value) (w : World) (hp : Pile 41 T 1 w G i D (.slice a n cap) n xs)
    (hm : m ≤ 9223372036854775807) (hpos : 0 < m) (hroom : (n : Int) + m ≤ 256)
    (hl : news.length = m) (hnews : ∀ j u, news[j]? = some u → w.cell? (xa.add j) = some u) (hone : ∀ u ∈ news, u.oneCell' = true) :
    Calls Tryd.prog 30 #[.pointer (some ⟨D, 0, none⟩), .slice (some xa) m c] w fun e w' => e = .returned (.int .i64 0) ∧
      ∃ G' v', Adv (· = i) w G w' G' ∧ Pile 41 T 1 w' G' i D v' (n + m) (xs ++ news) := by
  have HP := Lib.hid hp
  have HL := Lib.hid hl
  clear hp hl
  go_enter Tryd.func30, Tryd.ntmps30
  go_wp2_with (first | (go_at_call 60; refine (innerU_any D _).mono ?_; rintro e w' ⟨rfl, rfl⟩) | (go_at_call 65; refine (putU_room T G i D a n cap xs 256 xa m c news _ HP.out hm (by omega) (by omega) hpos hroom HL.out hnews hone).mono ?_; rintro e w' ⟨rfl, hr⟩))
  go_ret
  exact ⟨rfl, hr⟩

theorem popU_nil (w : World) : Calls Tryd.prog 24 #[.pointer none] w fun e w' => e = .returned (.int .u16 0) ∧ w = w' := by
  go_enter Tryd.func24, Tryd.ntmps24
  go_wp2_with (first | (go_at_call 60; refine (innerU_nil _).mono ?_; rintro e w' ⟨rfl, rfl⟩) | (go_at_call 61; refine (sizeU_nil _).mono ?_; rintro e w' ⟨rfl, rfl⟩))
  go_ret
  exact ⟨rfl, rfl⟩
theorem popU_none (D : Nat) (a : Option Addr) (cap : Nat) (w : World) (hc : w.cell? ⟨D, 0, none⟩ = some (.slice a 0 cap)) :
    Calls Tryd.prog 24 #[.pointer (some ⟨D, 0, none⟩)] w fun e w' => e = .returned (.int .u16 0) ∧ w = w' := by
  go_enter Tryd.func24, Tryd.ntmps24
  go_wp2_with (first | (go_at_call 60; refine (innerU_any D _).mono ?_; rintro e w' ⟨rfl, rfl⟩) | (go_at_call 61; refine (sizeU_any D a 0 cap _ hc).mono ?_; rintro e w' ⟨rfl, rfl⟩))
  go_ret
  exact ⟨rfl, rfl⟩
set_option maxHeartbeats 400000 in
theorem popU_some (T : Nat) (G : Nat → Nat) (i D : Nat) (a : Option Addr) (m cap : Nat) (ys : List Value) (x : Int) (w : World) (hp : Pile 41 T 1 w G i D (.slice a (m + 1) cap) (m + 1) (ys ++ [.int .u16 x])) :
    Calls Tryd.prog 24 #[.pointer (some ⟨D, 0, none⟩)] w fun e w' => e = .returned (.int .u16 x) ∧ Adv (· = i) w G w' G ∧ Pile 41 T 1 w' G i D (.slice a m cap) m ys := by
  have hc := hp.cell
  have HP := Lib.hid hp
  clear hp
  have hm0 : (((m : Int) + 1) == 0) = false := by simp; omega
  go_enter Tryd.func24, Tryd.ntmps24
  go_wp2_with (first | (go_at_call 60; refine (innerU_any D _).mono ?_; rintro e w' ⟨rfl, rfl⟩) | (go_at_call 61; refine (sizeU_any D a (m + 1) cap _ hc).mono ?_; rintro e w' ⟨rfl, rfl⟩) | (go_at_call 62; refine (takeU_any T G i D a m cap ys x _ HP.out).mono ?_; rintro e w' ⟨rfl, hr⟩))
  go_ret
  exact ⟨rfl, hr⟩

theorem cellsU_nil (w : World) : Calls Tryd.prog 26 #[.pointer none] w fun e w' => e = .returned (.slice none 0 0) ∧ w = w' := by
  go_enter Tryd.func26, Tryd.ntmps26
  go_wp2_with (first | (go_at_call 60; refine (innerU_nil _).mono ?_; rintro e w' ⟨rfl, rfl⟩) | (go_at_call 63; refine (allU_nil _).mono ?_; rintro e w' ⟨rfl, rfl⟩))
  go_ret
  exact ⟨rfl, rfl⟩
theorem cellsU_none (D : Nat) (a : Option Addr) (cap : Nat) (w : World) (hc : w.cell? ⟨D, 0, none⟩ = some (.slice a 0 cap)) :
    Calls Tryd.prog 26 #[.pointer (some ⟨D, 0, none⟩)] w fun e w' => e = .returned (.slice none 0 0) ∧ w = w' := by
  go_enter Tryd.func26, Tryd.ntmps26
  go_wp2_with (first | (go_at_call 60; refine (innerU_any D _).mono ?_; rintro e w' ⟨rfl, rfl⟩) | (go_at_call 63; refine (allU_none D a cap _ hc).mono ?_; rintro e w' ⟨rfl, rfl⟩))
  go_ret
  exact ⟨rfl, rfl⟩
set_option maxHeartbeats 400000 in
theorem cellsU_some (D : Nat) (a : Addr) (n cap : Nat) (xs : List Value) (w : World) (hn0 : 0 < n) (hn1 : n ≤ 1000) (hl : xs.length = n) (hone : ∀ u ∈ xs, u.oneCell' = true)
    (hc : w.cell? ⟨D, 0, none⟩ = some (.slice (some a) n cap)) (hx : ∀ j u, xs[j]? = some u → w.cell? (a.add j) = some u) (hb : a.block < w.heap.size) :
    Calls Tryd.prog 26 #[.pointer (some ⟨D, 0, none⟩)] w fun e w' => e = .returned (.slice (some ⟨w.heap.size, 0, none⟩) n n) ∧ w' = w.alloc (.cells xs.toArray 41) := by
  have HL := Lib.hid hl
  clear hl
  go_enter Tryd.func26, Tryd.ntmps26
  go_wp2_with (first | (go_at_call 60; refine (innerU_any D _).mono ?_; rintro e w' ⟨rfl, rfl⟩) | (go_at_call 63; refine (allU_some D a n cap xs _ hn0 hn1 HL.out hone hc hx hb).mono ?_; rintro e w' ⟨rfl, rfl⟩))
  go_ret
  exact ⟨rfl, rfl⟩
end Go.Proofs.YtdnalhjdmlkbmaaDoor
