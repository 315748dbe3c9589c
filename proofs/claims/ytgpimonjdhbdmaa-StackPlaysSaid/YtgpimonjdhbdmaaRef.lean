/- What the document's stacks (wispref05) do. -/
import Derived.Test.YtgpimonjdhbdmaaSame
import Derived.Test.YtgpimonjdhbdmaaRowLib
import Derived.Deep.RegionHeld3
namespace Go.Proofs.Ytgpimonjdhbdmaa
open Go.RowKit

/-- The document's data stack, return stack. -/
def EU (w : World) (G : Nat → Nat) (i D : Nat) (l : List Int) : Prop := ∃ v, Pile 32 61 1 w G i D v l.length (cellsU l)
def ER (w : World) (G : Nat → Nat) (i D : Nat) (l : List (Int × Int)) : Prop := ∃ v, Pile 43 64 2 w G i D v l.length (cellsR l)
theorem EU.adv {w w' : World} {G G' : Nat → Nat} {i D : Nat} {l : List Int} {S : Nat → Prop} (h : EU w G i D l) (ha : Adv S w G w' G') (hs : ¬ S i) : EU w' G' i D l := h.imp fun _ h => h.adv ha hs
theorem ER.adv {w w' : World} {G G' : Nat → Nat} {i D : Nat} {l : List (Int × Int)} {S : Nat → Prop} (h : ER w G i D l) (ha : Adv S w G w' G') (hs : ¬ S i) : ER w' G' i D l := h.imp fun _ h => h.adv ha hs

theorem Pile.row' {e T size : Nat} {w : World} {G : Nat → Nat} {i D : Nat} {v : Value} {n : Nat} {xs : List Value} (h : Pile e T size w G i D v n xs) : Row e size w G i v n xs := ⟨h.row, h.rown⟩
/-- Another row of i's is laid into the pointer's cell. -/
theorem Pile.put {e T size : Nat} {w w1 : World} {G G1 : Nat → Nat} {i D : Nat} {v v' : Value} {n m : Nat} {xs ys : List Value} (h : Pile e T size w G i D v n xs) (ha : Adv (fun _ => False) w G w1 G1) (hr : Row e size w1 G1 i v' m ys) (hne : v'.ownBlock ≠ some D) :
    Adv (· = i) w G (w1.setCell ⟨D, 0, none⟩ v') G1 ∧ Pile e T size (w1.setCell ⟨D, 0, none⟩ v') G1 i D v' m ys := by
  have h1 := h.adv ha id
  refine ⟨(ha.mono (fun _ h => h.elim)).setCell (p := ⟨D, 0, none⟩) h1.hown v', ?_, h1.hown, ?_, hr.own, hne⟩
  · simp only [World.setCell, Array.getElem?_modify, h1.head]; simp
  · exact ownsRow_of_block hr.row fun b e => Below.heap_setCell _ _ _ _ (fun x => hne (by rw [e]; exact congrArg some x))

/-- Need, as the document has it. -/
theorem refNeed (G : Nat → Nat) (i D : Nat) (l : List Int) (p q : Int) (w : World) (hp : EU w G i D l) (hn : l.length ≤ 256) (h1 : p ≤ 9223372036854775807) (h2 : q ≤ 9223372036854775807) :
    Calls Try.prog 38 #[.pointer (some ⟨D, 0, none⟩), .int .i64 p, .int .i64 q] w fun e w' => e = .returned (.int .i64 (needF l.length p q)) ∧ w = w' := by
  obtain ⟨v, h⟩ := hp
  obtain ⟨a, c, rfl⟩ := h.slice
  obtain ⟨n, hln⟩ : ∃ n, n = l.length := ⟨_, rfl⟩
  rw [← hln]
  have hc := h.cell
  rw [← hln] at hc hn
  clear h hln
  go_enter Try.func38, Try.ntmps38
  go_wp2
  all_goals
    go_ret
    exact ⟨ret_int (by unfold needF; (repeat' split) <;> omega), rfl⟩
theorem refPop (G : Nat → Nat) (i D : Nat) (l : List Int) (x : Int) (w : World) (hp : EU w G i D (l ++ [x])) (hl : l.length ≤ 1000) :
    Calls Try.prog 40 #[.pointer (some ⟨D, 0, none⟩)] w fun e w' => e = .returned (.int .u16 x) ∧ Adv (· = i) w G w' G ∧ EU w' G i D l := by
  obtain ⟨v, h⟩ := hp
  obtain ⟨a, cap, rfl⟩ := h.slice
  rw [List.length_append, cellsU_append] at h
  obtain ⟨m, hm⟩ : ∃ m, m = l.length := ⟨_, rfl⟩
  rw [← hm] at h hl
  have hc := h.cell
  have hf := h.frozen
  obtain ⟨g, rfl, hcap, hlc, hcx⟩ := Pile.last (m := m) h
  have hmax : cap ≤ 9223372036854775807 := by unfold maxLen at hcap; omega
  have HP := Lib.hid h
  have HM := Lib.hid hm
  have hm0 : (((m : Int) + 1) == 0) = false := by simp; omega
  clear h hm hcap
  rw [show m + [x].length = m + 1 from rfl] at hc
  go_enter Try.func40, Try.ntmps40
  go_wp2
  go_ret
  have h2 := HP.out.popped
  exact ⟨rfl, h2.1, _, by rw [← HM.out]; exact h2.2⟩
theorem refPop_nil (G : Nat → Nat) (i D : Nat) (w : World) (hp : EU w G i D []) : Calls Try.prog 40 #[.pointer (some ⟨D, 0, none⟩)] w fun e w' => e = .returned (.int .u16 0) ∧ w = w' := by
  obtain ⟨v, h⟩ := hp
  obtain ⟨a, c, rfl⟩ := h.slice
  have hc := h.cell
  rw [List.length_nil] at hc
  clear h
  go_enter Try.func40, Try.ntmps40
  go_wp2
  go_ret
  exact ⟨rfl, rfl⟩
theorem refPush_no (G : Nat → Nat) (i D : Nat) (l : List Int) (xa : Option Addr) (n c : Nat) (w : World) (hp : EU w G i D l) (hl : l.length ≤ 256) (hn : n ≤ 100000000000000) (hfull : 256 < l.length + n) :
    Calls Try.prog 39 #[.pointer (some ⟨D, 0, none⟩), .slice xa n c] w fun e w' => e = .returned (.int .i64 2) ∧ w = w' := by
  obtain ⟨v, h⟩ := hp
  obtain ⟨a, cap, rfl⟩ := h.slice
  obtain ⟨m, hm⟩ : ∃ m, m = l.length := ⟨_, rfl⟩
  have hc := h.cell
  rw [← hm] at hc hl hfull
  have hd : decide (256 < (m : Int) + n) = true := by simp; omega
  clear h hm
  go_enter Try.func39, Try.ntmps39
  go_wp2
  go_ret
  exact ⟨rfl, rfl⟩
set_option maxHeartbeats 1000000 in
theorem refPush (G : Nat → Nat) (i D : Nat) (l m : List Int) (xa : Option Addr) (n c : Nat) (w : World) (hp : EU w G i D l) (hn : m.length = n) (hroom : l.length + n ≤ 256) (hr : Reads w xa (cellsU m)) :
    Calls Try.prog 39 #[.pointer (some ⟨D, 0, none⟩), .slice xa n c] w fun e w' => e = .returned (.int .i64 0) ∧ ∃ G', Adv (· = i) w G w' G' ∧ EU w' G' i D (l ++ m) := by
  obtain ⟨v, h⟩ := hp
  obtain ⟨a, cap, rfl⟩ := h.slice
  obtain ⟨k, hk⟩ : ∃ k, k = l.length := ⟨_, rfl⟩
  rw [← hk] at h hroom
  have hc := h.cell
  have hf := h.frozen
  have hd : decide (256 < (k : Int) + n) = false := by simp; omega
  obtain ⟨i0, hi, hz0, hz1, hz2⟩ := info_parts Try.info32
  have HP := Lib.hid h
  have HK := Lib.hid hk
  have HN := Lib.hid hn
  have HR := Lib.hid hr
  have hD := h.lt
  have hrl := h.reads.1.alloc (.cells #[] 32)
  have hA0 := (Adv.refl (fun i => i = 1) w (fun _ => 0)).alloc (.cells #[] 32) 1
  have hR0 := Row.new w (fun _ => 0) 32 1 1 0 [] (Nat.zero_le _) rfl
  obtain ⟨G1, hG1⟩ : ∃ G1, G1 = own1 w (fun _ => 0) 1 := ⟨_, rfl⟩
  rw [← hG1] at hA0 hR0
  have HA0 := Lib.hid hA0
  have HR0 := Lib.hid hR0
  have HRL := Lib.hid hrl
  clear h hk hn hr hrl hA0 hR0 hG1
  have hk256 : k ≤ 256 := by omega
  go_enter Try.func39, Try.ntmps39
  go_wp2_with (first
    | (at_builtin; refine wpList_append_reads rfl (.tmp 15) (.tmp 19) 22 rfl 32 i0 (.int .u16 0) 1 2 Try.underlying22 hi hz0 hz1 hz2 rfl (by decide) G1 1 (some ⟨w.heap.size, 0, none⟩) 0 0 [] rfl HR0.out a k cap (cellsU l) rfl (by rw [cellsU_length, ← HK.out, Nat.mul_one]) HRL.out (cellsU_one l) (by unfold maxLen; omega) (by omega) ?_; intro va1 vc1 w1 G2 h1 h2; rw [Nat.zero_add, List.nil_append] at h1; rw [Nat.zero_add]; have HR1 := Lib.hid h1; have HA1 := Lib.hid (HA0.out.trans h2); clear h1 h2)
    | (at_builtin; refine wpList_append_reads rfl (.tmp 20) (.tmp 21) 22 rfl 32 i0 (.int .u16 0) 1 2 Try.underlying22 hi hz0 hz1 hz2 rfl (by decide) G2 1 va1 k vc1 (cellsU l) rfl HR1.out xa n c (cellsU m) rfl (by rw [cellsU_length, HN.out, Nat.mul_one]) (HR.out.adv HA1.out (fun _ _ => by omega)) (cellsU_one m) (by unfold maxLen; omega) (by omega) ?_; intro va2 vc2 w2 G3 h1 h2; have hc2 := (HA1.out.trans h2).cell_some hc (by show ¬ (0 = 1); omega); have hf2 : w2.frozen? ⟨D, 0, none⟩ = false := (World.frozen?_of_block ((HA1.out.trans h2).keep D hD (by show ¬ (0 = 1); omega))).trans hf; have HR2 := Lib.hid h1; have HA2 := Lib.hid (HA1.out.trans h2); clear h1 h2))
  go_ret
  have hne : (Value.slice va2 (k + n) vc2).ownBlock ≠ some D := by
    intro e
    have h1 := HR2.out.own D e
    rw [HA2.out.own D hD] at h1
    exact absurd h1 (by show ¬ (0 = 1); omega)
  have ha : Adv (fun _ => False) w G w2 (named w G G3 i 0) := HA2.out.relabel (fun _ _ => by omega) (fun _ hb => named_old hb)
  have hr : Row 32 1 w2 (named w G G3 i 0) i (.slice va2 (k + n) vc2) (k + n) (cellsU l ++ cellsU m) := ⟨HR2.out.row, fun b e => named_1 HA2.out b (HR2.out.row.lt b e).2 (HR2.out.own b e)⟩
  have hput := HP.out.put ha hr hne
  exact ⟨rfl, _, hput.1, _, by rw [List.length_append, cellsU_append, ← HK.out, HN.out]; exact hput.2⟩
end Go.Proofs.Ytgpimonjdhbdmaa
