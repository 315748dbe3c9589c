/- Lists in new memory with marks behind them; whether they are as they were. -/
import Derived.Test.YtgpimonjdhbdmaaRefR
import Derived.Test.YtgpimonjdhbdmaaKindsRest3
namespace Go.Proofs.Ytgpimonjdhbdmaa
open Go.RowKit

theorem Row.alloc {e size : Nat} {w : World} {G : Nat → Nat} {i : Nat} {v : Value} {n : Nat} {xs : List Value} (h : Row e size w G i v n xs) (o : Obj) (k : Nat) : Row e size (w.alloc o) (own1 w G k) i v n xs :=
  h.adv (S := fun _ => False) ((Adv.refl _ w G).alloc o k) id
theorem Row.named {e size : Nat} {S : Nat → Prop} {w w' : World} {G G0 : Nat → Nat} {i : Nat} {v : Value} {n : Nat} {xs : List Value} (h : Row e size w' G0 1 v n xs) (ha : Adv S w (fun _ => 0) w' G0) : Row e size w' (named w G G0 i 0) i v n xs :=
  ⟨h.row, fun b e => named_1 ha b (h.row.lt b e).2 (h.own b e)⟩

theorem Row.addr {e size : Nat} {w : World} {G : Nat → Nat} {i : Nat} {a : Option Addr} {n c : Nat} {xs : List Value} (h : Row e size w G i (.slice a n c) n xs) (hn : 0 < n) : ∃ g, a = some ⟨g, 0, none⟩ ∧ n ≤ c ∧ c ≤ 9223372036854775807 := by
  obtain ⟨a', c', e1, h1, h2, h3⟩ := h.slice
  cases e1
  obtain ⟨g, hg⟩ := h3 hn
  exact ⟨g, hg, h2, by unfold maxLen at h1; omega⟩

set_option maxHeartbeats 1000000 in
theorem ownCells_any (G : Nat → Nat) (k : Nat) (xa : Option Addr) (n c : Nat) (l : List Int) (w : World) (hl : l.length = n) (hn : n ≤ 70368744175616) (hr : Reads w xa (cellsU l)) :
    Calls Try.prog 36 #[.slice xa n c] w fun e w' => ∃ g cap G', e = .returned (.slice (some ⟨g, 0, none⟩) n cap) ∧ Adv (fun _ => False) w G w' G' ∧
      Row 32 1 w' G' k (.slice (some ⟨g, 0, none⟩) (n + 2) cap) (n + 2) (cellsU (l ++ [7777, 7778])) := by
  obtain ⟨i0, hi, hz0, hz1, hz2⟩ := info_parts Try.info32
  have hA0 := (Adv.refl (fun i => i = 1) w (fun _ => 0)).alloc (.cells #[] 32) 1
  have hR0 := Row.new w (fun _ => 0) 32 1 1 0 [] (Nat.zero_le _) rfl
  obtain ⟨G1, hG1⟩ : ∃ G1, G1 = own1 w (fun _ => 0) 1 := ⟨_, rfl⟩
  rw [← hG1] at hA0 hR0
  have HL := Lib.hid hl
  have HA0 := Lib.hid hA0
  have HR0 := Lib.hid hR0
  have HRL := Lib.hid (hr.alloc (.cells #[] 32))
  clear hl hr hA0 hR0 hG1
  go_enter Try.func36, Try.ntmps36
  go_wp2_with (first
    | (at_builtin; refine wpList_append_reads rfl (.tmp 3) (.tmp 4) 22 rfl 32 i0 (.int .u16 0) 1 2 Try.underlying22 hi hz0 hz1 hz2 rfl (by decide) G1 1 (some ⟨w.heap.size, 0, none⟩) 0 0 [] rfl HR0.out xa n c (cellsU l) rfl (by rw [cellsU_length, HL.out, Nat.mul_one]) HRL.out (cellsU_one l) (by unfold maxLen; omega) (by omega) ?_; intro va1 vc1 w1 G2 h1 h2; rw [Nat.zero_add, List.nil_append] at h1; rw [Nat.zero_add]; have HR1 := Lib.hid (h1.alloc (.cells #[.int .u16 7777, .int .u16 7778] 32) 0); have HA1 := Lib.hid ((HA0.out.trans h2).alloc (.cells #[.int .u16 7777, .int .u16 7778] 32) 0); have HRN := Lib.hid (Reads.new w1 [.int .u16 7777, .int .u16 7778] 32); clear h1 h2)
    | (at_builtin; refine wpList_append_reads rfl (.tmp 5) (.tmp 6) 22 rfl 32 i0 (.int .u16 0) 1 2 Try.underlying22 hi hz0 hz1 hz2 rfl (by decide) (own1 w1 G2 0) 1 va1 n vc1 (cellsU l) rfl HR1.out (some ⟨w1.heap.size, 0, none⟩) 2 2 [.int .u16 7777, .int .u16 7778] rfl rfl HRN.out (cellsU_one [7777, 7778]) (by unfold maxLen; omega) (by omega) ?_; intro va2 vc2 w2 G3 h1 h2; obtain ⟨g, eg, hc1, hc2⟩ := h1.addr (by omega); rw [eg]; rw [eg] at h1; have HR2 := Lib.hid h1; have HA2 := Lib.hid (HA1.out.trans h2); clear h1 h2 eg))
  go_ret
  exact ⟨g, vc2, _, rfl, HA2.out.relabel (H := G) (fun _ _ => by omega) (fun _ hb => named_old hb), by rw [cellsU_append]; exact HR2.out.named HA2.out⟩
set_option maxHeartbeats 1000000 in
theorem ownRet_any (G : Nat → Nat) (k : Nat) (xa : Option Addr) (n c : Nat) (l : List (Int × Int)) (w : World) (hl : l.length = n) (hn : n ≤ 8796093021952) (hr : Reads w xa (cellsR l)) :
    Calls Try.prog 37 #[.slice xa n c] w fun e w' => ∃ g cap G', e = .returned (.slice (some ⟨g, 0, none⟩) n cap) ∧ Adv (fun _ => False) w G w' G' ∧
      Row 43 2 w' G' k (.slice (some ⟨g, 0, none⟩) (n + 2) cap) (n + 2) (cellsR (l ++ [(77, 0), (78, 0)])) := by
  obtain ⟨i0, hi, hz0, hz1, hz2⟩ := info_parts Try.info43
  have hA0 := (Adv.refl (fun i => i = 1) w (fun _ => 0)).alloc (.cells #[] 43) 1
  have hR0 := Row.new w (fun _ => 0) 43 2 1 0 [] (Nat.zero_le _) rfl
  obtain ⟨G1, hG1⟩ : ∃ G1, G1 = own1 w (fun _ => 0) 1 := ⟨_, rfl⟩
  rw [← hG1] at hA0 hR0
  have HL := Lib.hid hl
  have HA0 := Lib.hid hA0
  have HR0 := Lib.hid hR0
  have HRL := Lib.hid (hr.alloc (.cells #[] 43))
  clear hl hr hA0 hR0 hG1
  go_enter Try.func37, Try.ntmps37
  go_wp2_with (first
    | (at_builtin; refine wpList_append_reads rfl (.tmp 3) (.tmp 4) 36 rfl 43 i0 (.agg #[.int .i64 0, .int .u16 0]) 2 16 Try.underlying36 hi hz0 hz1 hz2 rfl (by decide) G1 1 (some ⟨w.heap.size, 0, none⟩) 0 0 [] rfl HR0.out xa n c (cellsR l) rfl (by rw [cellsR_length, HL.out]) HRL.out (cellsR_one l) (by unfold maxLen; omega) (by omega) ?_; intro va1 vc1 w1 G2 h1 h2; rw [Nat.zero_add, List.nil_append] at h1; rw [Nat.zero_add]; have HR1 := Lib.hid (h1.alloc (.cells #[.int .i64 77, .int .u16 0, .int .i64 78, .int .u16 0] 43) 0); have HA1 := Lib.hid ((HA0.out.trans h2).alloc (.cells #[.int .i64 77, .int .u16 0, .int .i64 78, .int .u16 0] 43) 0); have HRN := Lib.hid (Reads.new w1 [.int .i64 77, .int .u16 0, .int .i64 78, .int .u16 0] 43); clear h1 h2)
    | (at_builtin; refine wpList_append_reads rfl (.tmp 5) (.tmp 8) 36 rfl 43 i0 (.agg #[.int .i64 0, .int .u16 0]) 2 16 Try.underlying36 hi hz0 hz1 hz2 rfl (by decide) (own1 w1 G2 0) 1 va1 n vc1 (cellsR l) rfl HR1.out (some ⟨w1.heap.size, 0, none⟩) 2 2 [.int .i64 77, .int .u16 0, .int .i64 78, .int .u16 0] rfl rfl HRN.out (cellsR_one [(77, 0), (78, 0)]) (by unfold maxLen; omega) (by omega) ?_; intro va2 vc2 w2 G3 h1 h2; obtain ⟨g, eg, hc1, hc2⟩ := h1.addr (by omega); rw [eg]; rw [eg] at h1; have HR2 := Lib.hid h1; have HA2 := Lib.hid (HA1.out.trans h2); clear h1 h2 eg))
  go_ret
  exact ⟨g, vc2, _, rfl, HA2.out.relabel (H := G) (fun _ _ => by omega) (fun _ hb => named_old hb), by rw [cellsR_append]; exact HR2.out.named HA2.out⟩

theorem Row.takeU {w : World} {G : Nat → Nat} {i : Nat} {a : Option Addr} {n c : Nat} {l : List Int} (h : Row 32 1 w G i (.slice a n c) n (cellsU l)) (k : Nat) : Reads w a (cellsU (l.take k)) := h.reads.takeU k
theorem whole_facts {n c : Nat} (h : n + 2 ≤ c) (hc : c ≤ 9223372036854775807) : IntKind.i64.wrap ((n : Int) + 2) = (n : Int) + 2 ∧ (0 : Int) ≤ (n : Int) + 2 ∧ (n : Int) + 2 ≤ (c : Int) ∧ ((n : Int) + 2).toNat = n + 2 :=
  ⟨IntWalk.i64_in _ (by omega), by omega, by omega, by omega⟩
set_option maxHeartbeats 1000000 in
theorem whole_any (G : Nat → Nat) (i j : Nat) (g n cap : Nat) (la : Option Addr) (lc : Nat) (l : List Int) (g2 k cap2 : Nat) (ma : Option Addr) (mc : Nat) (m : List (Int × Int)) (w : World)
    (hl : l.length = n) (hn : n ≤ 70368744175616) (hm : m.length = k) (hk : k ≤ 8796093021952) (hr1 : Row 32 1 w G i (.slice (some ⟨g, 0, none⟩) (n + 2) cap) (n + 2) (cellsU (l ++ [7777, 7778])))
    (hr2 : Row 43 2 w G j (.slice (some ⟨g2, 0, none⟩) (k + 2) cap2) (k + 2) (cellsR (m ++ [(77, 0), (78, 0)]))) (hx : Reads w la (cellsU l)) (hy : Reads w ma (cellsR m)) :
    Calls Try.prog 46 #[.slice (some ⟨g, 0, none⟩) n cap, .slice la n lc, .slice (some ⟨g2, 0, none⟩) k cap2, .slice ma k mc] w fun e w' => e = .returned (.bool true) ∧ ∃ q, w' = w.drewN q := by
  obtain ⟨_, eg1, hc1, hc2⟩ := hr1.addr (by omega)
  obtain ⟨_, eg2, hd1, hd2⟩ := hr2.addr (by omega)
  clear eg1 eg2
  have hrl : Reads w (some ⟨g, 0, none⟩) (cellsU l) := by have h := hr1.takeU n; rwa [← hl, List.take_left] at h
  have hrm : Reads w (some ⟨g2, 0, none⟩) (cellsR m) := by have h := hr2.reads.takeR k; rwa [← hm, List.take_left] at h
  have c1 := (hr1.at (by omega)).2.2.2 n (.int .u16 7777) (cellsU_at _ _ _ (by rw [← hl]; simp))
  have c2 := (hr1.at (by omega)).2.2.2 (n + 1) (.int .u16 7778) (cellsU_at _ _ _ (by rw [← hl]; simp))
  have e1 := (hr2.at (by omega)).2.2.2 (k * 2) (.int .i64 77) (cellsR_fst _ k (77, 0) (by rw [← hm]; simp)).1
  have e2 := (hr2.at (by omega)).2.2.2 ((k + 1) * 2) (.int .i64 78) (cellsR_fst _ (k + 1) (78, 0) (by rw [← hm]; simp)).1
  obtain ⟨f1, f2, f3, f4⟩ := whole_facts hc1 hc2
  obtain ⟨f5, f6, f7, f8⟩ := whole_facts hd1 hd2
  have HL := Lib.hid hl
  have HM := Lib.hid hm
  have HRL := Lib.hid hrl
  have HRM := Lib.hid hrm
  have HX := Lib.hid hx
  have HY := Lib.hid hy
  clear hl hm hrl hrm hx hy hr1 hr2 f1 f4 f5 f8
  go_enter Try.func46, Try.ntmps46
  go_wp2_with fail
  refine (sameU_any _ _ n cap n lc l l _ HL.out HL.out (by omega) (by omega) HRL.out HX.out).mono ?_
  rintro e w' ⟨rfl, q1, rfl⟩
  rw [decide_eq_true rfl]
  go_wp2_with fail
  refine (sameR_any _ _ k cap2 k mc m m _ HM.out HM.out (by omega) (by omega) (HRM.out.adv (G := G) (S := fun _ => False) ((Adv.refl _ w G).drewN _) (fun _ _ => id)) (HY.out.adv (G := G) (S := fun _ => False) ((Adv.refl _ w G).drewN _) (fun _ _ => id))).mono ?_
  rintro e w' ⟨rfl, q2, rfl⟩
  rw [decide_eq_true rfl]
  go_wp2_with fail
  obtain ⟨f1, _, _, f4⟩ := whole_facts hc1 hc2
  obtain ⟨f5, _, _, f8⟩ := whole_facts hd1 hd2
  go_quiet (fail)
  clear f1 f4 f5 f8
  go_wp2
  go_ret
  exact ⟨rfl, q1 + q2 + nq, by simp⟩
end Go.Proofs.Ytgpimonjdhbdmaa
