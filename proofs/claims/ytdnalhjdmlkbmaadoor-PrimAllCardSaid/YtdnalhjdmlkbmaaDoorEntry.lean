/- entryOf, looks, adds. -/
import Derived.Test.YtdnalhjdmlkbmaaDoorDoes
import Derived.Test.YtdnalhjdmlkbmaaDoorOf
import Derived.Laws.EntriesVeiled
namespace Go.Proofs.YtdnalhjdmlkbmaaDoor
open Go.RowKit

/-- An entry. -/
def entryV (k : Nat) (v : Value) : Value := .agg #[.int .i64 k, .string (nameB k), .int .i64 (takesN k), .int .i64 (leavesN k), .int .i64 (costsN k), .bool (operandB k), v]
/-- What holds of a closure's captured values stays, whatever others do. -/
def Keeps (Cl : World → (Nat → Nat) → Array Value → Prop) : Prop := ∀ (S : Nat → Prop) (w w' : World) (G G' : Nat → Nat) (c : Array Value), Cl w G c → Adv S w G w' G' → ¬ S 0 → Cl w' G' c
/-- What does hands back for a number. -/
def DoesIs (k f : Nat) (Cl : World → (Nat → Nat) → Array Value → Prop) : Prop :=
  ∀ (G : Nat → Nat) (w : World), Calls Tryd.prog 79 #[.int .i64 k] w fun e w' => ∃ c G', e = .returned (.func (.func f) #[] c) ∧ Adv (fun _ => False) w G w' G' ∧ Cl w' G' c
set_option maxRecDepth 100000 in
set_option maxHeartbeats 400000 in
theorem entry_any (G : Nat → Nat) (k : Nat) (hk : k < 64) (f : Nat) (Cl : World → (Nat → Nat) → Array Value → Prop)
    (hd : DoesIs k f Cl) (hcl : Keeps Cl) (w : World) (ht : Tabs w G) :
    Calls Tryd.prog 54 #[.int .i64 k] w fun e w' => ∃ c G', e = .returned (entryV k (.func (.func f) #[] c)) ∧ Adv (fun _ => False) w G w' G' ∧ Cl w' G' c := by
  have hA0 := (Adv.refl (fun _ => False) w G).alloc (.cells #[.int .i64 0, .string ⟨#[]⟩, .int .i64 0, .int .i64 0, .int .i64 0, .bool false, .nilFunc] 117) 1000
  have HT := Lib.hid (ht.adv hA0 id)
  have HA0 := Lib.hid hA0
  have HC := Lib.hid hcl
  clear ht hcl hA0
  go_enter Tryd.func54, Tryd.ntmps54
  go_wp2_with fail
  refine (primOf_any _ k hk _ HT.out).mono ?_
  rintro e w1 ⟨rfl, G1, ha1⟩
  have HA1 := Lib.hid ha1
  clear ha1
  go_wp2_with fail
  refine (hd G1 _).mono ?_
  rintro e w2 ⟨c, G2, rfl, ha2, hc2⟩
  have ha := HA1.out.trans ha2
  have hc := (ha.keep w.heap.size (by simp) id).trans (heap_alloc_new w _)
  have c0 := block_cell hc 0 _ rfl
  have c1 := block_cell hc 1 _ rfl
  have c2 := block_cell hc 2 _ rfl
  have c3 := block_cell hc 3 _ rfl
  have c4 := block_cell hc 4 _ rfl
  have c5 := block_cell hc 5 _ rfl
  have c6 := block_cell hc 6 _ rfl
  have f0 := block_free hc
  have hs := HA0.out.trans ha
  have HS := Lib.hid hs
  have HC2 := Lib.hid hc2
  have hG : G2 w.heap.size = 1000 := (ha.own _ (by simp)).trans (own1_new _ _ _)
  have HG := Lib.hid hG
  clear ha hc hs ha2 hc2 hG
  unfold primV
  go_wp2
  refine bodyPost_ret (v := entryV k (.func (.func f) #[] c)) (by simp [results, Tryd.results54, go_sem, entryV, c0, c1, c2, c3, c4, c5, c6]) rfl ⟨c, G2, rfl, ?_, ?_⟩
  · exact ((((((HS.out.setNew (Nat.le_refl _) _).setNew (Nat.le_refl _) _).setNew (Nat.le_refl _) _).setNew (Nat.le_refl _) _).setNew (Nat.le_refl _) _).setNew (Nat.le_refl _) _).setNew (Nat.le_refl _) _
  · refine HC.out (fun i => i = 1000) w2 _ G2 G2 c HC2.out ?_ (by omega)
    exact (((((((Adv.refl (fun i => i = 1000) w2 G2).setCell HG.out _).setCell HG.out _).setCell HG.out _).setCell HG.out _).setCell HG.out _).setCell HG.out _).setCell HG.out _

/-- How many cells a primitive puts on the return stack. -/
def addsF (k : Int) : Int := if k = 55 then 1 else if k = 6 then 2 else 0
theorem adds_any (k : Int) (w : World) : Calls Tryd.prog 57 #[.int .i64 k] w fun e w' => e = .returned (.int .i64 (addsF k)) ∧ w = w' := by
  by_cases h1 : k = 55
  · subst h1
    go_enter Tryd.func57, Tryd.ntmps57
    go_wp2
    go_ret
    exact ⟨rfl, rfl⟩
  · by_cases h2 : k = 6
    · subst h2
      go_enter Tryd.func57, Tryd.ntmps57
      go_wp2
      go_ret
      exact ⟨rfl, rfl⟩
    · have e1 : (k == 55) = false := by simpa using h1
      have e2 : (k == 6) = false := by simpa using h2
      have HF := Lib.hid (show addsF k = 0 by simp [addsF, h1, h2])
      clear h1 h2
      go_enter Tryd.func57, Tryd.ntmps57
      go_wp2
      go_ret
      exact ⟨ret_int HF.out.symm, rfl⟩
/-- The fault of what a primitive looks at on the return stack. -/
def looksF (k : Int) (l : List (Int × Int)) : Int := if k = 56 ∨ k = 57 then atE l 0 4 else if k = 58 then atE l 0 3 else if k = 59 then atE l 2 3 else 0
theorem looks_any (G : Nat → Nat) (i R : Nat) (l : List (Int × Int)) (k : Int) (w : World) (hp : PR w G i R l) (hm : l.length ≤ 100000) :
    Calls Tryd.prog 56 #[.int .i64 k, .pointer (some ⟨R, 0, none⟩)] w fun e w' => e = .returned (.int .i64 (looksF k l)) ∧ ∃ d, w' = w.drewN d := by
  have at1 : ∀ (n : Int) (kind : Int) (w' : World), w = w' → Calls Tryd.prog 80 #[.pointer (some ⟨R, 0, none⟩), .int .i64 n, .int .i64 kind] w' fun e w' => e = .returned (.tuple #[.int .u16 (atV l n kind), .int .i64 (atE l n kind)]) ∧ ∃ d, w' = w.drewN d := by
    rintro n kind w' rfl
    exact atPR G i R l n kind w hp hm
  have AT := Lib.hid at1
  clear at1
  by_cases h1 : k = 56
  · subst h1
    go_enter Tryd.func56, Tryd.ntmps56
    go_wp2_with (go_at_call 80; refine (AT.out 0 4 _ rfl).mono ?_; rintro e w' ⟨rfl, d, rfl⟩)
    go_ret
    exact ⟨rfl, d, rfl⟩
  · by_cases h2 : k = 57
    · subst h2
      go_enter Tryd.func56, Tryd.ntmps56
      go_wp2_with (go_at_call 80; refine (AT.out 0 4 _ rfl).mono ?_; rintro e w' ⟨rfl, d, rfl⟩)
      go_ret
      exact ⟨rfl, d, rfl⟩
    · by_cases h3 : k = 58
      · subst h3
        go_enter Tryd.func56, Tryd.ntmps56
        go_wp2_with (go_at_call 80; refine (AT.out 0 3 _ rfl).mono ?_; rintro e w' ⟨rfl, d, rfl⟩)
        go_ret
        exact ⟨rfl, d, rfl⟩
      · by_cases h4 : k = 59
        · subst h4
          go_enter Tryd.func56, Tryd.ntmps56
          go_wp2_with (go_at_call 80; refine (AT.out 2 3 _ rfl).mono ?_; rintro e w' ⟨rfl, d, rfl⟩)
          go_ret
          exact ⟨rfl, d, rfl⟩
        · have e1 : (k == 56) = false := by simpa using h1
          have e2 : (k == 57) = false := by simpa using h2
          have e3 : (k == 58) = false := by simpa using h3
          have e4 : (k == 59) = false := by simpa using h4
          have HF := Lib.hid (show looksF k l = 0 by simp [looksF, h1, h2, h3, h4])
          clear h1 h2 h3 h4
          go_enter Tryd.func56, Tryd.ntmps56
          go_wp2
          go_ret
          exact ⟨ret_int HF.out.symm, 0, rfl⟩
end Go.Proofs.YtdnalhjdmlkbmaaDoor
