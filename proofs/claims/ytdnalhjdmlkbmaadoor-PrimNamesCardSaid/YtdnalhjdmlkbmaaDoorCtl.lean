/- What the primitives of the return stack do on a desk. -/
import Derived.Test.YtdnalhjdmlkbmaaDoorDo
import Derived.Test.YtdnalhjdmlkbmaaDoorDoes
import Derived.Test.YtdnalhjdmlkbmaaDoorDesk
import Derived.Deep.RegionHeld3
import Derived.Deep.DeepCutAuto
namespace Go.Proofs.YtdnalhjdmlkbmaaDoor
open Go.RowKit

set_option maxRecDepth 100000 in
set_option maxHeartbeats 1000000 in
theorem doDo_any (G : Nat → Nat) (i j D K R : Nat) (M : Option Addr) (base : List Int) (a b : Int) (rl : List (Int × Int)) (hi : i ≠ 0) (hj : j ≠ 0) (hij : i ≠ j) (hroom : rl.length + 2 ≤ 128)
    (w : World) (hp : PU w G i D (base ++ [a, b])) (hr : PR w G j R rl) (hk : Desk w G K D R M) :
    Calls Tryd.prog 106 #[.pointer (some ⟨K, 0, none⟩)] w fun e w' => e = .returned (.tuple #[]) ∧ ∃ G', Adv (fun o => o = i ∨ o = j) w G w' G' ∧ PU w' G' i D base ∧ PR w' G' j R (rl ++ [(2, a), (3, b)]) := by
  have HP := Lib.hid hp
  have HR := Lib.hid hr
  have HK := Lib.hid hk
  clear hp hr hk
  go_enter Tryd.func106, Tryd.ntmps106
  go_wp2_with fail
  refine (taken_any G i D K R M base [a, b] 2 rfl (by decide) (by decide) hi _ HP.out HK.out).mono ?_
  rintro e w1 ⟨B, G1, rfl, ha1, hp1, hrow⟩
  have HK1 := HK.out.adv ha1 (Ne.symm hi)
  have HR1 := Lib.hid (HR.out.adv ha1 (Ne.symm hij))
  have cR := HK1.r
  have c0 := (hrow.at (by decide)).2.2.2 0 _ rfl
  have c1 := (hrow.at (by decide)).2.2.2 1 _ rfl
  have gB := (hrow.at (by decide)).2.1
  have gK := HK1.2
  have hkk : ∀ (S : Nat → Prop) (w' : World) (G' : Nat → Nat), ¬ S 0 → Adv S w1 G1 w' G' → w'.cell? ⟨K, 1, none⟩ = some (.pointer (some ⟨R, 0, none⟩)) ∧ w'.cell? ⟨B, 0, none⟩ = some (.int .u16 a) ∧ w'.cell? ⟨B, 1, none⟩ = some (.int .u16 b) := fun S w' G' hs h =>
    ⟨h.cell_some (p := ⟨K, 1, none⟩) cR (by show ¬ S (G1 K); rw [gK]; exact hs), h.cell_some (p := ⟨B, 0, none⟩) c0 (by show ¬ S (G1 B); rw [gB]; exact hs), h.cell_some (p := ⟨B, 1, none⟩) c1 (by show ¬ S (G1 B); rw [gB]; exact hs)⟩
  have HKK := Lib.hid hkk
  have HA1 := Lib.hid ha1
  have HP1 := Lib.hid hp1
  clear ha1 hp1 HK1 hrow gB gK hkk
  go_upto_region 1 with fail
  go_region_held3 (fun w' => w'.cell? ⟨K, 1, none⟩ = some (.pointer (some ⟨R, 0, none⟩)) ∧ w'.cell? ⟨B, 0, none⟩ = some (.int .u16 a) ∧ w'.cell? ⟨B, 1, none⟩ = some (.int .u16 b)) (first | exact ⟨cR, c0, c1⟩ | exact HKK.out (fun _ => False) _ _ id ((Adv.refl _ w1 G1).alloc _ 0).drew | exact KR.out)
    ((go_at_call 76; refine (pushPR (own1 w1 G1 0) j R rl [(2, a), (3, b)] _ 2 2 _ (HR1.out.alloc _ 0).drew rfl hroom (Reads.new _ (cellsR [(2, a), (3, b)]) 59)).mono ?_; rintro e w2 ⟨rfl, G2, ha2, hr2⟩; have HA2 := Lib.hid (((Adv.refl (fun o => o = j) w1 G1).alloc _ 0).drew.trans ha2); have KR := Lib.hid (HKK.out (fun o => o = j) _ _ (Ne.symm hj) HA2.out); have HR2 := Lib.hid hr2; clear ha2 hr2))
  go_wp2_with fail
  go_end0
  exact ⟨rfl, G2, (HA1.out.mono fun _ h => .inl h).trans (HA2.out.mono fun _ h => .inr h), HP1.out.adv HA2.out hij, HR2.out⟩
set_option maxRecDepth 100000 in
set_option maxHeartbeats 1000000 in
theorem sees_any (G : Nat → Nat) (i j D K R : Nat) (M : Option Addr) (l : List Int) (rl : List (Int × Int)) (n kind : Int) (hroom : l.length + 1 ≤ 256) (hrl : rl.length ≤ 128)
    (w : World) (hp : PU w G i D l) (hr : PR w G j R rl) (hk : Desk w G K D R M) :
    Calls Tryd.prog 125 #[.pointer (some ⟨K, 0, none⟩), .int .i64 n, .int .i64 kind] w fun e w' => e = .returned (.tuple #[]) ∧ ∃ G', Adv (fun o => o = i) w G w' G' ∧ PU w' G' i D (l ++ [atV rl n kind]) := by
  have HP := Lib.hid hp
  have cR := hk.r
  have cD := hk.d
  have HR := Lib.hid hr
  clear hp hr
  go_enter Tryd.func125, Tryd.ntmps125
  go_wp2_with fail
  refine (atPR G j R rl n kind _ HR.out (by omega)).mono ?_
  rintro e w1 ⟨rfl, d, rfl⟩
  have HA := Lib.hid (((Adv.refl (fun o => o = i) w G).drewN d).alloc (.cells #[.int .u16 (atV rl n kind)] 41) 0)
  have HPd := Lib.hid ((HP.out.drewN d).alloc (.cells #[.int .u16 (atV rl n kind)] 41) 0)
  go_wp2_with fail
  refine (pushPU (own1 (w.drewN d) G 0) i D l [atV rl n kind] _ 1 1 _ HPd.out rfl hroom (Reads.new (w.drewN d) (cellsU [atV rl n kind]) 41)).mono ?_
  rintro e w2 ⟨rfl, G2, ha2, hp2⟩
  have HF := Lib.hid (And.intro (HA.out.trans ha2) hp2)
  clear ha2 hp2
  go_wp2_with fail
  go_end0
  exact ⟨rfl, G2, HF.out.1, HF.out.2⟩
theorem doIndex_any (G : Nat → Nat) (i j D K R : Nat) (M : Option Addr) (l : List Int) (rl : List (Int × Int)) (hroom : l.length + 1 ≤ 256) (hrl : rl.length ≤ 128)
    (w : World) (hp : PU w G i D l) (hr : PR w G j R rl) (hk : Desk w G K D R M) :
    Calls Tryd.prog 115 #[.pointer (some ⟨K, 0, none⟩)] w fun e w' => e = .returned (.tuple #[]) ∧ ∃ G', Adv (fun o => o = i) w G w' G' ∧ PU w' G' i D (l ++ [atV rl 0 3]) := by
  have HP := Lib.hid hp
  have HR := Lib.hid hr
  have HK := Lib.hid hk
  clear hp hr hk
  go_enter Tryd.func115, Tryd.ntmps115
  go_wp2_with fail
  refine (sees_any G i j D K R M l rl 0 3 hroom hrl _ HP.out HR.out HK.out).mono ?_
  rintro e w2 ⟨rfl, G2, ha2, hp2⟩
  have HF := Lib.hid (And.intro ha2 hp2)
  clear ha2 hp2
  go_wp2_with fail
  go_end0
  exact ⟨rfl, G2, HF.out.1, HF.out.2⟩
end Go.Proofs.YtdnalhjdmlkbmaaDoor
