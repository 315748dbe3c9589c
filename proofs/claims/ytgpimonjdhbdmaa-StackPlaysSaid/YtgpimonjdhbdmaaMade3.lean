/- Both stacks made anew. -/
import Derived.Test.YtgpimonjdhbdmaaMade2
namespace Go.Proofs.Ytgpimonjdhbdmaa
open Go.RowKit

/-- made's prelude: up to the loops. -/
theorem Out.made {G0 : Nat → Nat} {w w1 w2 : World} {H H2 : Nat → Nat} {b : Bool} {l : List Int} {m : List (Int × Int)} {s9 s10 s11 : Value} {g n cap g2 k cap2 : Nat} (h1 : Adv (fun i => 7 ≤ i) w G0 w1 H) (h2 : Adv (fun _ => False) w1 H w2 H2)
    (h3 : RowA 32 1 w1 H 7 g (n + 2) cap) (h4 : RowA 43 2 w1 H 8 g2 (k + 2) cap2) (h5 : Out b l m s9 s10 s11 w2 H2) : Mid w G0 g n cap g2 k cap2 b l m s9 s10 s11 w2 :=
  ⟨H2, h1.trans (h2.mono fun _ h => h.elim), h3.adv h2 id, h4.adv h2 id, h5⟩
theorem Mid.drewN {w : World} {G0 : Nat → Nat} {g n cap g2 k cap2 : Nat} {b : Bool} {l : List Int} {m : List (Int × Int)} {s9 s10 s11 : Value} {wx : World} (h : Mid w G0 g n cap g2 k cap2 b l m s9 s10 s11 wx) (d : Nat) : Mid w G0 g n cap g2 k cap2 b l m s9 s10 s11 (wx.drewN d) := by
  obtain ⟨H, ha, h1, h2, h3⟩ := h
  have hd := (Adv.refl (fun _ => False) wx H).drewN d
  exact ⟨H, ha.drewN d, h1.adv hd id, h2.adv hd id, h3.adv hd id id⟩

/-- What made is called with. -/
structure MadeArgs (w : World) (G G0 : Nat → Nat) (P D R E Q : Nat) (gv gr : Value) (la : Option Addr) (n : Nat) (l : List Int) (ma : Option Addr) (k : Nat) (m : List (Int × Int)) : Prop where
  pair : PairS w G P D R E Q gv gr
  hl : l.length = n
  hn : n ≤ 70368744175616
  hm : m.length = k
  hk : k ≤ 8796093021952
  hx : Reads w la (cellsU l)
  hy : Reads w ma (cellsR m)
  xo : l ≠ [] → ∀ ad, la = some ad → G ad.block ≠ 5
  yo : m ≠ [] → ∀ ad, ma = some ad → G ad.block ≠ 5
  hG : G0 = fun b => if b = P then 5 else 0
theorem MadeArgs.x0 {w : World} {G G0 : Nat → Nat} {P D R E Q : Nat} {gv gr : Value} {la : Option Addr} {n : Nat} {l : List Int} {ma : Option Addr} {k : Nat} {m : List (Int × Int)} (h : MadeArgs w G G0 P D R E Q gv gr la n l ma k m) (hne : l ≠ []) {ad : Addr} (e : la = some ad) : G0 ad.block = 0 := by
  rw [h.hG]; exact if_neg fun x => h.xo hne ad e (by rw [x]; exact h.pair.own)
theorem MadeArgs.y0 {w : World} {G G0 : Nat → Nat} {P D R E Q : Nat} {gv gr : Value} {la : Option Addr} {n : Nat} {l : List Int} {ma : Option Addr} {k : Nat} {m : List (Int × Int)} (h : MadeArgs w G G0 P D R E Q gv gr la n l ma k m) (hne : m ≠ []) {ad : Addr} (e : ma = some ad) : G0 ad.block = 0 := by
  rw [h.hG]; exact if_neg fun x => h.yo hne ad e (by rw [x]; exact h.pair.own)
theorem MadeArgs.xr {w w' : World} {H : Nat → Nat} {S : Nat → Prop} {G G0 : Nat → Nat} {P D R E Q : Nat} {gv gr : Value} {la : Option Addr} {n : Nat} {l : List Int} {ma : Option Addr} {k : Nat} {m : List (Int × Int)} (h : MadeArgs w G G0 P D R E Q gv gr la n l ma k m) (ha : Adv S w G0 w' H) (h0 : ¬ S 0) : Reads w' la (cellsU l) := by
  by_cases hne : l = []
  · subst hne; exact .inl rfl
  · exact h.hx.adv ha fun _ e => by rw [h.x0 hne e]; exact h0
theorem MadeArgs.yr {w w' : World} {H : Nat → Nat} {S : Nat → Prop} {G G0 : Nat → Nat} {P D R E Q : Nat} {gv gr : Value} {la : Option Addr} {n : Nat} {l : List Int} {ma : Option Addr} {k : Nat} {m : List (Int × Int)} (h : MadeArgs w G G0 P D R E Q gv gr la n l ma k m) (ha : Adv S w G0 w' H) (h0 : ¬ S 0) : Reads w' ma (cellsR m) := by
  by_cases hne : m = []
  · subst hne; exact .inl rfl
  · exact h.hy.adv ha fun _ e => by rw [h.y0 hne e]; exact h0
theorem MadeArgs.pairL {w w' : World} {H : Nat → Nat} {G G0 : Nat → Nat} {P D R E Q : Nat} {gv gr : Value} {la : Option Addr} {n : Nat} {l : List Int} {ma : Option Addr} {k : Nat} {m : List (Int × Int)} (h : MadeArgs w G G0 P D R E Q gv gr la n l ma k m) (ha : Adv (fun i => 7 ≤ i) w G0 w' H) : PairS w' H P D R E Q gv gr := by
  have h1 : PairS w G0 P D R E Q gv gr := ⟨h.pair.head, by rw [h.hG]; exact if_pos rfl⟩
  exact h1.adv ha (by omega)
theorem MadeArgs.fin {w w' : World} {H : Nat → Nat} {S : Nat → Prop} {G G0 : Nat → Nat} {P D R E Q : Nat} {gv gr : Value} {la : Option Addr} {n : Nat} {l : List Int} {ma : Option Addr} {k : Nat} {m : List (Int × Int)} (h : MadeArgs w G G0 P D R E Q gv gr la n l ma k m) (ha : Adv S w G0 w' H) (h0 : ¬ S 0) : Adv (· = 5) w G w' (graft w G H) :=
  ha.graft fun b _ h5 => by rw [h.hG]; show ¬ S (if b = P then 5 else 0); rw [if_neg (fun e => h5 (by rw [e]; exact h.pair.own))]; exact h0
theorem MadeArgs.fin0 {w w' : World} {H : Nat → Nat} {S : Nat → Prop} {G G0 : Nat → Nat} {P D R E Q : Nat} {gv gr : Value} {la : Option Addr} {n : Nat} {l : List Int} {ma : Option Addr} {k : Nat} {m : List (Int × Int)} (h : MadeArgs w G G0 P D R E Q gv gr la n l ma k m) (ha : Adv S w G0 w' H) (h0 : ¬ S 0) (h5 : ¬ S 5) : Adv (fun _ => False) w G w' (graft w G H) :=
  ha.graft fun b _ _ => by rw [h.hG]; show ¬ S (if b = P then 5 else 0); split <;> assumption
theorem MadeArgs.no {w : World} {G G0 : Nat → Nat} {P D R E Q : Nat} {gv gr : Value} {la : Option Addr} {n : Nat} {l : List Int} {ma : Option Addr} {k : Nat} {m : List (Int × Int)} (h : MadeArgs w G G0 P D R E Q gv gr la n l ma k m) {i : Nat} (h0 : i ≠ 0) (h5 : i ≠ 5) : ∀ b, b < w.heap.size → G0 b ≠ i := by
  intro b _; rw [h.hG]; show (if b = P then 5 else 0) ≠ i; split <;> omega

/-- What it does. -/
def MadeOut (w : World) (G : Nat → Nat) (P : Nat) (gv gr : Value) (b : Bool) (l : List Int) (m : List (Int × Int)) (w' : World) : Prop :=
  ∃ G', (b = true ∧ Adv (· = 5) w G w' G' ∧ ∃ D' R' E' Q', PairS w' G' P D' R' E' Q' gv gr ∧ PU w' G' 1 D' l ∧ PR w' G' 2 R' m ∧ EU w' G' 3 E' l ∧ ER w' G' 4 Q' m) ∨
    (b = false ∧ Adv (fun _ => False) w G w' G')

noncomputable def madeTail : Code := (codeTail 14 (Try.f45.body.getD .skip)).getD .skip
end Go.Proofs.Ytgpimonjdhbdmaa
