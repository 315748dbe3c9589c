/- Words and laws of no program: who owns a block, what a call may have changed, a stack of cells behind a pointer; The program's tables, and what a world knows of them; What the rows' condition gives the walks: the four tables lie; and the door's own heap meets it; The arithmetic of cells; wispref01's answers are num's: the plain law; num.Unary and num.Binary at their numbers; wispref01: numbers; wispref01.bits; wispref01: divides, Unary, Binary. -/
import Derived.WalkKit
import Derived.WalkSpells
import Derived.WalkLawsBesides
import Derived.Lib.Hide
import Derived.Test.YtdnalhjdmlkbmaaGreatDoorProg
import Derived.Outline
import Derived.StillTailTactics
import Derived.Deep.QuietTactic
import Derived.BigQuiet
import Derived.Test.YtdnalhjdmlkbmaaGreatDoorRows
import Derived.ProofKit
import Derived.LaidMore
import Derived.MakeChecks
import Derived.FnData
import Derived.OpenShut
set_option linter.unusedVariables false
set_option linter.unusedSimpArgs false
set_option linter.unnecessarySimpa false
namespace Go.Proofs.YtdnalhjdmlkbmaaGreatDoor
open Go.RowKit

/-- What is left of a code from a region on. -/
def codeTail (id : Nat) : Code → Option Code
  | .seq a b => match codeTail id a with
    | some c => some (.seq c b)
    | none => codeTail id b
  | .region i ops d => if i = id then some (.region i ops d) else none
  | _ => none

/-- What is left of a code behind a region. -/
def codeAfter (id : Nat) : Code → Option (Option Code)
  | .seq a b => match codeAfter id a with
    | some none => some (some b)
    | some (some c) => some (some (.seq c b))
    | none => codeAfter id b
  | .region i _ _ => if i = id then some none else none
  | _ => none

/-- What is read of a block that is known. -/
theorem block_cell {w : World} {b : Nat} {C : Array Value} {T : TypeId} (h : w.heap[b]? = some (.cells C T (0, 0))) (j : Nat) (v : Value) (hv : C[j]? = some v) : w.cell? ⟨b, j, none⟩ = some v := by
  simp [World.cell?, h, hv]
theorem block_free {w : World} {b : Nat} {C : Array Value} {T : TypeId} (h : w.heap[b]? = some (.cells C T (0, 0))) (j : Nat) : w.frozen? ⟨b, j, none⟩ = false := by
  simp [World.frozen?, h]
/-- A new block's number may be spelled otherwise. -/
theorem heap_at (w : World) (o : Obj) (b : Nat) (h : b = w.heap.size) : (w.alloc o).heap[b]? = some o := by subst h; exact heap_alloc_new w o
theorem heap_past (w : World) (o : Obj) (b : Nat) (h : b < w.heap.size) : (w.alloc o).heap[b]? = w.heap[b]? := Below.heap_alloc w o b h
/-- 'G b' tells who owns block b. 'Adv S w G w' G'': from w to w' only blocks whose owner is in S may have changed; old blocks keep their owner. -/
structure Adv (S : Nat → Prop) (w : World) (G : Nat → Nat) (w' : World) (G' : Nat → Nat) : Prop where
  os : w'.os = w.os
  tape : w'.tape = w.tape
  output : w'.output = w.output
  size : w.heap.size ≤ w'.heap.size
  own : ∀ b, b < w.heap.size → G' b = G b
  keep : ∀ b, b < w.heap.size → ¬ S (G b) → w'.heap[b]? = w.heap[b]?

theorem Adv.refl (S : Nat → Prop) (w : World) (G : Nat → Nat) : Adv S w G w G := ⟨rfl, rfl, rfl, Nat.le_refl _, fun _ _ => rfl, fun _ _ _ => rfl⟩
theorem Adv.trans {S : Nat → Prop} {a b c : World} {G H K : Nat → Nat} (h : Adv S a G b H) (k : Adv S b H c K) : Adv S a G c K :=
  ⟨k.os.trans h.os, k.tape.trans h.tape, k.output.trans h.output, Nat.le_trans h.size k.size, fun i hi => (k.own i (Nat.lt_of_lt_of_le hi h.size)).trans (h.own i hi),
    fun i hi hs => (k.keep i (Nat.lt_of_lt_of_le hi h.size) (by rw [h.own i hi]; exact hs)).trans (h.keep i hi hs)⟩
theorem Adv.mono {S T : Nat → Prop} {w w' : World} {G G' : Nat → Nat} (h : Adv S w G w' G') (hs : ∀ i, S i → T i) : Adv T w G w' G' :=
  ⟨h.os, h.tape, h.output, h.size, h.own, fun b hb ht => h.keep b hb (fun x => ht (hs _ x))⟩
theorem Adv.drew {S : Nat → Prop} {w w' : World} {G G' : Nat → Nat} (h : Adv S w G w' G') : Adv S w G w'.drew G' := ⟨h.os, h.tape, h.output, h.size, h.own, h.keep⟩
theorem Adv.drewN {S : Nat → Prop} {w w' : World} {G G' : Nat → Nat} (h : Adv S w G w' G') (n : Nat) : Adv S w G (w'.drewN n) G' := by
  induction n with
  | zero => exact h
  | succ n ih => exact ⟨h.os, h.tape, h.output, h.size, h.own, h.keep⟩
/-- The owners behind one new block, which is given to i. -/
def own1 (w : World) (G : Nat → Nat) (i : Nat) : Nat → Nat := fun b => if b = w.heap.size then i else G b
theorem own1_new (w : World) (G : Nat → Nat) (i : Nat) : own1 w G i w.heap.size = i := if_pos rfl
theorem own1_old {w : World} {G : Nat → Nat} {i b : Nat} (h : b < w.heap.size) : own1 w G i b = G b := if_neg (by omega)
/-- A new block; it may be given to whomever. -/
theorem Adv.alloc {S : Nat → Prop} {w w' : World} {G G' : Nat → Nat} (h : Adv S w G w' G') (o : Obj) (i : Nat) : Adv S w G (w'.alloc o) (own1 w' G' i) := by
  refine ⟨h.os, h.tape, h.output, by have := h.size; simp; omega, fun b hb => ?_, fun b hb hs => ?_⟩
  · have := h.size
    rw [own1_old (by omega)]; exact h.own b hb
  · rw [Below.heap_alloc _ _ _ (by have := h.size; omega)]; exact h.keep b hb hs
theorem Adv.setCell {S : Nat → Prop} {w w' : World} {G G' : Nat → Nat} (h : Adv S w G w' G') {p : Addr} (hp : S (G' p.block)) (u : Value) : Adv S w G (w'.setCell p u) G' := by
  refine ⟨h.os, h.tape, h.output, by have := h.size; simpa [World.setCell] using this, h.own, fun b hb hs => ?_⟩
  rw [Below.heap_setCell _ _ _ _ (by rintro rfl; exact hs (by rw [← h.own _ hb]; exact hp))]
  exact h.keep b hb hs
/-- A cell of a block that was made since. -/
theorem Adv.setNew {S : Nat → Prop} {w w' : World} {G G' : Nat → Nat} (h : Adv S w G w' G') {p : Addr} (hp : w.heap.size ≤ p.block) (u : Value) : Adv S w G (w'.setCell p u) G' := by
  refine ⟨h.os, h.tape, h.output, by have := h.size; simpa [World.setCell] using this, h.own, fun b hb hs => ?_⟩
  rw [Below.heap_setCell _ _ _ _ (by rintro rfl; omega)]
  exact h.keep b hb hs
theorem Adv.cell {S : Nat → Prop} {w w' : World} {G G' : Nat → Nat} (h : Adv S w G w' G') {p : Addr} (hp : p.block < w.heap.size) (hs : ¬ S (G p.block)) : w'.cell? p = w.cell? p :=
  World.cell?_of_block (h.keep p.block hp hs)
theorem Adv.cell_some {S : Nat → Prop} {w w' : World} {G G' : Nat → Nat} (h : Adv S w G w' G') {p : Addr} {v : Value} (hv : w.cell? p = some v) (hs : ¬ S (G p.block)) : w'.cell? p = some v :=
  (h.cell (World.block_lt_of_cell? w p hv) hs).trans hv
theorem Adv.below {S : Nat → Prop} {w w' : World} {G G' : Nat → Nat} (h : Adv S w G w' G') {B : Nat} (hB : B ≤ w.heap.size) (hG : ∀ b, b < B → ¬ S (G b)) : Below B w w' :=
  ⟨h.os, h.tape, h.output, h.size, fun k hk => h.keep k (Nat.lt_of_lt_of_le hk hB) (hG k hk)⟩

/-- What an owned row is, with its block's owner. -/
def Value.ownedBy (G : Nat → Nat) (i : Nat) (v : Value) : Prop := ∀ b, v.ownBlock = some b → G b = i

/-- A stack of cells behind a pointer: block D holds one cell, a slice; the slice owns its cells. -/
structure Pile (e T size : Nat) (w : World) (G : Nat → Nat) (i D : Nat) (v : Value) (n : Nat) (xs : List Value) : Prop where
  head : w.heap[D]? = some (.cells #[v] T (0, 0))
  hown : G D = i
  row : w.ownsRow 0 e size v n xs
  rown : Value.ownedBy G i v
  ne : v.ownBlock ≠ some D

theorem Pile.lt {e T size : Nat} {w : World} {G : Nat → Nat} {i D : Nat} {v : Value} {n : Nat} {xs : List Value} (h : Pile e T size w G i D v n xs) : D < w.heap.size := (Array.getElem?_eq_some_iff.1 h.head).1
theorem Pile.cell {e T size : Nat} {w : World} {G : Nat → Nat} {i D : Nat} {v : Value} {n : Nat} {xs : List Value} (h : Pile e T size w G i D v n xs) : w.cell? ⟨D, 0, none⟩ = some v := by
  have := h.head
  simp [World.cell?, this]
theorem Pile.frozen {e T size : Nat} {w : World} {G : Nat → Nat} {i D : Nat} {v : Value} {n : Nat} {xs : List Value} (h : Pile e T size w G i D v n xs) : w.frozen? ⟨D, 0, none⟩ = false := by
  have := h.head
  simp [World.frozen?, this]
theorem ownsRow_of_block {w w' : World} {base e size : Nat} {v : Value} {n : Nat} {xs : List Value} (h : w.ownsRow base e size v n xs) (hb : ∀ b, v.ownBlock = some b → w'.heap[b]? = w.heap[b]?) : w'.ownsRow base e size v n xs := by
  refine ⟨h.1, ?_⟩
  rcases h.2 with hn | ⟨g, cap, cur, rfl, hbg, hg, rest⟩
  · exact .inl hn
  · exact .inr ⟨g, cap, cur, rfl, hbg, by rw [hb g rfl]; exact hg, rest⟩
/-- What another has done leaves a pile as it was. -/
theorem Pile.adv {e T size : Nat} {w w' : World} {G G' : Nat → Nat} {i D : Nat} {v : Value} {n : Nat} {xs : List Value} {S : Nat → Prop} (h : Pile e T size w G i D v n xs) (ha : Adv S w G w' G') (hs : ¬ S i) : Pile e T size w' G' i D v n xs := by
  have hl := h.lt
  have hb : ∀ b, v.ownBlock = some b → b < w.heap.size := fun b e => (h.row.lt b e).2
  refine ⟨?_, ?_, ?_, ?_, h.ne⟩
  · rw [ha.keep D hl (by rw [h.hown]; exact hs)]; exact h.head
  · rw [ha.own D hl]; exact h.hown
  · exact ownsRow_of_block h.row fun b e => ha.keep b (hb b e) (by rw [h.rown b e]; exact hs)
  · intro b e; rw [ha.own b (hb b e)]; exact h.rown b e
theorem Pile.alloc {e T size : Nat} {w : World} {G : Nat → Nat} {i D : Nat} {v : Value} {n : Nat} {xs : List Value} (h : Pile e T size w G i D v n xs) (o : Obj) (k : Nat) : Pile e T size (w.alloc o) (own1 w G k) i D v n xs :=
  h.adv (S := fun _ => False) ((Adv.refl _ w G).alloc o k) id
theorem Pile.nlen {e T size : Nat} {w : World} {G : Nat → Nat} {i D : Nat} {v : Value} {n : Nat} {xs : List Value} (h : Pile e T size w G i D v n xs) : xs.length = n * size := h.row.1

/-- append's result lies where the row lay, or in the newest block. -/
theorem run_append_own2 {P : Program} (w : World) (t ty e : TypeId) (i : TypeInfo) (z : Value) (size bytes : Nat) (ht : P.underlying t = some (.slice e)) (hi : P.info? e = some i) (hz : i.zero = some z)
    (hsize : i.size = size) (hby : i.bytes = bytes) (hzs : z.cells.size = size) (hsz : 0 < size)
    (v : Value) (n : Nat) (xs : List Value) (hown : w.ownsRow 0 e size v n xs)
    (a : Addr) (m c : Nat) (news : List Value) (hl : news.length = m * size) (hnews : ∀ j u, news[j]? = some u → w.cell? (a.add j) = some u) (h1 : ∀ u ∈ news, u.oneCell' = true)
    (h63 : n + m ≤ maxLen) (hbytes : (n + m) * bytes ≤ 140737488355328) :
    ∃ v' w', (Builtin.append_ #[t, t] ty #[v, .slice (some a) m c]).run P w = .ok v' w' ∧ w'.ownsRow 0 e size v' (n + m) (xs ++ news) ∧ w.grownBy w' v.ownBlock ∧
      (v' = .slice none 0 0 ↔ v = .slice none 0 0 ∧ m = 0) ∧ (v'.ownBlock = v.ownBlock ∨ v'.ownBlock = some w.heap.size) := by
  obtain ⟨v', w', hr, h2, h3, h4⟩ := run_append_own (P := P) w 0 t ty e i z size bytes ht hi hz hsize hby hzs hsz v n xs hown a m c news hl hnews h1 h63 hbytes (Nat.zero_le _)
  refine ⟨v', w', hr, h2, h3, h4, ?_⟩
  subst hsize
  subst hby
  have hsmall : n + m ≤ 9223372036854775807 := by simp only [maxLen] at h63; omega
  rcases hown.2 with ⟨rfl, rfl⟩ | ⟨g, cap, cur, rfl, hbg, hg, hnc, hcm, hcs, htake⟩
  · by_cases hm : m = 0
    · subst hm
      rw [h4.2 ⟨rfl, rfl⟩]; exact .inl rfl
    · have hr' := run_append_nil (P := P) w t ty e i z ht hi hz a m c news hl hnews (by omega) (by omega) (by have hb := hbytes; simp only [Nat.zero_add] at hb; omega)
      rw [hr] at hr'
      simp only [Result.ok.injEq] at hr'
      rw [hr'.1]; exact .inr rfl
  · by_cases hroom : n + m ≤ cap
    · have hfit : n * i.size + news.length ≤ cur.size := by rw [hl, hcs, ← Nat.add_mul]; exact Nat.mul_le_mul_right _ hroom
      have hr' := run_append_room (P := P) w t ty e i ht hi g n cap cur hg a m c news hl hnews h1 hroom hfit
      rw [hr] at hr'
      simp only [Result.ok.injEq] at hr'
      rw [hr'.1]; exact .inl rfl
    · have holds : ∀ j u, xs[j]? = some u → w.cell? ((⟨g, 0, none⟩ : Addr).add j) = some u := hown.cells (g := g) rfl
      have hr' := run_append_grow (P := P) w t ty e i z ht hi hz ⟨g, 0, none⟩ n cap xs hown.1 holds a m c news hl hnews (by omega) (by omega) (growslice_fits (by omega) hbytes)
      rw [hr] at hr'
      simp only [Result.ok.injEq] at hr'
      rw [hr'.1]; exact .inr rfl

theorem wpList_append_own2 {P : Program} {w : World} {ops : Array Oper} {rest : List Oper} {o : Oper} {a : Act} {Q : Exit → Act → World → Prop} (hgd : o.guard = none) (s x : Operand) (t : TypeId)
    (ho : o.op = .call { callee := .builtin .append, args := #[s, x], argTypes := #[t, t] })
    (e : TypeId) (i : TypeInfo) (z : Value) (size bytes : Nat) (ht : P.underlying t = some (.slice e)) (hi : P.info? e = some i) (hz : i.zero = some z)
    (hsize : i.size = size) (hby : i.bytes = bytes) (hzs : z.cells.size = size) (hsz : 0 < size)
    (va : Option Addr) (n vc : Nat) (xs : List Value) (hs : a.eval s = .slice va n vc) (hown : w.ownsRow 0 e size (.slice va n vc) n xs)
    (ad : Addr) (m c : Nat) (news : List Value) (hx : a.eval x = .slice (some ad) m c) (hl : news.length = m * size) (hnews : ∀ j u, news[j]? = some u → w.cell? (ad.add j) = some u) (h1 : ∀ u ∈ news, u.oneCell' = true)
    (h63 : n + m ≤ maxLen) (hbytes : (n + m) * bytes ≤ 140737488355328)
    (h : ∀ va' vc' w', w'.ownsRow 0 e size (.slice va' (n + m) vc') (n + m) (xs ++ news) → w.grownBy w' (Value.slice va n vc).ownBlock →
      ((Value.slice va' (n + m) vc').ownBlock = (Value.slice va n vc).ownBlock ∨ (Value.slice va' (n + m) vc').ownBlock = some w.heap.size) → wpList P ops Q rest (a.put o.dst (.slice va' (n + m) vc')) w') :
    wpList P ops Q (o :: rest) a w := by
  refine wpList_plain hgd fun K hK => ?_
  obtain ⟨v', w', hr, h2, h3, h4, h5⟩ := run_append_own2 (P := P) w t o.type e i z size bytes ht hi hz hsize hby hzs hsz (.slice va n vc) n xs hown ad m c news hl hnews h1 h63 hbytes
  obtain ⟨va', vc', rfl⟩ : ∃ va' vc', v' = .slice va' (n + m) vc' := by
    rcases h2.2 with ⟨rfl, e⟩ | ⟨g, cap, cur, rfl, _⟩
    · exact ⟨none, 0, by rw [e]⟩
    · exact ⟨_, cap, rfl⟩
  unfold Oper.wp execOp
  simp only [ho, resolve, invoke, builtin, Sem.run_bind, Sem.run_pure, Result.andThen_ok, List.map_toArray, List.map_cons, List.map_nil, hs, hx, hr]
  exact hK _ _ (h va' vc' w' h2 h3 h5)

/-- The owners behind an append: what is new is i's. -/
def newTo (w : World) (G : Nat → Nat) (i : Nat) : Nat → Nat := fun b => if b < w.heap.size then G b else i
theorem newTo_old {w : World} {G : Nat → Nat} {i b : Nat} (h : b < w.heap.size) : newTo w G i b = G b := if_pos h
theorem newTo_new {w : World} {G : Nat → Nat} {i b : Nat} (h : w.heap.size ≤ b) : newTo w G i b = i := if_neg (by omega)
theorem Adv.ofGrown {w w' : World} {G : Nat → Nat} {i : Nat} {v : Value} (hg : w.grownBy w' v.ownBlock) (hv : Value.ownedBy G i v) : Adv (· = i) w G w' (newTo w G i) :=
  ⟨hg.os, hg.tape, hg.output, hg.size, fun _ hb => newTo_old hb, fun b hb hs => hg.block b hb fun e => hs (hv b e.symm)⟩
theorem Pile.slice {e T size : Nat} {w : World} {G : Nat → Nat} {i D : Nat} {v : Value} {n : Nat} {xs : List Value} (h : Pile e T size w G i D v n xs) : ∃ a cap, v = .slice a n cap := by
  rcases h.row.2 with ⟨rfl, rfl⟩ | ⟨g, cap, cur, rfl, _⟩
  · exact ⟨none, 0, rfl⟩
  · exact ⟨some ⟨g, 0, none⟩, cap, rfl⟩
/-- A pile whose slice was appended to: the slice is stored back. -/
theorem Pile.appended {e T size : Nat} {w w1 : World} {G : Nat → Nat} {i D : Nat} {v v' : Value} {n m : Nat} {xs ys : List Value} (h : Pile e T size w G i D v n xs) (hown : w1.ownsRow 0 e size v' m ys)
    (hg : w.grownBy w1 v.ownBlock) (hv : v'.ownBlock = v.ownBlock ∨ v'.ownBlock = some w.heap.size) :
    Adv (· = i) w G (w1.setCell ⟨D, 0, none⟩ v') (newTo w G i) ∧ Pile e T size (w1.setCell ⟨D, 0, none⟩ v') (newTo w G i) i D v' m ys := by
  have hl := h.lt
  have hD : w1.heap[D]? = some (.cells #[v] T (0, 0)) := by rw [hg.block D hl (fun e => h.ne e.symm)]; exact h.head
  have hne : v'.ownBlock ≠ some D := by
    rcases hv with e | e
    · rw [e]; exact h.ne
    · rw [e]; intro x; simp at x; omega
  refine ⟨(Adv.ofGrown hg h.rown).setCell (p := ⟨D, 0, none⟩) (by show newTo w G i D = i; rw [newTo_old hl]; exact h.hown) v', ?_, by rw [newTo_old hl]; exact h.hown, ?_, ?_, hne⟩
  · simp only [World.setCell, Array.getElem?_modify, hD]; simp
  · exact ownsRow_of_block hown fun b e => Below.heap_setCell _ _ _ _ (fun x => hne (by rw [e]; exact congrArg some x))
  · intro b e
    rcases hv with x | x
    · rw [x] at e; rw [newTo_old (h.row.lt b e).2]; exact h.rown b e
    · rw [x] at e; simp at e; exact newTo_new (by omega)

/-- The last cell of a pile of one-cell elements. -/
theorem Pile.last {e T : Nat} {w : World} {G : Nat → Nat} {i D : Nat} {a : Option Addr} {cap m : Nat} {x : Value} {ys : List Value} (h : Pile e T 1 w G i D (.slice a (m + 1) cap) (m + 1) (ys ++ [x])) :
    ∃ g, a = some ⟨g, 0, none⟩ ∧ cap ≤ maxLen ∧ m + 1 ≤ cap ∧ w.cell? ⟨g, m, none⟩ = some x := by
  obtain ⟨g, cap', cur, e1, hbg, hg, hnc, hcm, hcs, htake⟩ := h.row.2.resolve_left (by rintro ⟨_, h⟩; omega)
  obtain ⟨rfl, _, rfl⟩ : a = some ⟨g, 0, none⟩ ∧ m + 1 = m + 1 ∧ cap = cap' := by simpa using e1
  have hlen : ys.length = m := by have := h.nlen; simp at this; omega
  have hcell := h.row.cells (g := g) rfl m x (by rw [← hlen]; simp)
  refine ⟨g, rfl, hcm, hnc, ?_⟩
  rw [← hcell, Addr.add_lit, Nat.zero_add]
theorem Pile.cut {e T size : Nat} {w : World} {G : Nat → Nat} {i D : Nat} {a : Option Addr} {cap n m : Nat} {xs : List Value} (h : Pile e T size w G i D (.slice a n cap) n xs) (hm : m ≤ n) :
    Adv (· = i) w G (w.setCell ⟨D, 0, none⟩ (.slice a m cap)) G ∧ (0 < m ∨ a.isSome = true → Pile e T size (w.setCell ⟨D, 0, none⟩ (.slice a m cap)) G i D (.slice a m cap) m (xs.take (m * size))) := by
  have hl := h.lt
  refine ⟨(Adv.refl _ w G).setCell (p := ⟨D, 0, none⟩) h.hown _, fun hpos => ⟨?_, h.hown, ?_, ?_, ?_⟩⟩
  · simp only [World.setCell, Array.getElem?_modify, h.head]; simp
  · have hlen := h.nlen
    have hmn : m * size ≤ n * size := Nat.mul_le_mul_right _ hm
    obtain ⟨g, cap', cur, e1, hbg, hg, hnc, hcm, hcs, htake⟩ := h.row.2.resolve_left (by rintro ⟨h1, h2⟩; cases h1; simp at hpos; omega)
    obtain ⟨rfl, _, rfl⟩ : a = some ⟨g, 0, none⟩ ∧ n = n ∧ cap = cap' := by simpa using e1
    have hgD : g ≠ D := fun x => h.ne (by simp [Value.ownBlock, x])
    refine ⟨by rw [List.length_take]; omega, .inr ⟨g, cap, cur, rfl, hbg, ?_, by omega, hcm, hcs, ?_⟩⟩
    · rw [Below.heap_setCell _ _ _ _ hgD]; exact hg
    · rw [← htake, List.take_take]; congr 1; omega
  · intro b e
    cases a with
    | none => cases e
    | some _ => exact h.rown b e
  · intro e
    cases a with
    | none => cases e
    | some _ => exact h.ne e
theorem Pile.popped {e T : Nat} {w : World} {G : Nat → Nat} {i D : Nat} {a : Option Addr} {cap m : Nat} {x : Value} {ys : List Value} (h : Pile e T 1 w G i D (.slice a (m + 1) cap) (m + 1) (ys ++ [x])) :
    Adv (· = i) w G (w.setCell ⟨D, 0, none⟩ (.slice a m cap)) G ∧ Pile e T 1 (w.setCell ⟨D, 0, none⟩ (.slice a m cap)) G i D (.slice a m cap) m ys := by
  have hlen : ys.length = m := by have := h.nlen; simp at this; omega
  obtain ⟨g, rfl, _⟩ := h.last
  obtain ⟨h1, h2⟩ := h.cut (m := m) (by omega)
  refine ⟨h1, ?_⟩
  have h3 := h2 (.inr rfl)
  rwa [Nat.mul_one, List.take_left' hlen] at h3
/-- One cell of a pile's row is written. -/
theorem Pile.store {e T size : Nat} {w : World} {G : Nat → Nat} {i D g : Nat} {cap n : Nat} {xs : List Value} (h : Pile e T size w G i D (.slice (some ⟨g, 0, none⟩) n cap) n xs) (j : Nat) (hj : j < xs.length) (u : Value) :
    Adv (· = i) w G (w.setCell ⟨g, j, none⟩ u) G ∧ Pile e T size (w.setCell ⟨g, j, none⟩ u) G i D (.slice (some ⟨g, 0, none⟩) n cap) n (xs.set j u) := by
  have hlen := h.nlen
  have hpos : 0 < n := by rcases Nat.eq_zero_or_pos n with h0 | h0; · rw [h0, Nat.zero_mul] at hlen; omega
                          · exact h0
  obtain ⟨g', cap', cur, e1, hbg, hg, hnc, hcm, hcs, htake⟩ := h.row.2.resolve_left (by rintro ⟨h1, h2⟩; omega)
  obtain ⟨rfl, _, rfl⟩ : g = g' ∧ n = n ∧ cap = cap' := by simpa using e1
  have hgD : g ≠ D := fun x => h.ne (by simp [Value.ownBlock, x])
  refine ⟨(Adv.refl _ w G).setCell (p := ⟨g, j, none⟩) (h.rown g rfl) _, ?_, h.hown, ⟨by simpa using hlen, .inr ⟨g, cap, cur.setIfInBounds j u, rfl, hbg, ?_, hnc, hcm, by simpa using hcs, ?_⟩⟩, h.rown, h.ne⟩
  · rw [Below.heap_setCell _ _ _ _ (Ne.symm hgD)]; exact h.head
  · simp only [World.setCell, Array.getElem?_modify, hg]; simp
  · rw [← htake, Array.toList_setIfInBounds, List.take_set]
/-- The cells behind a slice's address, as far as there are any. -/
def Reads (w : World) (a : Option Addr) (xs : List Value) : Prop := xs = [] ∨ ∃ b o, a = some ⟨b, o, none⟩ ∧ ∀ j u, xs[j]? = some u → w.cell? ⟨b, o + j, none⟩ = some u
theorem Reads.some {w : World} {a : Option Addr} {xs : List Value} (h : Reads w a xs) (hne : xs ≠ []) : ∃ b o, a = .some ⟨b, o, none⟩ ∧ (∀ j u, xs[j]? = .some u → w.cell? ⟨b, o + j, none⟩ = .some u) ∧ b < w.heap.size := by
  rcases h with h | ⟨b, o, e, h⟩
  · exact absurd h hne
  · refine ⟨b, o, e, h, ?_⟩
    cases xs with
    | nil => exact absurd rfl hne
    | cons x xs => exact World.block_lt_of_cell? w _ (h 0 x rfl)
theorem Reads.add {w : World} {b o : Nat} {xs : List Value} (h : ∀ j u, xs[j]? = .some u → w.cell? ⟨b, o + j, none⟩ = .some u) : ∀ j u, xs[j]? = .some u → w.cell? ((⟨b, o, none⟩ : Addr).add j) = .some u :=
  fun j u hu => by rw [Addr.add_lit]; exact h j u hu
theorem Reads.adv {w w' : World} {G G' : Nat → Nat} {S : Nat → Prop} {a : Option Addr} {xs : List Value} (h : Reads w a xs) (ha : Adv S w G w' G') (hs : ∀ ad, a = .some ad → ¬ S (G ad.block)) : Reads w' a xs := by
  rcases h with rfl | ⟨b, o, rfl, h⟩
  · exact .inl rfl
  · exact .inr ⟨b, o, rfl, fun j u hu => ha.cell_some (h j u hu) (hs ⟨b, o, none⟩ rfl)⟩
theorem Pile.reads {e T size : Nat} {w : World} {G : Nat → Nat} {i D : Nat} {a : Option Addr} {n cap : Nat} {xs : List Value} (h : Pile e T size w G i D (.slice a n cap) n xs) : Reads w a xs ∧ ∀ ad, a = .some ad → ad.block < w.heap.size ∧ G ad.block = i := by
  rcases h.row.2 with ⟨e, h0⟩ | ⟨g, cap, cur, e, _⟩
  · have hl := h.nlen
    rw [h0, Nat.zero_mul] at hl
    cases e
    exact ⟨.inl (List.eq_nil_of_length_eq_zero hl), fun _ h => by cases h⟩
  · cases e
    refine ⟨.inr ⟨g, 0, rfl, fun j u hu => ?_⟩, fun ad e => by cases e; exact ⟨(h.row.lt g rfl).2, h.rown g rfl⟩⟩
    have := h.row.cells (g := g) rfl j u hu
    rwa [Addr.add_lit] at this
/-- A new stack without cells. -/
theorem Pile.made (w : World) (G : Nat → Nat) (e T size i : Nat) : Pile e T size (w.alloc (.cells #[.slice none 0 0] T)) (own1 w G i) i w.heap.size (.slice none 0 0) 0 [] :=
  ⟨heap_alloc_new w _, own1_new _ _ _, World.ownsRow_nil _ _ _ _, (fun b e => by cases e), (fun e => by cases e)⟩
/-- The cells of a new block. -/
theorem Reads.new (w : World) (xs : List Value) (e : TypeId) : Reads (w.alloc (.cells xs.toArray e)) (.some ⟨w.heap.size, 0, none⟩) xs :=
  .inr ⟨w.heap.size, 0, rfl, fun j u hu => by rw [cell_of_row _ w.heap.size (0 + j) xs.toArray e (0, 0) (heap_alloc_new w _)]; simpa using hu⟩
theorem Reads.alloc {w : World} {a : Option Addr} {xs : List Value} (h : Reads w a xs) (o : Obj) : Reads (w.alloc o) a xs :=
  h.adv (G := fun _ => 0) (S := fun _ => False) ((Adv.refl _ w _).alloc o 0) (fun _ _ => id)
/-- Owners are named anew. -/
theorem Pile.relabel {e T size : Nat} {w : World} {G H : Nat → Nat} {i i' D : Nat} {v : Value} {n : Nat} {xs : List Value} (h : Pile e T size w G i D v n xs) (hH : ∀ b, b < w.heap.size → G b = i → H b = i') : Pile e T size w H i' D v n xs :=
  ⟨h.head, hH D h.lt h.hown, h.row, fun b e => hH b (h.row.lt b e).2 (h.rown b e), h.ne⟩
theorem Adv.relabel {S : Nat → Prop} {w w' : World} {G G' H H' : Nat → Nat} (h : Adv S w G w' G') (hn : ∀ b, b < w.heap.size → ¬ S (G b)) (hH : ∀ b, b < w.heap.size → H' b = H b) : Adv (fun _ => False) w H w' H' :=
  ⟨h.os, h.tape, h.output, h.size, hH, fun b hb _ => h.keep b hb (hn b hb)⟩
/-- Old blocks keep their owners; of the new ones 1 becomes i, 2 becomes j. -/
def named (w : World) (G G0 : Nat → Nat) (i j : Nat) : Nat → Nat := fun b => if b < w.heap.size then G b else if G0 b = 1 then i else if G0 b = 2 then j else 0
theorem named_old {w : World} {G G0 : Nat → Nat} {i j b : Nat} (h : b < w.heap.size) : named w G G0 i j b = G b := if_pos h
theorem named_1 {S : Nat → Prop} {w w' : World} {G G0 : Nat → Nat} {i j : Nat} (h : Adv S w (fun _ => 0) w' G0) : ∀ b, b < w'.heap.size → G0 b = 1 → named w G G0 i j b = i := by
  intro b _ h1
  unfold named
  rw [if_neg (fun hb => by have := h.own b hb; omega), if_pos h1]
theorem named_2 {S : Nat → Prop} {w w' : World} {G G0 : Nat → Nat} {i j : Nat} (h : Adv S w (fun _ => 0) w' G0) : ∀ b, b < w'.heap.size → G0 b = 2 → named w G G0 i j b = j := by
  intro b _ h1
  unfold named
  rw [if_neg (fun hb => by have := h.own b hb; omega), if_neg (by omega), if_pos h1]
/-- copy, whatever the elements' size. -/
theorem run_copy_size {P : Program} (w : World) (dT sT ty elem : TypeId) (i : TypeInfo) (g o dLen dCap : Nat) (a : Addr) (sLen sCap : Nat) (cur : Array Value) (t : TypeId) (cs : List Value)
    (hu : P.underlying dT = some (.slice elem)) (hi : P.info? elem = some i)
    (hg : w.heap[g]? = some (.cells cur t (0, 0))) (hn : cs.length = Nat.min sLen dLen * i.size)
    (hsrc : ∀ j v, cs[j]? = some v → w.cell? (a.add j) = some v) (hfit : o + cs.length ≤ cur.size) (h1 : ∀ v ∈ cs, v.oneCell' = true) :
    (Builtin.copy_ #[dT, sT] ty #[.slice (some ⟨g, o, none⟩) dLen dCap, .slice (some a) sLen sCap]).run P w =
      .ok (goInt (Nat.min sLen dLen)) (w.setRow g (cur.toList.take o ++ cs ++ cur.toList.drop (o + cs.length)).toArray) := by
  have hl := run_loadCells_list (P := P) w a cs hsrc
  have hst := run_storeCells_at P g o t cs 0 cur w hg (by simpa using hfit) h1
  simp [Builtin.copy_, run_underlying hu, Builtin.lenOf, Builtin.firstCells, sizeOf, typeInfo, hi, ← hn, hl, hst]
theorem setRow_alloc (w : World) (cur cs : Array Value) (e : TypeId) (g : Nat) (h : g = w.heap.size) : (w.alloc (.cells cur e)).setRow g cs = w.alloc (.cells cs e) := by
  subst h
  have e : ((w.alloc (.cells cur e)).setRow w.heap.size cs).heap = (w.alloc (.cells cs e)).heap := by
    apply Array.ext_getElem?
    intro j
    by_cases hj : j = w.heap.size
    · subst hj
      rw [setRow_heap _ _ cur cs e (0, 0) (heap_alloc_new w _)]
      exact (heap_alloc_new w _).symm
    · rw [setRow_other _ _ _ _ hj]
      simp only [World.alloc, Array.getElem?_push, if_neg hj]
  have h2 : ∀ a b : World, a.heap = b.heap → a.tape = b.tape → a.drawn = b.drawn → a.os = b.os → a.output = b.output → a = b := by
    intro a b h1 h2 h3 h4 h5
    cases a; cases b; simp_all
  exact h2 _ _ e rfl rfl rfl rfl
theorem wpList_copy_new {P : Program} {w : World} {ops : Array Oper} {rest : List Oper} {o : Oper} {a : Act} {Q : Exit → Act → World → Prop} (hgd : o.guard = none) (d s : Operand) (dT sT : TypeId)
    (ho : o.op = .call { callee := .builtin .copy, args := #[d, s], argTypes := #[dT, sT] }) (elem : TypeId) (i : TypeInfo) (hu : P.underlying dT = some (.slice elem)) (hi : P.info? elem = some i)
    (n dCap : Nat) (ad : Addr) (sCap : Nat) (hd : a.eval d = .slice (some ⟨w.heap.size, 0, none⟩) n dCap) (hs : a.eval s = .slice (some ad) n sCap)
    (cur : Array Value) (cs : List Value) (hn : cs.length = n * i.size) (hc : cur.size = cs.length)
    (hsrc : ∀ j v, cs[j]? = some v → w.cell? (ad.add j) = some v) (hb : ad.block < w.heap.size) (h1 : ∀ v ∈ cs, v.oneCell' = true)
    (h : wpList P ops Q rest (a.put o.dst (goInt n)) (w.alloc (.cells cs.toArray elem))) : wpList P ops Q (o :: rest) a (w.alloc (.cells cur elem)) := by
  refine wpList_plain hgd fun K hK => ?_
  have hsrc' : ∀ j v, cs[j]? = some v → (w.alloc (.cells cur elem)).cell? (ad.add j) = some v := fun j v hj => by
    have h2 := hsrc j v hj
    rw [← h2]
    exact World.cell?_of_block (Below.heap_alloc w _ _ (by unfold Addr.add; split <;> exact hb))
  have hrun := run_copy_size (P := P) (w.alloc (.cells cur elem)) dT sT o.type elem i w.heap.size 0 n dCap ad n sCap cur elem cs hu hi (heap_alloc_new w _) (by simpa using hn) hsrc' (by omega) h1
  have he : (cur.toList.take 0 ++ cs ++ cur.toList.drop (0 + cs.length)).toArray = cs.toArray := by
    have hcl : cur.toList.length = cs.length := by simpa using hc
    simp [← hcl]
  rw [he, setRow_alloc w cur cs.toArray elem _ rfl] at hrun
  unfold Oper.wp
  simp [execOp, ho, resolve, invoke, builtin, hd, hs, hrun, Result.andThen]
  exact hK _ _ (by simpa using h)

#print axioms wpList_copy_new
#print axioms wpList_append_own2
#print axioms Pile.adv
end Go.Proofs.YtdnalhjdmlkbmaaGreatDoor
namespace Go.Proofs.YtdnalhjdmlkbmaaGreatDoor
open Go.RowKit

/-- The tables as lists: names, cells taken, cells left, cycles. -/
def namesL : List (List UInt8) := [[], [], [], [], [], [], [], [], [], [110, 111, 112], [121, 105, 101, 108, 100], [104, 97, 108, 116], [100, 117, 112], [100, 114, 111, 112], [115, 119, 97, 112], [111, 118, 101, 114], [114, 111, 116], [110, 105, 112], [116, 117, 99, 107], [50, 100, 117, 112], [50, 100, 114, 111, 112], [43], [45], [42], [47], [109, 111, 100], [117, 47], [117, 109, 111, 100], [110, 101, 103, 97, 116, 101], [97, 98, 115], [109, 105, 110], [109, 97, 120], [49, 43], [49, 45], [50, 42], [50, 47], [97, 110, 100], [111, 114], [120, 111, 114], [105, 110, 118, 101, 114, 116], [108, 115, 104, 105, 102, 116], [114, 115, 104, 105, 102, 116], [61], [60, 62], [60], [62], [117, 60], [117, 62], [48, 61], [48, 60], [64], [33], [99, 64], [99, 33], [43, 33], [62, 114], [114, 62], [114, 64], [105], [106], [112, 108, 111, 116], [112, 97, 100], [116, 111, 110, 101], [98, 97, 110, 107]]
def takesL : List Int := [0, 0, 0, 0, 0, 1, 2, 0, 0, 0, 0, 0, 1, 1, 2, 2, 3, 2, 2, 2, 2, 2, 2, 2, 2, 2, 2, 2, 1, 1, 2, 2, 1, 1, 1, 1, 2, 2, 2, 1, 2, 2, 2, 2, 2, 2, 2, 2, 1, 1, 1, 2, 1, 2, 2, 1, 0, 0, 0, 0, 3, 0, 2, 1]
def leavesL : List Int := [0, 0, 1, 1, 0, 0, 0, 0, 0, 0, 0, 0, 2, 0, 2, 3, 3, 1, 3, 4, 0, 1, 1, 1, 1, 1, 1, 1, 1, 1, 1, 1, 1, 1, 1, 1, 1, 1, 1, 1, 1, 1, 1, 1, 1, 1, 1, 1, 1, 1, 1, 0, 1, 0, 0, 0, 1, 1, 1, 1, 0, 1, 0, 0]
def costsL : List Int := [0, 2, 2, 2, 2, 2, 3, 3, 2, 1, 1, 1, 1, 1, 1, 1, 1, 1, 1, 2, 1, 1, 1, 3, 4, 4, 4, 4, 1, 1, 1, 1, 1, 1, 1, 1, 1, 1, 1, 1, 1, 1, 1, 1, 1, 1, 1, 1, 1, 1, 2, 2, 2, 2, 3, 1, 1, 1, 1, 1, 3, 1, 2, 1]
def nameB (k : Nat) : ByteArray := ⟨(namesL.getD k []).toArray⟩
def takesN (k : Nat) : Int := takesL.getD k 0
def leavesN (k : Nat) : Int := leavesL.getD k 0
def costsN (k : Nat) : Int := costsL.getD k 0
theorem takes_le : ∀ k, k < 64 → 0 ≤ takesN k ∧ takesN k ≤ 4 := by decide
theorem leaves_le : ∀ k, k < 64 → 0 ≤ leavesN k ∧ leavesN k ≤ 4 := by decide
theorem costs_le : ∀ k, k < 64 → 0 ≤ costsN k ∧ costsN k ≤ 4 := by decide
def operandB (k : Nat) : Bool := k == 3 || k == 4 || k == 5 || k == 7
/-- A row. -/
def primV (k : Nat) : Value := .agg #[.int .i64 k, .string (nameB k), .int .i64 (takesN k), .int .i64 (leavesN k), .int .i64 (costsN k), .bool (operandB k)]
def primV0 : Value := .agg #[.int .i64 0, .string ⟨#[]⟩, .int .i64 0, .int .i64 0, .int .i64 0, .bool false]

/-- The four tables lie in this world, and they are nobody's. -/
structure Tabs (w : World) (G : Nat → Nat) : Prop where
  names : ∀ k, k < 64 → w.cell? ⟨0, k, none⟩ = some (.string (nameB k))
  takes : ∀ k, k < 64 → w.cell? ⟨1, k, none⟩ = some (.int .u8 (takesN k))
  leaves : ∀ k, k < 64 → w.cell? ⟨2, k, none⟩ = some (.int .u8 (leavesN k))
  costs : ∀ k, k < 64 → w.cell? ⟨3, k, none⟩ = some (.int .u8 (costsN k))
  n0 : G 0 = 0
  n1 : G 1 = 0
  n2 : G 2 = 0
  n3 : G 3 = 0
theorem Tabs.adv {S : Nat → Prop} {w w' : World} {G G' : Nat → Nat} (h : Tabs w G) (ha : Adv S w G w' G') (hs : ¬ S 0) : Tabs w' G' := by
  have o : ∀ b v, w.cell? ⟨b, 0, none⟩ = some v → G b = 0 → G' b = 0 := fun b v hv hg => (ha.own b (World.block_lt_of_cell? w _ hv)).trans hg
  exact ⟨fun k hk => ha.cell_some (h.names k hk) (by rw [h.n0]; exact hs), fun k hk => ha.cell_some (h.takes k hk) (by rw [h.n1]; exact hs), fun k hk => ha.cell_some (h.leaves k hk) (by rw [h.n2]; exact hs),
    fun k hk => ha.cell_some (h.costs k hk) (by rw [h.n3]; exact hs), o _ _ (h.names 0 (by omega)) h.n0, o _ _ (h.takes 0 (by omega)) h.n1, o _ _ (h.leaves 0 (by omega)) h.n2, o _ _ (h.costs 0 (by omega)) h.n3⟩
/-- Owners are named anew. -/
theorem Tabs.relabel {w : World} {G H : Nat → Nat} (h : Tabs w G) (hH : ∀ b, b < w.heap.size → G b = 0 → H b = 0) : Tabs w H :=
  ⟨h.names, h.takes, h.leaves, h.costs, hH _ (World.block_lt_of_cell? w _ (h.names 0 (by omega))) h.n0, hH _ (World.block_lt_of_cell? w _ (h.takes 0 (by omega))) h.n1, hH _ (World.block_lt_of_cell? w _ (h.leaves 0 (by omega))) h.n2, hH _ (World.block_lt_of_cell? w _ (h.costs 0 (by omega))) h.n3⟩

set_option maxRecDepth 100000 in
set_option maxHeartbeats 400000 in
theorem primOf_any (G : Nat → Nat) (k : Nat) (hk : k < 64) (w : World) (ht : Tabs w G) :
    Calls Tryz.prog 86 #[.int .i64 k] w fun e w' => e = .returned (primV k) ∧ ∃ G', Adv (fun _ => False) w G w' G' := by
  have hn := ht.names k hk
  have htk := ht.takes k hk
  have hl := ht.leaves k hk
  have hc := ht.costs k hk
  have z0 := World.block_lt_of_cell? w _ hn
  have z1 := World.block_lt_of_cell? w _ htk
  have z2 := World.block_lt_of_cell? w _ hl
  have z3 := World.block_lt_of_cell? w _ hc
  have b1 := takes_le k hk
  have b2 := leaves_le k hk
  have b3 := costs_le k hk
  clear ht
  have hop : k = 3 ∨ k = 4 ∨ k = 5 ∨ k = 7 ∨ (((k : Int) == 3) = false ∧ ((k : Int) == 4) = false ∧ ((k : Int) == 5) = false ∧ ((k : Int) == 7) = false) := by
    simp only [beq_eq_false_iff_ne, ne_eq]; omega
  go_enter Tryz.func86, Tryz.ntmps86
  rcases hop with rfl | rfl | rfl | rfl | ⟨e3, e4, e5, e7⟩
  all_goals
    go_wp2
    go_region
    go_wp2
  · exact bodyPost_ret (v := primV 3) (by simp [results, Tryz.results86, go_sem, primV, operandB]) rfl ⟨rfl, _, ((Adv.refl _ w G).alloc _ 0).drew⟩
  · exact bodyPost_ret (v := primV 4) (by simp [results, Tryz.results86, go_sem, primV, operandB]) rfl ⟨rfl, _, ((Adv.refl _ w G).alloc _ 0).drew⟩
  · exact bodyPost_ret (v := primV 5) (by simp [results, Tryz.results86, go_sem, primV, operandB]) rfl ⟨rfl, _, ((Adv.refl _ w G).alloc _ 0).drew⟩
  · exact bodyPost_ret (v := primV 7) (by simp [results, Tryz.results86, go_sem, primV, operandB]) rfl ⟨rfl, _, ((Adv.refl _ w G).alloc _ 0).drew⟩
  · have ho : operandB k = false := by
      simp only [beq_eq_false_iff_ne, ne_eq] at e3 e4 e5 e7
      unfold operandB
      simp only [Bool.or_eq_false_iff, beq_eq_false_iff_ne]
      omega
    exact bodyPost_ret (v := primV k) (by simp [results, Tryz.results86, go_sem, primV, ho]) rfl ⟨rfl, _, ((Adv.refl _ w G).alloc _ 0).drew⟩

end Go.Proofs.YtdnalhjdmlkbmaaGreatDoor
namespace Go.Proofs.YtdnalhjdmlkbmaaGreatDoor
open Go.ChangeShapes Go.WideShapes Go.ChangeAt Go.RowKit

def laid4 : List (String × DataW Unit) := [("wisp/prim.names", Rows.laid_wisp_prim_names), ("wisp/prim.takes", Rows.laid_wisp_prim_takes), ("wisp/prim.leaves", Rows.laid_wisp_prim_leaves), ("wisp/prim.costs", Rows.laid_wisp_prim_costs)]
theorem gName : Tryz.prog.globalNamed "wisp/prim.names" = some 0 := by kernel_rfl
theorem gTake : Tryz.prog.globalNamed "wisp/prim.takes" = some 1 := by kernel_rfl
theorem gLeave : Tryz.prog.globalNamed "wisp/prim.leaves" = some 2 := by kernel_rfl
theorem gCost : Tryz.prog.globalNamed "wisp/prim.costs" = some 3 := by kernel_rfl
theorem tName : (Tryz.prog.globals[(0 : Nat)]?).map (·.type) = some 231 := by kernel_rfl
theorem tTake : (Tryz.prog.globals[(1 : Nat)]?).map (·.type) = some 232 := by kernel_rfl
theorem tLeave : (Tryz.prog.globals[(2 : Nat)]?).map (·.type) = some 232 := by kernel_rfl
theorem tCost : (Tryz.prog.globals[(3 : Nat)]?).map (·.type) = some 232 := by kernel_rfl

theorem at_take {cs : List Value} {k : Nat} {v : Value} (h : (cs.drop k).take 1 = [v]) : cs[k]? = some v := by
  have h1 : ((cs.drop k).take 1)[0]? = some v := by rw [h]; rfl
  rw [List.getElem?_take_of_lt (by decide), List.getElem?_drop] at h1
  simpa using h1
theorem tab_u8 {H : Type} {enc : TypeId × Value → H} {w : World} {base : Nat} {sp : Nat → Bool} {held : Bool} {fuel : Nat} {cs : List Value} {L : List Int} {p : List MemPlace} (_ : L.length = 64)
    (h : DataW.trod enc Tryz.prog w base sp held fuel 232 cs = some (.agg (L.map fun x => .lit (.int .u8 x)), p)) (k : Nat) (hk : k < 64) : cs[k]? = some (.int .u8 (L.getD k 0)) := by
  obtain ⟨xs, m, rfl, hx, -, hn, hel⟩ := DataW.trod_array Tryz.underlying232 h
  have hc : Tryz.prog.cellsOf 5 = 1 := by kernel_rfl
  have hE := hel k hk
  rw [hc, Nat.mul_one] at hE
  obtain ⟨x, hxk⟩ : ∃ x, xs[k]? = some x := ⟨xs[k]'(by omega), by simp⟩
  rw [hxk] at hE
  obtain ⟨n, e1, e2, -⟩ := DataW.trod_int Tryz.underlying5 hE
  have hm : L.map (fun x => (DataW.lit (.int .u8 x) : DataW H)) = xs.map (·.1) := by
    have := congrArg Prod.fst hx
    simpa using this
  have h2 : (L.map (fun x => (DataW.lit (.int .u8 x) : DataW H)))[k]? = some (.lit (.int .u8 n)) := by rw [hm]; simp [hxk, e2]
  rw [List.getElem?_map] at h2
  have hLk : L[k]? = some n := by
    cases hq : L[k]? with
    | none => rw [hq] at h2; cases h2
    | some q => rw [hq] at h2; simp at h2; rw [h2]
  rw [at_take e1, List.getD_eq_getElem?_getD, hLk]
  rfl
theorem tab_string {H : Type} {enc : TypeId × Value → H} {w : World} {base : Nat} {sp : Nat → Bool} {held : Bool} {fuel : Nat} {cs : List Value} {L : List (List UInt8)} {p : List MemPlace} (_ : L.length = 64)
    (h : DataW.trod enc Tryz.prog w base sp held fuel 231 cs = some (.agg (L.map fun x => .lit (.string x)), p)) (k : Nat) (hk : k < 64) : cs[k]? = some (.string ⟨(L.getD k []).toArray⟩) := by
  obtain ⟨xs, m, rfl, hx, -, hn, hel⟩ := DataW.trod_array Tryz.underlying231 h
  have hc : Tryz.prog.cellsOf 9 = 1 := by kernel_rfl
  have hE := hel k hk
  rw [hc, Nat.mul_one] at hE
  obtain ⟨x, hxk⟩ : ∃ x, xs[k]? = some x := ⟨xs[k]'(by omega), by simp⟩
  rw [hxk] at hE
  obtain ⟨n, e1, e2, -⟩ := DataW.trod_string Tryz.underlying9 hE
  have hm : L.map (fun x => (DataW.lit (.string x) : DataW H)) = xs.map (·.1) := by
    have := congrArg Prod.fst hx
    simpa using this
  have h2 : (L.map (fun x => (DataW.lit (.string x) : DataW H)))[k]? = some (.lit (.string n.data.toList)) := by rw [hm]; simp [hxk, e2]
  rw [List.getElem?_map] at h2
  have hLk : L[k]? = some n.data.toList := by
    cases hq : L[k]? with
    | none => rw [hq] at h2; cases h2
    | some q => rw [hq] at h2; simp at h2; rw [h2]
  rw [at_take e1, List.getD_eq_getElem?_getD, hLk]
  simp
theorem namesD : (Rows.laid_wisp_prim_names : DataW Unit) = .agg (namesL.map fun x => .lit (.string x)) := by kernel_rfl
theorem takesD : (Rows.laid_wisp_prim_takes : DataW Unit) = .agg (takesL.map fun x => .lit (.int .u8 x)) := by kernel_rfl
theorem leavesD : (Rows.laid_wisp_prim_leaves : DataW Unit) = .agg (leavesL.map fun x => .lit (.int .u8 x)) := by kernel_rfl
theorem costsD : (Rows.laid_wisp_prim_costs : DataW Unit) = .agg (costsL.map fun x => .lit (.int .u8 x)) := by kernel_rfl

theorem of_laid {W : World} (h : laidMetH Tryz.prog laid4 W) : Tabs W (fun _ => 0) := by
  rw [MakeChecks.laidMetH_plain _ _ _ (by kernel_rfl)] at h
  obtain ⟨ps, ⟨g0, t0, cs0, f0, p0, q0, hg0, ht0, hv0, hd0, ⟨g1, t1, cs1, f1, p1, q1, hg1, ht1, hv1, hd1, ⟨g2, t2, cs2, f2, p2, q2, hg2, ht2, hv2, hd2, ⟨g3, t3, cs3, f3, p3, q3, hg3, ht3, hv3, hd3, _, _⟩, _⟩, _⟩, _⟩, _, _⟩ := h
  obtain rfl := Option.some.inj (gName.symm.trans hg0)
  obtain rfl := Option.some.inj (gTake.symm.trans hg1)
  obtain rfl := Option.some.inj (gLeave.symm.trans hg2)
  obtain rfl := Option.some.inj (gCost.symm.trans hg3)
  obtain rfl := Option.some.inj (tName.symm.trans ht0)
  obtain rfl := Option.some.inj (tTake.symm.trans ht1)
  obtain rfl := Option.some.inj (tLeave.symm.trans ht2)
  obtain rfl := Option.some.inj (tCost.symm.trans ht3)
  rw [namesD] at hd0
  rw [takesD] at hd1
  rw [leavesD] at hd2
  rw [costsD] at hd3
  refine ⟨fun k hk => ?_, fun k hk => ?_, fun k hk => ?_, fun k hk => ?_, rfl, rfl, rfl, rfl⟩
  · rw [World.var?_cell hg0 hv0 k, ← Array.getElem?_toList]; exact tab_string (by decide) hd0 k hk
  · rw [World.var?_cell hg1 hv1 k, ← Array.getElem?_toList]; exact tab_u8 (by decide) hd1 k hk
  · rw [World.var?_cell hg2 hv2 k, ← Array.getElem?_toList]; exact tab_u8 (by decide) hd2 k hk
  · rw [World.var?_cell hg3 hv3 k, ← Array.getElem?_toList]; exact tab_u8 (by decide) hd3 k hk
/-- The door's own heap meets the condition. -/
theorem door_met (os : Os) (args : Array Value) : laidMetH Tryz.prog laid4 ((World.doorLaid Tryz.prog 400 os).forCall (fun _ _ => 0) ⟨#[], args, []⟩).memory :=
  laidMetH_of_parts3 (fuel := 8) (laidMet_of_run' 8 (by kernel_rfl) (by kernel_rfl)) (by kernel_rfl) (by kernel_rfl)
end Go.Proofs.YtdnalhjdmlkbmaaGreatDoor
namespace Go.Proofs.YtdnalhjdmlkbmaaGreatDoor
open Go.RowKit

theorem wrap_u16_mod (n : Int) : IntKind.wrap .u16 n = n % 65536 := by
  unfold IntKind.wrap
  simp [IntKind.bits, IntKind.signed]
theorem wrap_u8_mod (n : Int) : IntKind.wrap .u8 n = n % 256 := by
  unfold IntKind.wrap
  simp [IntKind.bits, IntKind.signed]
theorem wrap_u16_id (n : Int) (h0 : 0 ≤ n) (h : n < 65536) : IntKind.wrap .u16 n = n := by rw [wrap_u16_mod]; omega
theorem wrap_u8_id (n : Int) (h0 : 0 ≤ n) (h : n < 256) : IntKind.wrap .u8 n = n := by rw [wrap_u8_mod]; omega
theorem wrap_u16_rng (n : Int) : 0 ≤ IntKind.wrap .u16 n ∧ IntKind.wrap .u16 n < 65536 := by rw [wrap_u16_mod]; omega
theorem wrap_u8_rng (n : Int) : 0 ≤ IntKind.wrap .u8 n ∧ IntKind.wrap .u8 n < 256 := by rw [wrap_u8_mod]; omega
theorem ofInt16 (n : Nat) (h : n < 65536) : (BitVec.ofInt 16 (n : Int)).toNat = n := by
  rw [BitVec.toNat_ofInt]
  omega
theorem bits16_rng (op : BinOp) (x y : Int) : 0 ≤ bits op .u16 x y ∧ bits op .u16 x y < 65536 := wrap_u16_rng _
theorem bits_or_nat (lo hi : Nat) (h1 : lo < 256) (h2 : hi < 256) : bits BinOp.or .u16 (lo : Int) ((hi : Int) * 256) = (hi * 256 + lo : Nat) := by
  show IntKind.wrap .u16 ((BitVec.ofInt 16 (lo : Int) ||| BitVec.ofInt 16 ((hi : Int) * 256)).toNat : Nat) = _
  rw [BitVec.toNat_or, ofInt16 _ (by omega), show (hi : Int) * 256 = ((hi * 256 : Nat) : Int) from by simp, ofInt16 _ (by omega)]
  have h := Nat.shiftLeft_add_eq_or_of_lt (i := 8) (b := lo) (by omega) hi
  rw [Nat.shiftLeft_eq, show (2 : Nat) ^ 8 = 256 from rfl] at h
  rw [Nat.or_comm, ← h]
  exact wrap_u16_id _ (by omega) (by omega)
theorem bits_not (x : Nat) (h : x < 65536) : bits BinOp.xor .u16 IntKind.u16.max (x : Int) = 65535 - (x : Int) := by
  show IntKind.wrap .u16 ((BitVec.ofInt 16 ((65535 : Nat) : Int) ^^^ BitVec.ofInt 16 (x : Int)).toNat : Nat) = _
  have e : BitVec.ofInt 16 ((65535 : Nat) : Int) = BitVec.allOnes 16 := by decide
  rw [e, BitVec.allOnes_xor, BitVec.toNat_not, ofInt16 _ h]
  rw [wrap_u16_id _ (by omega) (by omega)]
  omega
theorem wrap64_id {n : Int} (h0 : -9223372036854775808 ≤ n) (h : n ≤ 9223372036854775807) : wrap64 n = n := by unfold wrap64; omega
theorem ret64 {a b : Int} (h : a = b) : Ending.returned (.int .i64 a) = .returned (.int .i64 b) := by rw [h]
/-- A cell as a number with a sign. -/
def sgn (x : Int) : Int := if x < 32768 then x else x - 65536
theorem sgn_wrap (x : Int) (h0 : 0 ≤ x) (h1 : x < 65536) : IntKind.i16.wrap x = sgn x := by
  unfold IntKind.wrap sgn
  simp [IntKind.bits, IntKind.signed]
  split <;> split <;> omega
theorem sgn_rng (x : Int) (h0 : 0 ≤ x) (h1 : x < 65536) : -32768 ≤ sgn x ∧ sgn x < 32768 := by unfold sgn; split <;> omega
theorem sgn_ne (x : Int) (h0 : 0 ≤ x) (h1 : x < 65536) (h : x ≠ 0) : sgn x ≠ 0 := by unfold sgn; split <;> omega
def flagB (b : Bool) : Int := if b then 65535 else 0
theorem flagB_rng (b : Bool) : 0 ≤ flagB b ∧ flagB b < 65536 := by cases b <;> decide
/-- A primitive of one cell, of two. -/
def unF (k : Nat) (x : Int) : Int :=
  match k with
  | 28 => 65535 - (x - 1) % 65536
  | 29 => if x < 32768 then x else 65535 - (x - 1) % 65536
  | 32 => (x + 1) % 65536
  | 33 => (x - 1) % 65536
  | 34 => (x + x) % 65536
  | 35 => sgn x / 2 % 65536
  | 39 => 65535 - x
  | 48 => flagB (x == 0)
  | 49 => flagB (decide (32768 ≤ x))
  | _ => 0
def binF (k : Nat) (x y : Int) : Int :=
  match k with
  | 21 => (x + y) % 65536
  | 22 => (x + -y % 65536) % 65536
  | 23 => x * y % 65536
  | 24 => if y = 0 then 0 else (sgn x).tdiv (sgn y) % 65536
  | 25 => if y = 0 then 0 else (sgn x).tmod (sgn y) % 65536
  | 26 => if y = 0 then 0 else x / y % 65536
  | 27 => if y = 0 then 0 else x % y % 65536
  | 30 => if sgn y < sgn x then y else x
  | 31 => if sgn x < sgn y then y else x
  | 36 => bits BinOp.and .u16 x y
  | 37 => bits BinOp.or .u16 x y
  | 38 => bits BinOp.xor .u16 x y
  | 40 => x * 2 ^ min y.toNat 16 % 65536
  | 41 => x / 2 ^ min y.toNat 16
  | 42 => flagB (x == y)
  | 43 => flagB (x != y)
  | 44 => flagB (decide (sgn x < sgn y))
  | 45 => flagB (decide (sgn y < sgn x))
  | 46 => flagB (decide (x < y))
  | 47 => flagB (decide (y < x))
  | _ => 0
theorem not16 (x : Int) (h0 : 0 ≤ x) (h1 : x < 65536) : bits BinOp.xor .u16 IntKind.u16.max x = 65535 - x := by
  obtain ⟨n, rfl⟩ : ∃ n : Nat, x = n := ⟨x.toNat, by omega⟩
  exact bits_not n (by omega)
theorem un_28 (x : Int) (_ : 0 ≤ x) (_ : x < 65536) : bits BinOp.xor .u16 IntKind.u16.max (IntKind.u16.wrap (x - 1)) = unF 28 x := by
  rw [not16 _ (wrap_u16_rng _).1 (wrap_u16_rng _).2, wrap_u16_mod]; rfl
theorem un_29 (x : Int) (_ : 0 ≤ x) (_ : x < 65536) (h : x < 32768) : x = unF 29 x := (if_pos h).symm
theorem un_29' (x : Int) (_ : 0 ≤ x) (_ : x < 65536) (h : 32768 ≤ x) : bits BinOp.xor .u16 IntKind.u16.max (IntKind.u16.wrap (x - 1)) = unF 29 x := by
  rw [not16 _ (wrap_u16_rng _).1 (wrap_u16_rng _).2, wrap_u16_mod]; exact (if_neg (by omega)).symm
theorem un_29'' (x : Int) (_ : 0 ≤ x) (_ : x < 65536) (h : 32768 ≤ x) : bits BinOp.xor .u16 IntKind.u16.max (x - 1) = unF 29 x := by
  rw [not16 _ (by omega) (by omega)]; exact ((if_neg (by omega)).trans (by omega)).symm
theorem un_32 (x : Int) (_ : 0 ≤ x) (_ : x < 65536) : IntKind.u16.wrap (x + 1) = unF 32 x := wrap_u16_mod _
theorem un_33 (x : Int) (_ : 0 ≤ x) (_ : x < 65536) : IntKind.u16.wrap (x - 1) = unF 33 x := wrap_u16_mod _
theorem un_34 (x : Int) (_ : 0 ≤ x) (_ : x < 65536) : IntKind.u16.wrap (x + x) = unF 34 x := wrap_u16_mod _
theorem un_35 (x : Int) (_ : 0 ≤ x) (_ : x < 65536) : sgn x / 2 % 65536 = unF 35 x := rfl
theorem un_39 (x : Int) (h0 : 0 ≤ x) (h1 : x < 65536) : bits BinOp.xor .u16 IntKind.u16.max x = unF 39 x := not16 x h0 h1
theorem un_48 (x : Int) (_ : 0 ≤ x) (_ : x < 65536) : flagB (x == 0) = unF 48 x := rfl
theorem un_49 (x : Int) (_ : 0 ≤ x) (_ : x < 65536) : flagB (decide (32768 ≤ x)) = unF 49 x := rfl
theorem bin_21 (x y : Int) (_ : 0 ≤ x) (_ : x < 65536) (_ : 0 ≤ y) (_ : y < 65536) : IntKind.u16.wrap (x + y) = binF 21 x y := wrap_u16_mod _
theorem bin_22 (x y : Int) (_ : 0 ≤ x) (_ : x < 65536) (_ : 0 ≤ y) (_ : y < 65536) : IntKind.u16.wrap (x + IntKind.u16.wrap (-y)) = binF 22 x y := by rw [wrap_u16_mod, wrap_u16_mod]; rfl
theorem bin_23 (x y : Int) (_ : 0 ≤ x) (_ : x < 65536) (_ : 0 ≤ y) (_ : y < 65536) : IntKind.u16.wrap (x * y) = binF 23 x y := wrap_u16_mod _
theorem bin_24z (x : Int) : binF 24 x 0 = 0 := rfl
theorem bin_25z (x : Int) : binF 25 x 0 = 0 := rfl
theorem bin_26z (x : Int) : binF 26 x 0 = 0 := rfl
theorem bin_27z (x : Int) : binF 27 x 0 = 0 := rfl
theorem tdiv_rng (a b : Int) (h0 : -32768 ≤ a) (h1 : a < 65536) : -65536 ≤ a.tdiv b ∧ a.tdiv b ≤ 65536 := by
  have h := Int.natAbs_tdiv a b
  have h2 : (a.tdiv b).natAbs ≤ a.natAbs := by rw [h]; exact Nat.div_le_self _ _
  clear h
  generalize a.tdiv b = t at h2
  omega
theorem bin_24 (x y : Int) (h0 : 0 ≤ x) (h1 : x < 65536) (_ : 0 ≤ y) (_ : y < 65536) (h : y ≠ 0) : wrap64 ((sgn x).tdiv (sgn y)) % 65536 = binF 24 x y := by
  have hs := sgn_rng x h0 h1
  have ht := tdiv_rng (sgn x) (sgn y) hs.1 (by omega)
  rw [wrap64_id (by omega) (by omega)]; exact (if_neg h).symm
theorem bin_25 (x y : Int) (_ : 0 ≤ x) (_ : x < 65536) (_ : 0 ≤ y) (_ : y < 65536) (h : y ≠ 0) : (sgn x).tmod (sgn y) % 65536 = binF 25 x y := (if_neg h).symm
theorem bin_26 (x y : Int) (_ : 0 ≤ x) (_ : x < 65536) (_ : 0 ≤ y) (_ : y < 65536) (h : y ≠ 0) : x / y % 65536 = binF 26 x y := (if_neg h).symm
theorem bin_27 (x y : Int) (_ : 0 ≤ x) (_ : x < 65536) (_ : 0 ≤ y) (_ : y < 65536) (h : y ≠ 0) : x % y % 65536 = binF 27 x y := (if_neg h).symm
theorem bin_30 (x y : Int) (h : sgn y < sgn x) : y = binF 30 x y := (if_pos h).symm
theorem bin_30' (x y : Int) (h : sgn x ≤ sgn y) : x = binF 30 x y := (if_neg (by omega)).symm
theorem bin_31 (x y : Int) (h : sgn x < sgn y) : y = binF 31 x y := (if_pos h).symm
theorem bin_31' (x y : Int) (h : sgn y ≤ sgn x) : x = binF 31 x y := (if_neg (by omega)).symm
theorem bin_36 (x y : Int) (_ : 0 ≤ x) (_ : x < 65536) (_ : 0 ≤ y) (_ : y < 65536) : bits BinOp.and .u16 x y = binF 36 x y := rfl
theorem bin_37 (x y : Int) (_ : 0 ≤ x) (_ : x < 65536) (_ : 0 ≤ y) (_ : y < 65536) : bits BinOp.or .u16 x y = binF 37 x y := rfl
theorem bin_38 (x y : Int) (_ : 0 ≤ x) (_ : x < 65536) (_ : 0 ≤ y) (_ : y < 65536) : bits BinOp.xor .u16 x y = binF 38 x y := rfl
theorem bin_40 (x y : Int) (_ : 0 ≤ x) (_ : x < 65536) (_ : 0 ≤ y) (_ : y < 65536) : IntKind.u16.wrap (x * 2 ^ min y.toNat 16) = binF 40 x y := wrap_u16_mod _
theorem bin_41 (x y : Int) (_ : 0 ≤ x) (_ : x < 65536) (_ : 0 ≤ y) (_ : y < 65536) : x / 2 ^ min y.toNat 16 = binF 41 x y := rfl
theorem bin_42 (x y : Int) : flagB (x == y) = binF 42 x y := rfl
theorem bin_43 (x y : Int) : flagB (x != y) = binF 43 x y := rfl
theorem bin_44 (x y : Int) : flagB (decide (sgn x < sgn y)) = binF 44 x y := rfl
theorem bin_45 (x y : Int) : flagB (decide (sgn y < sgn x)) = binF 45 x y := rfl
theorem bin_46 (x y : Int) : flagB (decide (x < y)) = binF 46 x y := rfl
theorem bin_47 (x y : Int) : flagB (decide (y < x)) = binF 47 x y := rfl
theorem unF_rng (k : Nat) (x : Int) (h0 : 0 ≤ x) (h1 : x < 65536) : 0 ≤ unF k x ∧ unF k x < 65536 := by
  unfold unF
  split
  all_goals first | exact flagB_rng _ | (split <;> omega) | omega
theorem binF_rng (k : Nat) (x y : Int) (h0 : 0 ≤ x) (h1 : x < 65536) (y0 : 0 ≤ y) (y1 : y < 65536) : 0 ≤ binF k x y ∧ binF k x y < 65536 := by
  unfold binF
  split
  all_goals first | exact flagB_rng _ | exact bits16_rng _ _ _ | omega | (split <;> omega) | skip
  all_goals
    have hp : (0 : Int) < 2 ^ min y.toNat 16 := Int.pow_pos (by decide)
    exact ⟨Int.ediv_nonneg h0 (Int.le_of_lt hp), Int.lt_of_le_of_lt (Int.ediv_le_self _ h0) h1⟩
end Go.Proofs.YtdnalhjdmlkbmaaGreatDoor
namespace Go.Proofs.YtdnalhjdmlkbmaaGreatDoor
open Go.RowKit
set_option linter.unusedVariables false
theorem r_cell (n : Int) : (if n.tmod 65536 < 0 then n.tmod 65536 + 65536 else n.tmod 65536) = n % 65536 := by
  rcases Int.le_total 0 n with h | h
  · rw [Int.tmod_eq_emod_of_nonneg h, if_neg (by omega)]
  · have e : n.tmod 65536 = - ((-n) % 65536) := by
      have := Int.neg_tmod (-n) 65536
      rw [Int.neg_neg] at this
      rw [this, Int.tmod_eq_emod_of_nonneg (by omega)]
    rw [e]
    split <;> omega
theorem r_half (s : Int) : (if s < 2 * s.tdiv 2 then s.tdiv 2 - 1 else s.tdiv 2) = s / 2 := by
  rcases Int.le_total 0 s with h | h
  · rw [Int.tdiv_eq_ediv_of_nonneg h, if_neg (by omega)]
  · have e : s.tdiv 2 = - ((-s) / 2) := by
      have := Int.neg_tdiv (-s) 2
      rw [Int.neg_neg] at this
      rw [this, Int.tdiv_eq_ediv_of_nonneg (by omega)]
    rw [e]
    split <;> omega
def awayF (s : Int) : Int := if s < 0 then -s else s
theorem away_tdiv (s t : Int) : (if (decide (s < 0)) != (decide (t < 0)) then -((awayF s).tdiv (awayF t)) else (awayF s).tdiv (awayF t)) = s.tdiv t := by
  unfold awayF
  by_cases h1 : s < 0 <;> by_cases h2 : t < 0 <;> simp [h1, h2, Int.neg_tdiv, Int.tdiv_neg]
theorem u_28 (x : Int) (h0 : 0 ≤ x) (h1 : x < 65536) : (-x) % 65536 = unF 28 x := by show _ = 65535 - (x - 1) % 65536; omega
theorem u_29 (x : Int) (h0 : 0 ≤ x) (h1 : x < 65536) (h : sgn x < 0) : (-(sgn x)) % 65536 = unF 29 x := by
  unfold sgn at h ⊢
  by_cases hx : x < 32768
  · rw [if_pos hx] at h; omega
  · show _ = if x < 32768 then x else 65535 - (x - 1) % 65536
    rw [if_neg hx, if_neg hx]; omega
theorem u_29' (x : Int) (h0 : 0 ≤ x) (h1 : x < 65536) (h : ¬ sgn x < 0) : x = unF 29 x := by
  unfold sgn at h
  by_cases hx : x < 32768
  · exact (if_pos hx).symm
  · rw [if_neg hx] at h; omega
theorem u_32 (x : Int) : (x + 1) % 65536 = unF 32 x := rfl
theorem u_33 (x : Int) : (x - 1) % 65536 = unF 33 x := rfl
theorem u_34 (x : Int) : (2 * x) % 65536 = unF 34 x := by show _ = (x + x) % 65536; omega
theorem u_35 (x : Int) : (sgn x / 2) % 65536 = unF 35 x := rfl
theorem u_39 (x : Int) (h0 : 0 ≤ x) (h1 : x < 65536) : (65535 - x) % 65536 = unF 39 x := by show _ = 65535 - x; omega
theorem u_48 (x : Int) : flagB (x == 0) = unF 48 x := rfl
theorem u_49 (x : Int) (h0 : 0 ≤ x) (h1 : x < 65536) : flagB (decide (sgn x < 0)) = unF 49 x := by
  show _ = flagB (decide (32768 ≤ x))
  congr 1
  unfold sgn
  by_cases hx : x < 32768
  · rw [if_pos hx]; rw [decide_eq_false (by omega), decide_eq_false (by omega)]
  · rw [if_neg hx]; rw [decide_eq_true (by omega), decide_eq_true (by omega)]
theorem b_21 (x y : Int) : (x + y) % 65536 = binF 21 x y := rfl
theorem b_22 (x y : Int) : (x - y) % 65536 = binF 22 x y := by show _ = (x + -y % 65536) % 65536; omega
theorem b_23 (x y : Int) : (x * y) % 65536 = binF 23 x y := rfl
theorem b_24 (x y : Int) (h : y ≠ 0) : ((sgn x).tdiv (sgn y)) % 65536 = binF 24 x y := (if_neg h).symm
theorem b_25 (x y : Int) (h : y ≠ 0) : (sgn x - (sgn x).tdiv (sgn y) * sgn y) % 65536 = binF 25 x y := by
  rw [show sgn x - (sgn x).tdiv (sgn y) * sgn y = (sgn x).tmod (sgn y) from by have := Int.tmod_add_mul_tdiv (sgn x) (sgn y); rw [Int.mul_comm] at this; omega]
  exact (if_neg h).symm
theorem b_26 (x y : Int) (h : y ≠ 0) : (x / y) % 65536 = binF 26 x y := (if_neg h).symm
theorem b_27 (x y : Int) (h : y ≠ 0) : (x - x / y * y) % 65536 = binF 27 x y := by
  rw [show x - x / y * y = x % y from by have := Int.emod_add_mul_ediv x y; rw [Int.mul_comm] at this; omega]
  exact (if_neg h).symm
theorem b_30 (x y : Int) (h0 : 0 ≤ x) (h1 : x < 65536) (h2 : 0 ≤ y) (h3 : y < 65536) : (min (sgn x) (sgn y)) % 65536 = binF 30 x y := by
  show _ = if sgn y < sgn x then y else x
  unfold sgn
  by_cases hx : x < 32768 <;> by_cases hy : y < 32768 <;> simp only [hx, hy, if_true, if_false] <;> split <;> omega
theorem b_31 (x y : Int) (h0 : 0 ≤ x) (h1 : x < 65536) (h2 : 0 ≤ y) (h3 : y < 65536) : (max (sgn x) (sgn y)) % 65536 = binF 31 x y := by
  show _ = if sgn x < sgn y then y else x
  unfold sgn
  by_cases hx : x < 32768 <;> by_cases hy : y < 32768 <;> simp only [hx, hy, if_true, if_false] <;> split <;> omega
theorem b_40 (x y : Int) (hy : y ≤ 15) (h2 : 0 ≤ y) : (x * ((2 : Nat) ^ y.toNat : Nat)) % 65536 = binF 40 x y := by
  show _ = x * 2 ^ min y.toNat 16 % 65536
  rw [Nat.min_eq_left (by omega)]
  simp
theorem b_40' (x y : Int) (hy : 15 < y) : 0 = binF 40 x y := by
  show _ = x * 2 ^ min y.toNat 16 % 65536
  rw [Nat.min_eq_right (by omega), show (2 : Int) ^ 16 = 65536 from rfl]
  omega
theorem b_41 (x y : Int) (h0 : 0 ≤ x) (h1 : x < 65536) (hy : y ≤ 15) (h2 : 0 ≤ y) : (x / ((2 : Nat) ^ y.toNat : Nat)) % 65536 = binF 41 x y := by
  show _ = x / 2 ^ min y.toNat 16
  rw [Nat.min_eq_left (by omega)]
  obtain ⟨n, rfl⟩ : ∃ n : Nat, x = n := ⟨x.toNat, by omega⟩
  have h3 : n / 2 ^ y.toNat ≤ n := Nat.div_le_self _ _
  have h4 : ((n : Int) / ((2 ^ y.toNat : Nat) : Int)) = ((n / 2 ^ y.toNat : Nat) : Int) := by simp
  have h5 : (2 : Int) ^ y.toNat = ((2 ^ y.toNat : Nat) : Int) := by simp
  rw [h5, h4]
  generalize n / 2 ^ y.toNat = q at h3 ⊢
  omega
theorem b_41' (x y : Int) (h0 : 0 ≤ x) (h1 : x < 65536) (hy : 15 < y) : 0 = binF 41 x y := by
  show _ = x / 2 ^ min y.toNat 16
  rw [Nat.min_eq_right (by omega)]
  omega
/-- Bit by bit. -/
def bitN (k : Nat) (x y : Nat) : Nat := if k = 36 then x &&& y else if k = 37 then x ||| y else x ^^^ y
def oneB (k : Nat) (a b : Nat) : Bool := if k = 36 then a + b == 2 else if k = 37 then decide (0 < a + b) else a + b == 1
theorem bitN_step (k x y i : Nat) : bitN k x y % 2 ^ (i + 1) = bitN k x y % 2 ^ i + (if oneB k (x / 2 ^ i % 2) (y / 2 ^ i % 2) then 2 ^ i else 0) := by
  rw [Nat.mod_pow_succ]
  have hb : bitN k x y / 2 ^ i % 2 = if oneB k (x / 2 ^ i % 2) (y / 2 ^ i % 2) then 1 else 0 := by
    have h1 : (bitN k x y).testBit i = oneB k (x / 2 ^ i % 2) (y / 2 ^ i % 2) := by
      have hx := Nat.mod_two_eq_zero_or_one (x / 2 ^ i)
      have hy := Nat.mod_two_eq_zero_or_one (y / 2 ^ i)
      unfold bitN oneB
      by_cases e1 : k = 36
      · rw [if_pos e1, if_pos e1, Nat.testBit_and, Nat.testBit_eq_decide_div_mod_eq, Nat.testBit_eq_decide_div_mod_eq]
        rcases hx with hx | hx <;> rcases hy with hy | hy <;> simp [hx, hy]
      · rw [if_neg e1, if_neg e1]
        by_cases e2 : k = 37
        · rw [if_pos e2, if_pos e2, Nat.testBit_or, Nat.testBit_eq_decide_div_mod_eq, Nat.testBit_eq_decide_div_mod_eq]
          rcases hx with hx | hx <;> rcases hy with hy | hy <;> simp [hx, hy]
        · rw [if_neg e2, if_neg e2, Nat.testBit_xor, Nat.testBit_eq_decide_div_mod_eq, Nat.testBit_eq_decide_div_mod_eq]
          rcases hx with hx | hx <;> rcases hy with hy | hy <;> simp [hx, hy]
    rw [Nat.testBit_eq_decide_div_mod_eq] at h1
    cases hc : oneB k (x / 2 ^ i % 2) (y / 2 ^ i % 2) with
    | true => rw [hc] at h1; simpa using h1
    | false =>
      rw [hc] at h1
      have := Nat.mod_two_eq_zero_or_one (bitN k x y / 2 ^ i)
      simp at h1 ⊢
      omega
  rw [hb]
  split <;> simp
theorem bitN_lt (k x y : Nat) (hx : x < 65536) (hy : y < 65536) : bitN k x y < 65536 := by
  unfold bitN
  split
  · exact Nat.and_lt_two_pow (n := 16) _ hy
  · split
    · exact Nat.or_lt_two_pow (n := 16) hx hy
    · exact Nat.xor_lt_two_pow (n := 16) hx hy
theorem bitN_bits (k : Nat) (x y : Nat) (hx : x < 65536) (hy : y < 65536) (hk : k = 36 ∨ k = 37 ∨ k = 38) : ((bitN k x y : Nat) : Int) = binF k x y := by
  rcases hk with rfl | rfl | rfl
  · show _ = IntKind.wrap .u16 ((BitVec.ofInt 16 (x : Int) &&& BitVec.ofInt 16 (y : Int)).toNat : Nat)
    rw [BitVec.toNat_and, ofInt16 _ hx, ofInt16 _ hy]
    have h9 : x &&& y < 65536 := bitN_lt 36 x y hx hy
    exact (wrap_u16_id _ (Int.natCast_nonneg _) (Int.ofNat_lt.2 h9)).symm
  · show _ = IntKind.wrap .u16 ((BitVec.ofInt 16 (x : Int) ||| BitVec.ofInt 16 (y : Int)).toNat : Nat)
    rw [BitVec.toNat_or, ofInt16 _ hx, ofInt16 _ hy]
    have h9 : x ||| y < 65536 := bitN_lt 37 x y hx hy
    exact (wrap_u16_id _ (Int.natCast_nonneg _) (Int.ofNat_lt.2 h9)).symm
  · show _ = IntKind.wrap .u16 ((BitVec.ofInt 16 (x : Int) ^^^ BitVec.ofInt 16 (y : Int)).toNat : Nat)
    rw [BitVec.toNat_xor, ofInt16 _ hx, ofInt16 _ hy]
    have h9 : x ^^^ y < 65536 := bitN_lt 38 x y hx hy
    exact (wrap_u16_id _ (Int.natCast_nonneg _) (Int.ofNat_lt.2 h9)).symm
end Go.Proofs.YtdnalhjdmlkbmaaGreatDoor
namespace Go.Proofs.YtdnalhjdmlkbmaaGreatDoor
open Go.RowKit

theorem tup2 {a b : Int} (h : a = b) : Ending.returned (.tuple #[.int .u16 a, .bool true]) = .returned (.tuple #[.int .u16 b, .bool true]) := by rw [h]
theorem ret16 {a b : Int} (h : a = b) : Ending.returned (.int .u16 a) = .returned (.int .u16 b) := by rw [h]
theorem signed_any (x : Int) (w : World) (h0 : 0 ≤ x) (h1 : x < 65536) : Calls Tryz.prog 172 #[.int .u16 x] w fun e w' => e = .returned (.int .i64 (sgn x)) ∧ w = w' := by
  have hs := sgn_wrap x h0 h1
  have h2 := sgn_rng x h0 h1
  go_enter Tryz.func172, Tryz.ntmps172
  go_wp2
  go_ret
  exact ⟨rfl, rfl⟩
theorem flag_any (b : Bool) (w : World) : Calls Tryz.prog 173 #[.bool b] w fun e w' => e = .returned (.int .u16 (flagB b)) ∧ w = w' := by
  cases b
  · go_enter Tryz.func173, Tryz.ntmps173
    go_wp2
    go_ret
    exact ⟨rfl, rfl⟩
  · go_enter Tryz.func173, Tryz.ntmps173
    go_wp2
    go_ret
    exact ⟨rfl, rfl⟩
theorem cell16_any (n : Int) (w : World) : Calls Tryz.prog 171 #[.int .i64 n] w fun e w' => e = .returned (.int .u16 (n % 65536)) ∧ w = w' := by
  go_enter Tryz.func171, Tryz.ntmps171
  go_wp2
  go_ret
  exact ⟨ret16 (wrap_u16_mod n), rfl⟩
set_option maxHeartbeats 400000 in
theorem unary_28 (x : Int) (h0 : 0 ≤ x) (h1 : x < 65536) (w : World) : Calls Tryz.prog 155 #[.int .i64 28, .int .u16 x] w fun e w' => e = .returned (.tuple #[.int .u16 (unF 28 x), .bool true]) ∧ w = w' := by
  have hr := sgn_rng x h0 h1
  go_enter Tryz.func155, Tryz.ntmps155
  go_wp2_with (first | (go_at_call 172; refine (signed_any _ _ (by assumption) (by assumption)).mono ?_; rintro e w' ⟨rfl, rfl⟩) | (go_at_call 173; refine (flag_any _ _).mono ?_; rintro e w' ⟨rfl, rfl⟩) | (go_at_call 171; refine (cell16_any _ _).mono ?_; rintro e w' ⟨rfl, rfl⟩))
  all_goals
    go_ret2
    exact ⟨tup2 (by first | exact un_28 x h0 h1 | exact un_28 x h0 h1 (by assumption) | exact un_28' x h0 h1 (by omega) | exact un_28'' x h0 h1 (by omega)), rfl⟩
set_option maxHeartbeats 400000 in
theorem unary_29 (x : Int) (h0 : 0 ≤ x) (h1 : x < 65536) (w : World) : Calls Tryz.prog 155 #[.int .i64 29, .int .u16 x] w fun e w' => e = .returned (.tuple #[.int .u16 (unF 29 x), .bool true]) ∧ w = w' := by
  have hr := sgn_rng x h0 h1
  go_enter Tryz.func155, Tryz.ntmps155
  go_wp2_with (first | (go_at_call 172; refine (signed_any _ _ (by assumption) (by assumption)).mono ?_; rintro e w' ⟨rfl, rfl⟩) | (go_at_call 173; refine (flag_any _ _).mono ?_; rintro e w' ⟨rfl, rfl⟩) | (go_at_call 171; refine (cell16_any _ _).mono ?_; rintro e w' ⟨rfl, rfl⟩))
  all_goals
    go_ret2
    exact ⟨tup2 (by first | exact un_29 x h0 h1 | exact un_29 x h0 h1 (by assumption) | exact un_29' x h0 h1 (by omega) | exact un_29'' x h0 h1 (by omega)), rfl⟩
set_option maxHeartbeats 400000 in
theorem unary_32 (x : Int) (h0 : 0 ≤ x) (h1 : x < 65536) (w : World) : Calls Tryz.prog 155 #[.int .i64 32, .int .u16 x] w fun e w' => e = .returned (.tuple #[.int .u16 (unF 32 x), .bool true]) ∧ w = w' := by
  have hr := sgn_rng x h0 h1
  go_enter Tryz.func155, Tryz.ntmps155
  go_wp2_with (first | (go_at_call 172; refine (signed_any _ _ (by assumption) (by assumption)).mono ?_; rintro e w' ⟨rfl, rfl⟩) | (go_at_call 173; refine (flag_any _ _).mono ?_; rintro e w' ⟨rfl, rfl⟩) | (go_at_call 171; refine (cell16_any _ _).mono ?_; rintro e w' ⟨rfl, rfl⟩))
  all_goals
    go_ret2
    exact ⟨tup2 (by first | exact un_32 x h0 h1 | exact un_32 x h0 h1 (by assumption) | exact un_32' x h0 h1 (by omega) | exact un_32'' x h0 h1 (by omega)), rfl⟩
set_option maxHeartbeats 400000 in
theorem unary_33 (x : Int) (h0 : 0 ≤ x) (h1 : x < 65536) (w : World) : Calls Tryz.prog 155 #[.int .i64 33, .int .u16 x] w fun e w' => e = .returned (.tuple #[.int .u16 (unF 33 x), .bool true]) ∧ w = w' := by
  have hr := sgn_rng x h0 h1
  go_enter Tryz.func155, Tryz.ntmps155
  go_wp2_with (first | (go_at_call 172; refine (signed_any _ _ (by assumption) (by assumption)).mono ?_; rintro e w' ⟨rfl, rfl⟩) | (go_at_call 173; refine (flag_any _ _).mono ?_; rintro e w' ⟨rfl, rfl⟩) | (go_at_call 171; refine (cell16_any _ _).mono ?_; rintro e w' ⟨rfl, rfl⟩))
  all_goals
    go_ret2
    exact ⟨tup2 (by first | exact un_33 x h0 h1 | exact un_33 x h0 h1 (by assumption) | exact un_33' x h0 h1 (by omega) | exact un_33'' x h0 h1 (by omega)), rfl⟩
set_option maxHeartbeats 400000 in
theorem unary_34 (x : Int) (h0 : 0 ≤ x) (h1 : x < 65536) (w : World) : Calls Tryz.prog 155 #[.int .i64 34, .int .u16 x] w fun e w' => e = .returned (.tuple #[.int .u16 (unF 34 x), .bool true]) ∧ w = w' := by
  have hr := sgn_rng x h0 h1
  go_enter Tryz.func155, Tryz.ntmps155
  go_wp2_with (first | (go_at_call 172; refine (signed_any _ _ (by assumption) (by assumption)).mono ?_; rintro e w' ⟨rfl, rfl⟩) | (go_at_call 173; refine (flag_any _ _).mono ?_; rintro e w' ⟨rfl, rfl⟩) | (go_at_call 171; refine (cell16_any _ _).mono ?_; rintro e w' ⟨rfl, rfl⟩))
  all_goals
    go_ret2
    exact ⟨tup2 (by first | exact un_34 x h0 h1 | exact un_34 x h0 h1 (by assumption) | exact un_34' x h0 h1 (by omega) | exact un_34'' x h0 h1 (by omega)), rfl⟩
set_option maxHeartbeats 400000 in
theorem unary_35 (x : Int) (h0 : 0 ≤ x) (h1 : x < 65536) (w : World) : Calls Tryz.prog 155 #[.int .i64 35, .int .u16 x] w fun e w' => e = .returned (.tuple #[.int .u16 (unF 35 x), .bool true]) ∧ w = w' := by
  have hr := sgn_rng x h0 h1
  go_enter Tryz.func155, Tryz.ntmps155
  go_wp2_with (first | (go_at_call 172; refine (signed_any _ _ (by assumption) (by assumption)).mono ?_; rintro e w' ⟨rfl, rfl⟩) | (go_at_call 173; refine (flag_any _ _).mono ?_; rintro e w' ⟨rfl, rfl⟩) | (go_at_call 171; refine (cell16_any _ _).mono ?_; rintro e w' ⟨rfl, rfl⟩))
  all_goals
    go_ret2
    exact ⟨tup2 (by first | exact un_35 x h0 h1 | exact un_35 x h0 h1 (by assumption) | exact un_35' x h0 h1 (by omega) | exact un_35'' x h0 h1 (by omega)), rfl⟩
set_option maxHeartbeats 400000 in
theorem unary_39 (x : Int) (h0 : 0 ≤ x) (h1 : x < 65536) (w : World) : Calls Tryz.prog 155 #[.int .i64 39, .int .u16 x] w fun e w' => e = .returned (.tuple #[.int .u16 (unF 39 x), .bool true]) ∧ w = w' := by
  have hr := sgn_rng x h0 h1
  go_enter Tryz.func155, Tryz.ntmps155
  go_wp2_with (first | (go_at_call 172; refine (signed_any _ _ (by assumption) (by assumption)).mono ?_; rintro e w' ⟨rfl, rfl⟩) | (go_at_call 173; refine (flag_any _ _).mono ?_; rintro e w' ⟨rfl, rfl⟩) | (go_at_call 171; refine (cell16_any _ _).mono ?_; rintro e w' ⟨rfl, rfl⟩))
  all_goals
    go_ret2
    exact ⟨tup2 (by first | exact un_39 x h0 h1 | exact un_39 x h0 h1 (by assumption) | exact un_39' x h0 h1 (by omega) | exact un_39'' x h0 h1 (by omega)), rfl⟩
set_option maxHeartbeats 400000 in
theorem unary_48 (x : Int) (h0 : 0 ≤ x) (h1 : x < 65536) (w : World) : Calls Tryz.prog 155 #[.int .i64 48, .int .u16 x] w fun e w' => e = .returned (.tuple #[.int .u16 (unF 48 x), .bool true]) ∧ w = w' := by
  have hr := sgn_rng x h0 h1
  go_enter Tryz.func155, Tryz.ntmps155
  go_wp2_with (first | (go_at_call 172; refine (signed_any _ _ (by assumption) (by assumption)).mono ?_; rintro e w' ⟨rfl, rfl⟩) | (go_at_call 173; refine (flag_any _ _).mono ?_; rintro e w' ⟨rfl, rfl⟩) | (go_at_call 171; refine (cell16_any _ _).mono ?_; rintro e w' ⟨rfl, rfl⟩))
  all_goals
    go_ret2
    exact ⟨tup2 (by first | exact un_48 x h0 h1 | exact un_48 x h0 h1 (by assumption) | exact un_48' x h0 h1 (by omega) | exact un_48'' x h0 h1 (by omega)), rfl⟩
set_option maxHeartbeats 400000 in
theorem unary_49 (x : Int) (h0 : 0 ≤ x) (h1 : x < 65536) (w : World) : Calls Tryz.prog 155 #[.int .i64 49, .int .u16 x] w fun e w' => e = .returned (.tuple #[.int .u16 (unF 49 x), .bool true]) ∧ w = w' := by
  have hr := sgn_rng x h0 h1
  go_enter Tryz.func155, Tryz.ntmps155
  go_wp2_with (first | (go_at_call 172; refine (signed_any _ _ (by assumption) (by assumption)).mono ?_; rintro e w' ⟨rfl, rfl⟩) | (go_at_call 173; refine (flag_any _ _).mono ?_; rintro e w' ⟨rfl, rfl⟩) | (go_at_call 171; refine (cell16_any _ _).mono ?_; rintro e w' ⟨rfl, rfl⟩))
  all_goals
    go_ret2
    exact ⟨tup2 (by first | exact un_49 x h0 h1 | exact un_49 x h0 h1 (by assumption) | exact un_49' x h0 h1 (by omega) | exact un_49'' x h0 h1 (by omega)), rfl⟩
set_option maxHeartbeats 400000 in
theorem divided_24 (x y : Int) (h0 : 0 ≤ x) (h1 : x < 65536) (y0 : 0 ≤ y) (y1 : y < 65536) (w : World) : Calls Tryz.prog 175 #[.int .i64 24, .int .u16 x, .int .u16 y] w fun e w' => e = .returned (.int .u16 (binF 24 x y)) ∧ w = w' := by
  have hr := sgn_rng x h0 h1
  have hq := sgn_rng y y0 y1
  by_cases hy : y = 0
  · subst hy
    go_enter Tryz.func175, Tryz.ntmps175
    go_wp2
    go_ret
    exact ⟨ret16 (bin_24z x).symm, rfl⟩
  · have hyb : (y == 0) = false := by simpa using hy
    have hsb : ¬ sgn y = 0 := sgn_ne y y0 y1 hy
    have hyn : ¬ y = 0 := hy
    have HY := Lib.hid hy
    clear hy
    go_enter Tryz.func175, Tryz.ntmps175
    go_wp2_with (first | (go_at_call 172; refine (signed_any _ _ (by assumption) (by assumption)).mono ?_; rintro e w' ⟨rfl, rfl⟩) | (go_at_call 173; refine (flag_any _ _).mono ?_; rintro e w' ⟨rfl, rfl⟩) | (go_at_call 171; refine (cell16_any _ _).mono ?_; rintro e w' ⟨rfl, rfl⟩))
    go_ret
    exact ⟨ret16 (bin_24 x y h0 h1 y0 y1 HY.out), rfl⟩
set_option maxHeartbeats 400000 in
theorem divided_25 (x y : Int) (h0 : 0 ≤ x) (h1 : x < 65536) (y0 : 0 ≤ y) (y1 : y < 65536) (w : World) : Calls Tryz.prog 175 #[.int .i64 25, .int .u16 x, .int .u16 y] w fun e w' => e = .returned (.int .u16 (binF 25 x y)) ∧ w = w' := by
  have hr := sgn_rng x h0 h1
  have hq := sgn_rng y y0 y1
  by_cases hy : y = 0
  · subst hy
    go_enter Tryz.func175, Tryz.ntmps175
    go_wp2
    go_ret
    exact ⟨ret16 (bin_25z x).symm, rfl⟩
  · have hyb : (y == 0) = false := by simpa using hy
    have hsb : ¬ sgn y = 0 := sgn_ne y y0 y1 hy
    have hyn : ¬ y = 0 := hy
    have HY := Lib.hid hy
    clear hy
    go_enter Tryz.func175, Tryz.ntmps175
    go_wp2_with (first | (go_at_call 172; refine (signed_any _ _ (by assumption) (by assumption)).mono ?_; rintro e w' ⟨rfl, rfl⟩) | (go_at_call 173; refine (flag_any _ _).mono ?_; rintro e w' ⟨rfl, rfl⟩) | (go_at_call 171; refine (cell16_any _ _).mono ?_; rintro e w' ⟨rfl, rfl⟩))
    go_ret
    exact ⟨ret16 (bin_25 x y h0 h1 y0 y1 HY.out), rfl⟩
set_option maxHeartbeats 400000 in
theorem divided_26 (x y : Int) (h0 : 0 ≤ x) (h1 : x < 65536) (y0 : 0 ≤ y) (y1 : y < 65536) (w : World) : Calls Tryz.prog 175 #[.int .i64 26, .int .u16 x, .int .u16 y] w fun e w' => e = .returned (.int .u16 (binF 26 x y)) ∧ w = w' := by
  have hr := sgn_rng x h0 h1
  have hq := sgn_rng y y0 y1
  by_cases hy : y = 0
  · subst hy
    go_enter Tryz.func175, Tryz.ntmps175
    go_wp2
    go_ret
    exact ⟨ret16 (bin_26z x).symm, rfl⟩
  · have hyb : (y == 0) = false := by simpa using hy
    have hsb : ¬ sgn y = 0 := sgn_ne y y0 y1 hy
    have hyn : ¬ y = 0 := hy
    have HY := Lib.hid hy
    clear hy
    go_enter Tryz.func175, Tryz.ntmps175
    go_wp2_with (first | (go_at_call 172; refine (signed_any _ _ (by assumption) (by assumption)).mono ?_; rintro e w' ⟨rfl, rfl⟩) | (go_at_call 173; refine (flag_any _ _).mono ?_; rintro e w' ⟨rfl, rfl⟩) | (go_at_call 171; refine (cell16_any _ _).mono ?_; rintro e w' ⟨rfl, rfl⟩))
    go_ret
    exact ⟨ret16 (bin_26 x y h0 h1 y0 y1 HY.out), rfl⟩
set_option maxHeartbeats 400000 in
theorem divided_27 (x y : Int) (h0 : 0 ≤ x) (h1 : x < 65536) (y0 : 0 ≤ y) (y1 : y < 65536) (w : World) : Calls Tryz.prog 175 #[.int .i64 27, .int .u16 x, .int .u16 y] w fun e w' => e = .returned (.int .u16 (binF 27 x y)) ∧ w = w' := by
  have hr := sgn_rng x h0 h1
  have hq := sgn_rng y y0 y1
  by_cases hy : y = 0
  · subst hy
    go_enter Tryz.func175, Tryz.ntmps175
    go_wp2
    go_ret
    exact ⟨ret16 (bin_27z x).symm, rfl⟩
  · have hyb : (y == 0) = false := by simpa using hy
    have hsb : ¬ sgn y = 0 := sgn_ne y y0 y1 hy
    have hyn : ¬ y = 0 := hy
    have HY := Lib.hid hy
    clear hy
    go_enter Tryz.func175, Tryz.ntmps175
    go_wp2_with (first | (go_at_call 172; refine (signed_any _ _ (by assumption) (by assumption)).mono ?_; rintro e w' ⟨rfl, rfl⟩) | (go_at_call 173; refine (flag_any _ _).mono ?_; rintro e w' ⟨rfl, rfl⟩) | (go_at_call 171; refine (cell16_any _ _).mono ?_; rintro e w' ⟨rfl, rfl⟩))
    go_ret
    exact ⟨ret16 (bin_27 x y h0 h1 y0 y1 HY.out), rfl⟩
set_option maxHeartbeats 400000 in
theorem compared_30 (x y : Int) (h0 : 0 ≤ x) (h1 : x < 65536) (y0 : 0 ≤ y) (y1 : y < 65536) (w : World) : Calls Tryz.prog 176 #[.int .i64 30, .int .u16 x, .int .u16 y] w fun e w' => e = .returned (.tuple #[.int .u16 (binF 30 x y), .bool true]) ∧ w = w' := by
  have hr := sgn_rng x h0 h1
  have hq := sgn_rng y y0 y1
  go_enter Tryz.func176, Tryz.ntmps176
  go_wp2_with (first | (go_at_call 172; refine (signed_any _ _ (by assumption) (by assumption)).mono ?_; rintro e w' ⟨rfl, rfl⟩) | (go_at_call 173; refine (flag_any _ _).mono ?_; rintro e w' ⟨rfl, rfl⟩))
  all_goals
    go_ret2
    exact ⟨tup2 (by first | exact bin_30 x y | exact bin_30 x y (by assumption) | exact bin_30' x y (by omega)), rfl⟩
set_option maxHeartbeats 400000 in
theorem compared_31 (x y : Int) (h0 : 0 ≤ x) (h1 : x < 65536) (y0 : 0 ≤ y) (y1 : y < 65536) (w : World) : Calls Tryz.prog 176 #[.int .i64 31, .int .u16 x, .int .u16 y] w fun e w' => e = .returned (.tuple #[.int .u16 (binF 31 x y), .bool true]) ∧ w = w' := by
  have hr := sgn_rng x h0 h1
  have hq := sgn_rng y y0 y1
  go_enter Tryz.func176, Tryz.ntmps176
  go_wp2_with (first | (go_at_call 172; refine (signed_any _ _ (by assumption) (by assumption)).mono ?_; rintro e w' ⟨rfl, rfl⟩) | (go_at_call 173; refine (flag_any _ _).mono ?_; rintro e w' ⟨rfl, rfl⟩))
  all_goals
    go_ret2
    exact ⟨tup2 (by first | exact bin_31 x y | exact bin_31 x y (by assumption) | exact bin_31' x y (by omega)), rfl⟩
set_option maxHeartbeats 400000 in
theorem compared_42 (x y : Int) (h0 : 0 ≤ x) (h1 : x < 65536) (y0 : 0 ≤ y) (y1 : y < 65536) (w : World) : Calls Tryz.prog 176 #[.int .i64 42, .int .u16 x, .int .u16 y] w fun e w' => e = .returned (.tuple #[.int .u16 (binF 42 x y), .bool true]) ∧ w = w' := by
  have hr := sgn_rng x h0 h1
  have hq := sgn_rng y y0 y1
  go_enter Tryz.func176, Tryz.ntmps176
  go_wp2_with (first | (go_at_call 172; refine (signed_any _ _ (by assumption) (by assumption)).mono ?_; rintro e w' ⟨rfl, rfl⟩) | (go_at_call 173; refine (flag_any _ _).mono ?_; rintro e w' ⟨rfl, rfl⟩))
  all_goals
    go_ret2
    exact ⟨tup2 (by first | exact bin_42 x y | exact bin_42 x y (by assumption) | exact bin_42' x y (by omega)), rfl⟩
set_option maxHeartbeats 400000 in
theorem compared_43 (x y : Int) (h0 : 0 ≤ x) (h1 : x < 65536) (y0 : 0 ≤ y) (y1 : y < 65536) (w : World) : Calls Tryz.prog 176 #[.int .i64 43, .int .u16 x, .int .u16 y] w fun e w' => e = .returned (.tuple #[.int .u16 (binF 43 x y), .bool true]) ∧ w = w' := by
  have hr := sgn_rng x h0 h1
  have hq := sgn_rng y y0 y1
  go_enter Tryz.func176, Tryz.ntmps176
  go_wp2_with (first | (go_at_call 172; refine (signed_any _ _ (by assumption) (by assumption)).mono ?_; rintro e w' ⟨rfl, rfl⟩) | (go_at_call 173; refine (flag_any _ _).mono ?_; rintro e w' ⟨rfl, rfl⟩))
  all_goals
    go_ret2
    exact ⟨tup2 (by first | exact bin_43 x y | exact bin_43 x y (by assumption) | exact bin_43' x y (by omega)), rfl⟩
set_option maxHeartbeats 400000 in
theorem compared_44 (x y : Int) (h0 : 0 ≤ x) (h1 : x < 65536) (y0 : 0 ≤ y) (y1 : y < 65536) (w : World) : Calls Tryz.prog 176 #[.int .i64 44, .int .u16 x, .int .u16 y] w fun e w' => e = .returned (.tuple #[.int .u16 (binF 44 x y), .bool true]) ∧ w = w' := by
  have hr := sgn_rng x h0 h1
  have hq := sgn_rng y y0 y1
  go_enter Tryz.func176, Tryz.ntmps176
  go_wp2_with (first | (go_at_call 172; refine (signed_any _ _ (by assumption) (by assumption)).mono ?_; rintro e w' ⟨rfl, rfl⟩) | (go_at_call 173; refine (flag_any _ _).mono ?_; rintro e w' ⟨rfl, rfl⟩))
  all_goals
    go_ret2
    exact ⟨tup2 (by first | exact bin_44 x y | exact bin_44 x y (by assumption) | exact bin_44' x y (by omega)), rfl⟩
set_option maxHeartbeats 400000 in
theorem compared_45 (x y : Int) (h0 : 0 ≤ x) (h1 : x < 65536) (y0 : 0 ≤ y) (y1 : y < 65536) (w : World) : Calls Tryz.prog 176 #[.int .i64 45, .int .u16 x, .int .u16 y] w fun e w' => e = .returned (.tuple #[.int .u16 (binF 45 x y), .bool true]) ∧ w = w' := by
  have hr := sgn_rng x h0 h1
  have hq := sgn_rng y y0 y1
  go_enter Tryz.func176, Tryz.ntmps176
  go_wp2_with (first | (go_at_call 172; refine (signed_any _ _ (by assumption) (by assumption)).mono ?_; rintro e w' ⟨rfl, rfl⟩) | (go_at_call 173; refine (flag_any _ _).mono ?_; rintro e w' ⟨rfl, rfl⟩))
  all_goals
    go_ret2
    exact ⟨tup2 (by first | exact bin_45 x y | exact bin_45 x y (by assumption) | exact bin_45' x y (by omega)), rfl⟩
set_option maxHeartbeats 400000 in
theorem compared_46 (x y : Int) (h0 : 0 ≤ x) (h1 : x < 65536) (y0 : 0 ≤ y) (y1 : y < 65536) (w : World) : Calls Tryz.prog 176 #[.int .i64 46, .int .u16 x, .int .u16 y] w fun e w' => e = .returned (.tuple #[.int .u16 (binF 46 x y), .bool true]) ∧ w = w' := by
  have hr := sgn_rng x h0 h1
  have hq := sgn_rng y y0 y1
  go_enter Tryz.func176, Tryz.ntmps176
  go_wp2_with (first | (go_at_call 172; refine (signed_any _ _ (by assumption) (by assumption)).mono ?_; rintro e w' ⟨rfl, rfl⟩) | (go_at_call 173; refine (flag_any _ _).mono ?_; rintro e w' ⟨rfl, rfl⟩))
  all_goals
    go_ret2
    exact ⟨tup2 (by first | exact bin_46 x y | exact bin_46 x y (by assumption) | exact bin_46' x y (by omega)), rfl⟩
set_option maxHeartbeats 400000 in
theorem compared_47 (x y : Int) (h0 : 0 ≤ x) (h1 : x < 65536) (y0 : 0 ≤ y) (y1 : y < 65536) (w : World) : Calls Tryz.prog 176 #[.int .i64 47, .int .u16 x, .int .u16 y] w fun e w' => e = .returned (.tuple #[.int .u16 (binF 47 x y), .bool true]) ∧ w = w' := by
  have hr := sgn_rng x h0 h1
  have hq := sgn_rng y y0 y1
  go_enter Tryz.func176, Tryz.ntmps176
  go_wp2_with (first | (go_at_call 172; refine (signed_any _ _ (by assumption) (by assumption)).mono ?_; rintro e w' ⟨rfl, rfl⟩) | (go_at_call 173; refine (flag_any _ _).mono ?_; rintro e w' ⟨rfl, rfl⟩))
  all_goals
    go_ret2
    exact ⟨tup2 (by first | exact bin_47 x y | exact bin_47 x y (by assumption) | exact bin_47' x y (by omega)), rfl⟩
set_option maxHeartbeats 400000 in
theorem binary_21 (x y : Int) (h0 : 0 ≤ x) (h1 : x < 65536) (y0 : 0 ≤ y) (y1 : y < 65536) (w : World) : Calls Tryz.prog 157 #[.int .i64 21, .int .u16 x, .int .u16 y] w fun e w' => e = .returned (.tuple #[.int .u16 (binF 21 x y), .bool true]) ∧ w = w' := by
  go_enter Tryz.func157, Tryz.ntmps157
  go_wp2
  go_ret2
  exact ⟨tup2 (bin_21 x y h0 h1 y0 y1), rfl⟩
set_option maxHeartbeats 400000 in
theorem binary_22 (x y : Int) (h0 : 0 ≤ x) (h1 : x < 65536) (y0 : 0 ≤ y) (y1 : y < 65536) (w : World) : Calls Tryz.prog 157 #[.int .i64 22, .int .u16 x, .int .u16 y] w fun e w' => e = .returned (.tuple #[.int .u16 (binF 22 x y), .bool true]) ∧ w = w' := by
  go_enter Tryz.func157, Tryz.ntmps157
  go_wp2
  go_ret2
  exact ⟨tup2 (bin_22 x y h0 h1 y0 y1), rfl⟩
set_option maxHeartbeats 400000 in
theorem binary_23 (x y : Int) (h0 : 0 ≤ x) (h1 : x < 65536) (y0 : 0 ≤ y) (y1 : y < 65536) (w : World) : Calls Tryz.prog 157 #[.int .i64 23, .int .u16 x, .int .u16 y] w fun e w' => e = .returned (.tuple #[.int .u16 (binF 23 x y), .bool true]) ∧ w = w' := by
  go_enter Tryz.func157, Tryz.ntmps157
  go_wp2
  go_ret2
  exact ⟨tup2 (bin_23 x y h0 h1 y0 y1), rfl⟩
set_option maxHeartbeats 400000 in
theorem binary_24 (x y : Int) (h0 : 0 ≤ x) (h1 : x < 65536) (y0 : 0 ≤ y) (y1 : y < 65536) (w : World) : Calls Tryz.prog 157 #[.int .i64 24, .int .u16 x, .int .u16 y] w fun e w' => e = .returned (.tuple #[.int .u16 (binF 24 x y), .bool true]) ∧ w = w' := by
  go_enter Tryz.func157, Tryz.ntmps157
  go_wp2_with (first | (go_at_call 175; refine (divided_24 _ _ (by assumption) (by assumption) (by assumption) (by assumption) _).mono ?_; rintro e w' ⟨rfl, rfl⟩))
  go_ret2
  exact ⟨rfl, rfl⟩
set_option maxHeartbeats 400000 in
theorem binary_25 (x y : Int) (h0 : 0 ≤ x) (h1 : x < 65536) (y0 : 0 ≤ y) (y1 : y < 65536) (w : World) : Calls Tryz.prog 157 #[.int .i64 25, .int .u16 x, .int .u16 y] w fun e w' => e = .returned (.tuple #[.int .u16 (binF 25 x y), .bool true]) ∧ w = w' := by
  go_enter Tryz.func157, Tryz.ntmps157
  go_wp2_with (first | (go_at_call 175; refine (divided_25 _ _ (by assumption) (by assumption) (by assumption) (by assumption) _).mono ?_; rintro e w' ⟨rfl, rfl⟩))
  go_ret2
  exact ⟨rfl, rfl⟩
set_option maxHeartbeats 400000 in
theorem binary_26 (x y : Int) (h0 : 0 ≤ x) (h1 : x < 65536) (y0 : 0 ≤ y) (y1 : y < 65536) (w : World) : Calls Tryz.prog 157 #[.int .i64 26, .int .u16 x, .int .u16 y] w fun e w' => e = .returned (.tuple #[.int .u16 (binF 26 x y), .bool true]) ∧ w = w' := by
  go_enter Tryz.func157, Tryz.ntmps157
  go_wp2_with (first | (go_at_call 175; refine (divided_26 _ _ (by assumption) (by assumption) (by assumption) (by assumption) _).mono ?_; rintro e w' ⟨rfl, rfl⟩))
  go_ret2
  exact ⟨rfl, rfl⟩
set_option maxHeartbeats 400000 in
theorem binary_27 (x y : Int) (h0 : 0 ≤ x) (h1 : x < 65536) (y0 : 0 ≤ y) (y1 : y < 65536) (w : World) : Calls Tryz.prog 157 #[.int .i64 27, .int .u16 x, .int .u16 y] w fun e w' => e = .returned (.tuple #[.int .u16 (binF 27 x y), .bool true]) ∧ w = w' := by
  go_enter Tryz.func157, Tryz.ntmps157
  go_wp2_with (first | (go_at_call 175; refine (divided_27 _ _ (by assumption) (by assumption) (by assumption) (by assumption) _).mono ?_; rintro e w' ⟨rfl, rfl⟩))
  go_ret2
  exact ⟨rfl, rfl⟩
set_option maxHeartbeats 400000 in
theorem binary_30 (x y : Int) (h0 : 0 ≤ x) (h1 : x < 65536) (y0 : 0 ≤ y) (y1 : y < 65536) (w : World) : Calls Tryz.prog 157 #[.int .i64 30, .int .u16 x, .int .u16 y] w fun e w' => e = .returned (.tuple #[.int .u16 (binF 30 x y), .bool true]) ∧ w = w' := by
  go_enter Tryz.func157, Tryz.ntmps157
  go_wp2_with (first | (go_at_call 176; refine (compared_30 _ _ (by assumption) (by assumption) (by assumption) (by assumption) _).mono ?_; rintro e w' ⟨rfl, rfl⟩))
  go_ret2
  exact ⟨rfl, rfl⟩
set_option maxHeartbeats 400000 in
theorem binary_31 (x y : Int) (h0 : 0 ≤ x) (h1 : x < 65536) (y0 : 0 ≤ y) (y1 : y < 65536) (w : World) : Calls Tryz.prog 157 #[.int .i64 31, .int .u16 x, .int .u16 y] w fun e w' => e = .returned (.tuple #[.int .u16 (binF 31 x y), .bool true]) ∧ w = w' := by
  go_enter Tryz.func157, Tryz.ntmps157
  go_wp2_with (first | (go_at_call 176; refine (compared_31 _ _ (by assumption) (by assumption) (by assumption) (by assumption) _).mono ?_; rintro e w' ⟨rfl, rfl⟩))
  go_ret2
  exact ⟨rfl, rfl⟩
set_option maxHeartbeats 400000 in
theorem binary_36 (x y : Int) (h0 : 0 ≤ x) (h1 : x < 65536) (y0 : 0 ≤ y) (y1 : y < 65536) (w : World) : Calls Tryz.prog 157 #[.int .i64 36, .int .u16 x, .int .u16 y] w fun e w' => e = .returned (.tuple #[.int .u16 (binF 36 x y), .bool true]) ∧ w = w' := by
  go_enter Tryz.func157, Tryz.ntmps157
  go_wp2
  go_ret2
  exact ⟨tup2 (bin_36 x y h0 h1 y0 y1), rfl⟩
set_option maxHeartbeats 400000 in
theorem binary_37 (x y : Int) (h0 : 0 ≤ x) (h1 : x < 65536) (y0 : 0 ≤ y) (y1 : y < 65536) (w : World) : Calls Tryz.prog 157 #[.int .i64 37, .int .u16 x, .int .u16 y] w fun e w' => e = .returned (.tuple #[.int .u16 (binF 37 x y), .bool true]) ∧ w = w' := by
  go_enter Tryz.func157, Tryz.ntmps157
  go_wp2
  go_ret2
  exact ⟨tup2 (bin_37 x y h0 h1 y0 y1), rfl⟩
set_option maxHeartbeats 400000 in
theorem binary_38 (x y : Int) (h0 : 0 ≤ x) (h1 : x < 65536) (y0 : 0 ≤ y) (y1 : y < 65536) (w : World) : Calls Tryz.prog 157 #[.int .i64 38, .int .u16 x, .int .u16 y] w fun e w' => e = .returned (.tuple #[.int .u16 (binF 38 x y), .bool true]) ∧ w = w' := by
  go_enter Tryz.func157, Tryz.ntmps157
  go_wp2
  go_ret2
  exact ⟨tup2 (bin_38 x y h0 h1 y0 y1), rfl⟩
set_option maxHeartbeats 400000 in
theorem binary_40 (x y : Int) (h0 : 0 ≤ x) (h1 : x < 65536) (y0 : 0 ≤ y) (y1 : y < 65536) (w : World) : Calls Tryz.prog 157 #[.int .i64 40, .int .u16 x, .int .u16 y] w fun e w' => e = .returned (.tuple #[.int .u16 (binF 40 x y), .bool true]) ∧ w = w' := by
  go_enter Tryz.func157, Tryz.ntmps157
  go_wp2
  go_ret2
  exact ⟨tup2 (bin_40 x y h0 h1 y0 y1), rfl⟩
set_option maxHeartbeats 400000 in
theorem binary_41 (x y : Int) (h0 : 0 ≤ x) (h1 : x < 65536) (y0 : 0 ≤ y) (y1 : y < 65536) (w : World) : Calls Tryz.prog 157 #[.int .i64 41, .int .u16 x, .int .u16 y] w fun e w' => e = .returned (.tuple #[.int .u16 (binF 41 x y), .bool true]) ∧ w = w' := by
  go_enter Tryz.func157, Tryz.ntmps157
  go_wp2
  go_ret2
  exact ⟨tup2 (bin_41 x y h0 h1 y0 y1), rfl⟩
set_option maxHeartbeats 400000 in
theorem binary_42 (x y : Int) (h0 : 0 ≤ x) (h1 : x < 65536) (y0 : 0 ≤ y) (y1 : y < 65536) (w : World) : Calls Tryz.prog 157 #[.int .i64 42, .int .u16 x, .int .u16 y] w fun e w' => e = .returned (.tuple #[.int .u16 (binF 42 x y), .bool true]) ∧ w = w' := by
  go_enter Tryz.func157, Tryz.ntmps157
  go_wp2_with (first | (go_at_call 176; refine (compared_42 _ _ (by assumption) (by assumption) (by assumption) (by assumption) _).mono ?_; rintro e w' ⟨rfl, rfl⟩))
  go_ret2
  exact ⟨rfl, rfl⟩
set_option maxHeartbeats 400000 in
theorem binary_43 (x y : Int) (h0 : 0 ≤ x) (h1 : x < 65536) (y0 : 0 ≤ y) (y1 : y < 65536) (w : World) : Calls Tryz.prog 157 #[.int .i64 43, .int .u16 x, .int .u16 y] w fun e w' => e = .returned (.tuple #[.int .u16 (binF 43 x y), .bool true]) ∧ w = w' := by
  go_enter Tryz.func157, Tryz.ntmps157
  go_wp2_with (first | (go_at_call 176; refine (compared_43 _ _ (by assumption) (by assumption) (by assumption) (by assumption) _).mono ?_; rintro e w' ⟨rfl, rfl⟩))
  go_ret2
  exact ⟨rfl, rfl⟩
set_option maxHeartbeats 400000 in
theorem binary_44 (x y : Int) (h0 : 0 ≤ x) (h1 : x < 65536) (y0 : 0 ≤ y) (y1 : y < 65536) (w : World) : Calls Tryz.prog 157 #[.int .i64 44, .int .u16 x, .int .u16 y] w fun e w' => e = .returned (.tuple #[.int .u16 (binF 44 x y), .bool true]) ∧ w = w' := by
  go_enter Tryz.func157, Tryz.ntmps157
  go_wp2_with (first | (go_at_call 176; refine (compared_44 _ _ (by assumption) (by assumption) (by assumption) (by assumption) _).mono ?_; rintro e w' ⟨rfl, rfl⟩))
  go_ret2
  exact ⟨rfl, rfl⟩
set_option maxHeartbeats 400000 in
theorem binary_45 (x y : Int) (h0 : 0 ≤ x) (h1 : x < 65536) (y0 : 0 ≤ y) (y1 : y < 65536) (w : World) : Calls Tryz.prog 157 #[.int .i64 45, .int .u16 x, .int .u16 y] w fun e w' => e = .returned (.tuple #[.int .u16 (binF 45 x y), .bool true]) ∧ w = w' := by
  go_enter Tryz.func157, Tryz.ntmps157
  go_wp2_with (first | (go_at_call 176; refine (compared_45 _ _ (by assumption) (by assumption) (by assumption) (by assumption) _).mono ?_; rintro e w' ⟨rfl, rfl⟩))
  go_ret2
  exact ⟨rfl, rfl⟩
set_option maxHeartbeats 400000 in
theorem binary_46 (x y : Int) (h0 : 0 ≤ x) (h1 : x < 65536) (y0 : 0 ≤ y) (y1 : y < 65536) (w : World) : Calls Tryz.prog 157 #[.int .i64 46, .int .u16 x, .int .u16 y] w fun e w' => e = .returned (.tuple #[.int .u16 (binF 46 x y), .bool true]) ∧ w = w' := by
  go_enter Tryz.func157, Tryz.ntmps157
  go_wp2_with (first | (go_at_call 176; refine (compared_46 _ _ (by assumption) (by assumption) (by assumption) (by assumption) _).mono ?_; rintro e w' ⟨rfl, rfl⟩))
  go_ret2
  exact ⟨rfl, rfl⟩
set_option maxHeartbeats 400000 in
theorem binary_47 (x y : Int) (h0 : 0 ≤ x) (h1 : x < 65536) (y0 : 0 ≤ y) (y1 : y < 65536) (w : World) : Calls Tryz.prog 157 #[.int .i64 47, .int .u16 x, .int .u16 y] w fun e w' => e = .returned (.tuple #[.int .u16 (binF 47 x y), .bool true]) ∧ w = w' := by
  go_enter Tryz.func157, Tryz.ntmps157
  go_wp2_with (first | (go_at_call 176; refine (compared_47 _ _ (by assumption) (by assumption) (by assumption) (by assumption) _).mono ?_; rintro e w' ⟨rfl, rfl⟩))
  go_ret2
  exact ⟨rfl, rfl⟩
end Go.Proofs.YtdnalhjdmlkbmaaGreatDoor
namespace Go.Proofs.YtdnalhjdmlkbmaaGreatDoor
open Go.RowKit
set_option linter.unusedVariables false
theorem ret64R {a b : Int} (h : a = b) : Ending.returned (.int .i64 a) = .returned (.int .i64 b) := by rw [h]
theorem ret16R {a b : Int} (h : a = b) : Ending.returned (.int .u16 a) = .returned (.int .u16 b) := by rw [h]
theorem refSigned_any (x : Int) (w : World) (h0 : 0 ≤ x) (h1 : x < 65536) : Calls Tryz.prog 140 #[.int .u16 x] w fun e w' => e = .returned (.int .i64 (sgn x)) ∧ w = w' := by
  have hw : IntKind.i64.wrap x = x := IntWalk.i64_in _ (by omega)
  by_cases h : 32768 ≤ x
  · have hb : decide (32768 ≤ x) = true := by simpa using h
    have HS := Lib.hid (show sgn x = x - 65536 from if_neg (by omega))
    go_enter Tryz.func140, Tryz.ntmps140
    go_wp2
    go_ret
    exact ⟨ret64R (by rw [HS.out]), rfl⟩
  · have hb : decide (32768 ≤ x) = false := by simp; omega
    have HS := Lib.hid (show sgn x = x from if_pos (by omega))
    go_enter Tryz.func140, Tryz.ntmps140
    go_wp2
    go_ret
    exact ⟨ret64R (by rw [HS.out]), rfl⟩
theorem tmod_rng (n : Int) : -65536 < n.tmod 65536 ∧ n.tmod 65536 < 65536 := by
  have h1 := Int.tmod_lt_of_pos n (b := 65536) (by omega)
  have h2 := Int.tmod_lt_of_pos (-n) (b := 65536) (by omega)
  rw [Int.neg_tmod] at h2
  omega
theorem refCellN_any (n : Int) (w : World) : Calls Tryz.prog 141 #[.int .i64 n] w fun e w' => e = .returned (.int .u16 (n % 65536)) ∧ w = w' := by
  have hv := r_cell n
  have ht := tmod_rng n
  obtain ⟨t, htt⟩ : ∃ t, t = n.tmod 65536 := ⟨_, rfl⟩
  by_cases h : n.tmod 65536 < 0
  · have hb : decide (n.tmod 65536 < 0) = true := by simpa using h
    rw [if_pos h] at hv
    have HV := Lib.hid hv
    have hw2 : wrap64 (n.tmod 65536 + 65536) = n.tmod 65536 + 65536 := by unfold wrap64; omega
    have hw3 : IntKind.u16.wrap (n.tmod 65536 + 65536) = n.tmod 65536 + 65536 := wrap_u16_id _ (by omega) (by omega)
    clear hv htt
    go_enter Tryz.func141, Tryz.ntmps141
    go_wp2
    go_ret
    exact ⟨ret16R (by rw [← HV.out]), rfl⟩
  · have hb : decide (n.tmod 65536 < 0) = false := by simp; omega
    rw [if_neg h] at hv
    have HV := Lib.hid hv
    have hw3 : IntKind.u16.wrap (n.tmod 65536) = n.tmod 65536 := wrap_u16_id _ (by omega) (by omega)
    clear hv htt
    go_enter Tryz.func141, Tryz.ntmps141
    go_wp2
    go_ret
    exact ⟨ret16R (by rw [← HV.out]), rfl⟩
theorem refFlag_any (b : Bool) (w : World) : Calls Tryz.prog 143 #[.bool b] w fun e w' => e = .returned (.int .u16 (flagB b)) ∧ w = w' := by
  cases b
  · go_enter Tryz.func143, Tryz.ntmps143
    go_wp2
    go_ret
    exact ⟨rfl, rfl⟩
  · go_enter Tryz.func143, Tryz.ntmps143
    go_wp2
    go_ret
    exact ⟨rfl, rfl⟩
theorem refHalf_any (s : Int) (w : World) (h0 : -65536 ≤ s) (h1 : s ≤ 65536) : Calls Tryz.prog 142 #[.int .i64 s] w fun e w' => e = .returned (.int .i64 (s / 2)) ∧ w = w' := by
  have hv := r_half s
  have ht : -65536 ≤ s.tdiv 2 ∧ s.tdiv 2 ≤ 65536 := by
    rcases Int.le_total 0 s with h | h
    · rw [Int.tdiv_eq_ediv_of_nonneg h]; omega
    · have := Int.neg_tdiv (-s) 2
      rw [Int.neg_neg] at this
      rw [this, Int.tdiv_eq_ediv_of_nonneg (by omega)]; omega
  have hw1 : wrap64 (s.tdiv 2) = s.tdiv 2 := by unfold wrap64; omega
  have hw2 : wrap64 (2 * s.tdiv 2) = 2 * s.tdiv 2 := by unfold wrap64; omega
  have hw3 : wrap64 (s.tdiv 2 - 1) = s.tdiv 2 - 1 := by unfold wrap64; omega
  by_cases h : s < 2 * s.tdiv 2
  · have hb : decide (s < 2 * s.tdiv 2) = true := by simpa using h
    rw [if_pos h] at hv
    have HV := Lib.hid hv
    clear hv ht h
    go_enter Tryz.func142, Tryz.ntmps142
    go_wp2
    go_ret
    exact ⟨ret64R (by rw [← HV.out] <;> first | exact hw3 | exact hw1), rfl⟩
  · have hb : decide (s < 2 * s.tdiv 2) = false := by simp; omega
    rw [if_neg h] at hv
    have HV := Lib.hid hv
    clear hv ht h
    go_enter Tryz.func142, Tryz.ntmps142
    go_wp2
    go_ret
    exact ⟨ret64R (by rw [← HV.out] <;> first | exact hw3 | exact hw1), rfl⟩
theorem refAway_any (s : Int) (w : World) (h0 : -65536 ≤ s) (h1 : s ≤ 65536) : Calls Tryz.prog 198 #[.int .i64 s] w fun e w' => e = .returned (.int .i64 (awayF s)) ∧ w = w' := by
  by_cases h : s < 0
  · have hb : decide (s < 0) = true := by simpa using h
    have HV := Lib.hid (show awayF s = -s from if_pos h)
    have hw : wrap64 (-s) = -s := by unfold wrap64; omega
    go_enter Tryz.func198, Tryz.ntmps198
    go_wp2
    go_ret
    exact ⟨ret64R (by rw [HV.out]), rfl⟩
  · have hb : decide (s < 0) = false := by simp; omega
    have HV := Lib.hid (show awayF s = s from if_neg h)
    go_enter Tryz.func198, Tryz.ntmps198
    go_wp2
    go_ret
    exact ⟨ret64R (by rw [HV.out]), rfl⟩
theorem refQuot_any (s t : Int) (w : World) (h0 : -65536 ≤ s) (h1 : s ≤ 65536) (t0 : -65536 ≤ t) (t1 : t ≤ 65536) (ht : t ≠ 0) : Calls Tryz.prog 167 #[.int .i64 s, .int .i64 t] w fun e w' => e = .returned (.int .i64 (s.tdiv t)) ∧ w = w' := by
  have hv := away_tdiv s t
  have hne : awayF t ≠ 0 := by unfold awayF; split <;> omega
  have hz : (awayF t == 0) = false := by simpa using hne
  have h2 : 0 ≤ awayF s ∧ awayF s ≤ 65536 := by unfold awayF; split <;> omega
  have h3 : 0 < awayF t := by unfold awayF at hne ⊢; split <;> omega
  have h4 : 0 ≤ (awayF s).tdiv (awayF t) ∧ (awayF s).tdiv (awayF t) ≤ 65536 := by
    rw [Int.tdiv_eq_ediv_of_nonneg h2.1]
    have h5 := Int.ediv_le_self (awayF t) h2.1
    have h6 := Int.ediv_nonneg h2.1 (by omega : 0 ≤ awayF t)
    omega
  obtain ⟨q, hq⟩ : ∃ q, q = (awayF s).tdiv (awayF t) := ⟨_, rfl⟩
  have hw : wrap64 ((awayF s).tdiv (awayF t)) = q := by rw [← hq] at h4 ⊢; unfold wrap64; omega
  have hw2 : wrap64 (-q) = -q := by rw [← hq] at h4; unfold wrap64; omega
  rw [← hq] at hv
  have HV := Lib.hid hv
  clear hv h2 h3 h4 hq
  go_enter Tryz.func167, Tryz.ntmps167
  go_wp2_with fail
  refine (refAway_any s _ h0 h1).mono ?_
  rintro e w' ⟨rfl, rfl⟩
  go_wp2_with fail
  refine (refAway_any t _ t0 t1).mono ?_
  rintro e w' ⟨rfl, rfl⟩
  by_cases hs : s < 0
  · have b1 : decide (s < 0) = true := by simpa using hs
    by_cases htt : t < 0
    · have b2 : decide (t < 0) = true := by simpa using htt
      have hx := HV.out
      rw [b1, b2] at hx
      have HX := Lib.hid hx
      clear hx
      go_wp2
      go_ret
      exact ⟨ret64R (by first | (rw [hw]; simpa using HX.out) | (rw [hw2]; simpa using HX.out) | simpa using HX.out), rfl⟩
    · have b2 : decide (t < 0) = false := by simp; omega
      have hx := HV.out
      rw [b1, b2] at hx
      have HX := Lib.hid hx
      clear hx
      go_wp2
      go_ret
      exact ⟨ret64R (by first | (rw [hw]; simpa using HX.out) | (rw [hw2]; simpa using HX.out) | simpa using HX.out), rfl⟩
  · have b1 : decide (s < 0) = false := by simp; omega
    by_cases htt : t < 0
    · have b2 : decide (t < 0) = true := by simpa using htt
      have hx := HV.out
      rw [b1, b2] at hx
      have HX := Lib.hid hx
      clear hx
      go_wp2
      go_ret
      exact ⟨ret64R (by first | (rw [hw]; simpa using HX.out) | (rw [hw2]; simpa using HX.out) | simpa using HX.out), rfl⟩
    · have b2 : decide (t < 0) = false := by simp; omega
      have hx := HV.out
      rw [b1, b2] at hx
      have HX := Lib.hid hx
      clear hx
      go_wp2
      go_ret
      exact ⟨ret64R (by first | (rw [hw]; simpa using HX.out) | (rw [hw2]; simpa using HX.out) | simpa using HX.out), rfl⟩
theorem refPower_any (n : Nat) (hn : n ≤ 16) (w : World) : Calls Tryz.prog 146 #[.int .i64 n] w fun e w' => e = .returned (.int .i64 ((2 ^ n : Nat) : Int)) ∧ w = w' := by
  go_enter Tryz.func146, Tryz.ntmps146
  go_wp2_with fail
  go_loopw [3, 4] (fun v3 v4 wr => ∃ k : Nat, k ≤ n ∧ v3 = .int .i64 ((2 ^ k : Nat) : Int) ∧ v4 = .int .i64 k ∧ w = wr) (fun _ v _ => n - (intOf v).toNat)
  case atStart => exact ⟨0, Nat.zero_le _, rfl, rfl, rfl⟩
  case round =>
    obtain ⟨k, hk, rfl, rfl, rfl⟩ := hrel
    have hp : (2 ^ k : Nat) ≤ 65536 := by rw [show (65536 : Nat) = 2 ^ 16 from rfl]; exact Nat.pow_le_pow_right (by omega) (by omega)
    obtain ⟨p, hpp⟩ : ∃ p : Nat, p = 2 ^ k := ⟨_, rfl⟩
    rw [← hpp] at hp ⊢
    have HP := Lib.hid hpp
    clear hpp
    by_cases hlt : k < n
    · have hw : wrap64 (2 * (p : Int)) = 2 * (p : Int) := by unfold wrap64; omega
      go_wp2
      go_roundw
      case rel => exact ⟨k + 1, by omega, by rw [Nat.pow_succ, ← HP.out]; simp; omega, by go_num, by first | rfl | trivial⟩
      case measure => simp [intOf]; omega
    · obtain rfl : n = k := by omega
      go_wp2
      go_ret
      exact ⟨ret64R (by rw [HP.out]), rfl⟩
end Go.Proofs.YtdnalhjdmlkbmaaGreatDoor
namespace Go.Proofs.YtdnalhjdmlkbmaaGreatDoor
open Go.RowKit
set_option linter.unusedVariables false
theorem tmod_two (n : Nat) : (n : Int).tmod 2 = ((n % 2 : Nat) : Int) := by rw [Int.tmod_eq_emod_of_nonneg (Int.natCast_nonneg _)]; omega
theorem wrap64_small (n : Nat) (h : n ≤ 1000000) : wrap64 (n : Int) = n := by unfold wrap64; omega
theorem wrap64_add (a b : Nat) (h : a ≤ 1000000) (h2 : b ≤ 1000000) : wrap64 ((a : Int) + b) = (a : Int) + b := by unfold wrap64; omega
theorem wrap64_dbl (a : Nat) (h : a ≤ 1000000) : wrap64 ((a : Int) * 2) = (a : Int) * 2 := by unfold wrap64; omega
/-- bits, step by step: what has come out, the power, the two digits. -/
structure BitsAt (k x y : Nat) (F P X Y : Nat → Nat) : Prop where
  f0 : F 0 = 0
  p0 : P 0 = 1
  pl : ∀ i, i ≤ 16 → 0 < P i ∧ P i ≤ 65536
  p1 : ∀ i, P (i + 1) = P i * 2
  fl : ∀ i, F i < P i
  xq : ∀ i, (x : Int).tdiv (P i) = X i
  yq : ∀ i, (y : Int).tdiv (P i) = Y i
  xl : ∀ i, X i ≤ 65536
  yl : ∀ i, Y i ≤ 65536
  st : ∀ i, F (i + 1) = F i + (if oneB k (X i % 2) (Y i % 2) then P i else 0)
  fe : F 16 = bitN k x y
theorem bitsAt (k x y : Nat) (hx : x < 65536) (hy : y < 65536) : BitsAt k x y (fun i => bitN k x y % 2 ^ i) (fun i => 2 ^ i) (fun i => x / 2 ^ i) (fun i => y / 2 ^ i) :=
  ⟨by show _ % 2 ^ 0 = 0; rw [Nat.pow_zero, Nat.mod_one], rfl, fun i hi => ⟨Nat.pow_pos (by omega), by show 2 ^ i ≤ 65536; rw [show (65536 : Nat) = 2 ^ 16 from rfl]; exact Nat.pow_le_pow_right (by omega) hi⟩, fun i => Nat.pow_succ .., fun i => Nat.mod_lt _ (Nat.pow_pos (by omega)),
    fun i => (Int.ofNat_tdiv x (2 ^ i)).symm, fun i => (Int.ofNat_tdiv y (2 ^ i)).symm, fun i => Nat.le_trans (Nat.div_le_self _ _) (by omega), fun i => Nat.le_trans (Nat.div_le_self _ _) (by omega), fun i => bitN_step k x y i,
    Nat.mod_eq_of_lt (by rw [show (2 : Nat) ^ 16 = 65536 from rfl]; exact bitN_lt k x y hx hy)⟩
set_option maxHeartbeats 1000000 in
theorem refBits_36 (x y : Nat) (hx : x < 65536) (hy : y < 65536) (w : World) : Calls Tryz.prog 145 #[.int .i64 36, .int .u16 x, .int .u16 y] w fun e w' => e = .returned (.int .u16 (binF 36 x y)) ∧ w = w' := by
  have HB := Lib.hid (bitN_bits 36 x y hx hy (by omega))
  have HLT := Lib.hid (bitN_lt 36 x y hx hy)
  obtain ⟨F, P, X, Y, hF⟩ : ∃ F P X Y : Nat → Nat, BitsAt 36 x y F P X Y := ⟨_, _, _, _, bitsAt 36 x y hx hy⟩
  have HF := Lib.hid hF
  have hx0 : IntKind.i64.wrap (x : Int) = x := IntWalk.i64_in _ (by omega)
  have hy0 : IntKind.i64.wrap (y : Int) = y := IntWalk.i64_in _ (by omega)
  clear hF
  go_enter Tryz.func145, Tryz.ntmps145
  go_wp2_with fail
  go_loopw [7, 8, 9] (fun v7 v8 v9 wr => ∃ i : Nat, i ≤ 16 ∧ v7 = .int .i64 (F i) ∧ v8 = .int .i64 i ∧ v9 = .int .i64 (P i) ∧ w = wr) (fun _ v _ _ => 16 - (intOf v).toNat)
  case atStart => exact ⟨0, by omega, by rw [HF.out.f0]; rfl, rfl, by rw [HF.out.p0]; rfl, rfl⟩
  case round =>
    obtain ⟨i, hi, rfl, rfl, rfl, rfl⟩ := hrel
    by_cases hlt : i < 16
    · have hp := HF.out.pl i hi
      have hp1 := HF.out.p1 i
      have hst := HF.out.st i
      have hol := HF.out.fl i
      have g1 := HF.out.xq i
      have g2 := HF.out.yq i
      have hXl := HF.out.xl i
      have hYl := HF.out.yl i
      obtain ⟨p, hpp⟩ : ∃ p : Nat, p = P i := ⟨_, rfl⟩
      obtain ⟨O, hO⟩ : ∃ O : Nat, O = F i := ⟨_, rfl⟩
      obtain ⟨X0, hX⟩ : ∃ q : Nat, q = X i := ⟨_, rfl⟩
      obtain ⟨Y0, hY⟩ : ∃ q : Nat, q = Y i := ⟨_, rfl⟩
      rw [← hpp] at hp hp1 hst hol g1 g2 ⊢
      rw [← hO] at hst hol ⊢
      rw [← hX] at hst g1 hXl
      rw [← hY] at hst g2 hYl
      have HST := Lib.hid hst
      have HG := Lib.hid (And.intro g1 g2)
      clear hst g1 g2
      have hz : ((p : Int) == 0) = false := by simp; omega
      have hA2 : X0 % 2 = 0 ∨ X0 % 2 = 1 := by omega
      have hB2 : Y0 % 2 = 0 ∨ Y0 % 2 = 1 := by omega
      have k1 : X0 ≤ 1000000 := by omega
      have k2 : Y0 ≤ 1000000 := by omega
      have k3 : O ≤ 1000000 := by omega
      have k4 : p ≤ 1000000 := by omega
      have g3 := wrap64_small X0 k1
      have g4 := wrap64_small Y0 k2
      have hw := wrap64_add O p k3 k4
      have hw2 := wrap64_dbl p k4
      have g5 := tmod_two X0
      have g6 := tmod_two Y0
      obtain ⟨g1, g2⟩ := HG.out
      have HP1 := Lib.hid hp1
      have hp0 := hp.1
      have hp2 := hp.2
      clear hp1 hpp hO hX hY hol hp hXl hYl k1 k2 k3 k4
      rcases hA2 with hA | hA <;> rcases hB2 with hB' | hB'
      all_goals
        have hst := HST.out
        rw [hA, hB'] at hst
        rw [hA] at g5
        rw [hB'] at g6
        simp [oneB] at hst
        have HS := Lib.hid hst
        clear hst hA hB' HST HG
        go_wp2
        go_roundw
        case rel => exact ⟨i + 1, hlt, by (rw [HS.out]) <;> simp [hw], by go_num, by (rw [HP1.out]) <;> simp [hw2], by first | rfl | trivial⟩
        case measure =>
          clear g3 g4 hw hw2 hx0 hy0
          simp [intOf]
          omega
    · obtain rfl : i = 16 := by omega
      have hfe := HF.out.fe
      have HFE := Lib.hid hfe
      clear hfe
      go_wp2_with fail
      refine (refCellN_any _ _).mono ?_
      rintro e w' ⟨rfl, rfl⟩
      go_wp2
      go_ret
      have h1 := HB.out
      have h2 := HLT.out
      exact ⟨ret16R (by rw [← h1, HFE.out]; omega), rfl⟩
set_option maxHeartbeats 1000000 in
theorem refBits_37 (x y : Nat) (hx : x < 65536) (hy : y < 65536) (w : World) : Calls Tryz.prog 145 #[.int .i64 37, .int .u16 x, .int .u16 y] w fun e w' => e = .returned (.int .u16 (binF 37 x y)) ∧ w = w' := by
  have HB := Lib.hid (bitN_bits 37 x y hx hy (by omega))
  have HLT := Lib.hid (bitN_lt 37 x y hx hy)
  obtain ⟨F, P, X, Y, hF⟩ : ∃ F P X Y : Nat → Nat, BitsAt 37 x y F P X Y := ⟨_, _, _, _, bitsAt 37 x y hx hy⟩
  have HF := Lib.hid hF
  have hx0 : IntKind.i64.wrap (x : Int) = x := IntWalk.i64_in _ (by omega)
  have hy0 : IntKind.i64.wrap (y : Int) = y := IntWalk.i64_in _ (by omega)
  clear hF
  go_enter Tryz.func145, Tryz.ntmps145
  go_wp2_with fail
  go_loopw [7, 8, 9] (fun v7 v8 v9 wr => ∃ i : Nat, i ≤ 16 ∧ v7 = .int .i64 (F i) ∧ v8 = .int .i64 i ∧ v9 = .int .i64 (P i) ∧ w = wr) (fun _ v _ _ => 16 - (intOf v).toNat)
  case atStart => exact ⟨0, by omega, by rw [HF.out.f0]; rfl, rfl, by rw [HF.out.p0]; rfl, rfl⟩
  case round =>
    obtain ⟨i, hi, rfl, rfl, rfl, rfl⟩ := hrel
    by_cases hlt : i < 16
    · have hp := HF.out.pl i hi
      have hp1 := HF.out.p1 i
      have hst := HF.out.st i
      have hol := HF.out.fl i
      have g1 := HF.out.xq i
      have g2 := HF.out.yq i
      have hXl := HF.out.xl i
      have hYl := HF.out.yl i
      obtain ⟨p, hpp⟩ : ∃ p : Nat, p = P i := ⟨_, rfl⟩
      obtain ⟨O, hO⟩ : ∃ O : Nat, O = F i := ⟨_, rfl⟩
      obtain ⟨X0, hX⟩ : ∃ q : Nat, q = X i := ⟨_, rfl⟩
      obtain ⟨Y0, hY⟩ : ∃ q : Nat, q = Y i := ⟨_, rfl⟩
      rw [← hpp] at hp hp1 hst hol g1 g2 ⊢
      rw [← hO] at hst hol ⊢
      rw [← hX] at hst g1 hXl
      rw [← hY] at hst g2 hYl
      have HST := Lib.hid hst
      have HG := Lib.hid (And.intro g1 g2)
      clear hst g1 g2
      have hz : ((p : Int) == 0) = false := by simp; omega
      have hA2 : X0 % 2 = 0 ∨ X0 % 2 = 1 := by omega
      have hB2 : Y0 % 2 = 0 ∨ Y0 % 2 = 1 := by omega
      have k1 : X0 ≤ 1000000 := by omega
      have k2 : Y0 ≤ 1000000 := by omega
      have k3 : O ≤ 1000000 := by omega
      have k4 : p ≤ 1000000 := by omega
      have g3 := wrap64_small X0 k1
      have g4 := wrap64_small Y0 k2
      have hw := wrap64_add O p k3 k4
      have hw2 := wrap64_dbl p k4
      have g5 := tmod_two X0
      have g6 := tmod_two Y0
      obtain ⟨g1, g2⟩ := HG.out
      have HP1 := Lib.hid hp1
      have hp0 := hp.1
      have hp2 := hp.2
      clear hp1 hpp hO hX hY hol hp hXl hYl k1 k2 k3 k4
      rcases hA2 with hA | hA <;> rcases hB2 with hB' | hB'
      all_goals
        have hst := HST.out
        rw [hA, hB'] at hst
        rw [hA] at g5
        rw [hB'] at g6
        simp [oneB] at hst
        have HS := Lib.hid hst
        clear hst hA hB' HST HG
        go_wp2
        go_roundw
        case rel => exact ⟨i + 1, hlt, by (rw [HS.out]) <;> simp [hw], by go_num, by (rw [HP1.out]) <;> simp [hw2], by first | rfl | trivial⟩
        case measure =>
          clear g3 g4 hw hw2 hx0 hy0
          simp [intOf]
          omega
    · obtain rfl : i = 16 := by omega
      have hfe := HF.out.fe
      have HFE := Lib.hid hfe
      clear hfe
      go_wp2_with fail
      refine (refCellN_any _ _).mono ?_
      rintro e w' ⟨rfl, rfl⟩
      go_wp2
      go_ret
      have h1 := HB.out
      have h2 := HLT.out
      exact ⟨ret16R (by rw [← h1, HFE.out]; omega), rfl⟩
set_option maxHeartbeats 1000000 in
theorem refBits_38 (x y : Nat) (hx : x < 65536) (hy : y < 65536) (w : World) : Calls Tryz.prog 145 #[.int .i64 38, .int .u16 x, .int .u16 y] w fun e w' => e = .returned (.int .u16 (binF 38 x y)) ∧ w = w' := by
  have HB := Lib.hid (bitN_bits 38 x y hx hy (by omega))
  have HLT := Lib.hid (bitN_lt 38 x y hx hy)
  obtain ⟨F, P, X, Y, hF⟩ : ∃ F P X Y : Nat → Nat, BitsAt 38 x y F P X Y := ⟨_, _, _, _, bitsAt 38 x y hx hy⟩
  have HF := Lib.hid hF
  have hx0 : IntKind.i64.wrap (x : Int) = x := IntWalk.i64_in _ (by omega)
  have hy0 : IntKind.i64.wrap (y : Int) = y := IntWalk.i64_in _ (by omega)
  clear hF
  go_enter Tryz.func145, Tryz.ntmps145
  go_wp2_with fail
  go_loopw [7, 8, 9] (fun v7 v8 v9 wr => ∃ i : Nat, i ≤ 16 ∧ v7 = .int .i64 (F i) ∧ v8 = .int .i64 i ∧ v9 = .int .i64 (P i) ∧ w = wr) (fun _ v _ _ => 16 - (intOf v).toNat)
  case atStart => exact ⟨0, by omega, by rw [HF.out.f0]; rfl, rfl, by rw [HF.out.p0]; rfl, rfl⟩
  case round =>
    obtain ⟨i, hi, rfl, rfl, rfl, rfl⟩ := hrel
    by_cases hlt : i < 16
    · have hp := HF.out.pl i hi
      have hp1 := HF.out.p1 i
      have hst := HF.out.st i
      have hol := HF.out.fl i
      have g1 := HF.out.xq i
      have g2 := HF.out.yq i
      have hXl := HF.out.xl i
      have hYl := HF.out.yl i
      obtain ⟨p, hpp⟩ : ∃ p : Nat, p = P i := ⟨_, rfl⟩
      obtain ⟨O, hO⟩ : ∃ O : Nat, O = F i := ⟨_, rfl⟩
      obtain ⟨X0, hX⟩ : ∃ q : Nat, q = X i := ⟨_, rfl⟩
      obtain ⟨Y0, hY⟩ : ∃ q : Nat, q = Y i := ⟨_, rfl⟩
      rw [← hpp] at hp hp1 hst hol g1 g2 ⊢
      rw [← hO] at hst hol ⊢
      rw [← hX] at hst g1 hXl
      rw [← hY] at hst g2 hYl
      have HST := Lib.hid hst
      have HG := Lib.hid (And.intro g1 g2)
      clear hst g1 g2
      have hz : ((p : Int) == 0) = false := by simp; omega
      have hA2 : X0 % 2 = 0 ∨ X0 % 2 = 1 := by omega
      have hB2 : Y0 % 2 = 0 ∨ Y0 % 2 = 1 := by omega
      have k1 : X0 ≤ 1000000 := by omega
      have k2 : Y0 ≤ 1000000 := by omega
      have k3 : O ≤ 1000000 := by omega
      have k4 : p ≤ 1000000 := by omega
      have g3 := wrap64_small X0 k1
      have g4 := wrap64_small Y0 k2
      have hw := wrap64_add O p k3 k4
      have hw2 := wrap64_dbl p k4
      have g5 := tmod_two X0
      have g6 := tmod_two Y0
      obtain ⟨g1, g2⟩ := HG.out
      have HP1 := Lib.hid hp1
      have hp0 := hp.1
      have hp2 := hp.2
      clear hp1 hpp hO hX hY hol hp hXl hYl k1 k2 k3 k4
      rcases hA2 with hA | hA <;> rcases hB2 with hB' | hB'
      all_goals
        have hst := HST.out
        rw [hA, hB'] at hst
        rw [hA] at g5
        rw [hB'] at g6
        simp [oneB] at hst
        have HS := Lib.hid hst
        clear hst hA hB' HST HG
        go_wp2
        go_roundw
        case rel => exact ⟨i + 1, hlt, by (rw [HS.out]) <;> simp [hw], by go_num, by (rw [HP1.out]) <;> simp [hw2], by first | rfl | trivial⟩
        case measure =>
          clear g3 g4 hw hw2 hx0 hy0
          simp [intOf]
          omega
    · obtain rfl : i = 16 := by omega
      have hfe := HF.out.fe
      have HFE := Lib.hid hfe
      clear hfe
      go_wp2_with fail
      refine (refCellN_any _ _).mono ?_
      rintro e w' ⟨rfl, rfl⟩
      go_wp2
      go_ret
      have h1 := HB.out
      have h2 := HLT.out
      exact ⟨ret16R (by rw [← h1, HFE.out]; omega), rfl⟩
end Go.Proofs.YtdnalhjdmlkbmaaGreatDoor
namespace Go.Proofs.YtdnalhjdmlkbmaaGreatDoor
open Go.RowKit
set_option linter.unusedVariables false
theorem tupR {a b : Int} (h : a = b) : Ending.returned (.tuple #[.int .u16 a, .bool true]) = .returned (.tuple #[.int .u16 b, .bool true]) := by rw [h]
set_option maxHeartbeats 400000 in
theorem refUn_28 (x : Int) (h0 : 0 ≤ x) (h1 : x < 65536) (w : World) : Calls Tryz.prog 103 #[.int .i64 28, .int .u16 x] w fun e w' => e = .returned (.tuple #[.int .u16 (unF 28 x), .bool true]) ∧ w = w' := by
  have hr := sgn_rng x h0 h1
  have hw0 : IntKind.i64.wrap x = x := IntWalk.i64_in _ (by omega)
  have hw1 : wrap64 (-x) = -x := by unfold wrap64; omega
  have hw2 : wrap64 (x + 1) = x + 1 := by unfold wrap64; omega
  have hw3 : wrap64 (x - 1) = x - 1 := by unfold wrap64; omega
  have hw4 : wrap64 (2 * x) = 2 * x := by unfold wrap64; omega
  have hw5 : wrap64 (65535 - x) = 65535 - x := by unfold wrap64; omega
  have hw6 : wrap64 (-(sgn x)) = -(sgn x) := by unfold wrap64; omega
  clear hw2 hw3 hw4 hw5 hw6
  go_enter Tryz.func103, Tryz.ntmps103
  go_wp2_with (first | (go_at_call 140; refine (refSigned_any _ _ (by assumption) (by assumption)).mono ?_; rintro e w' ⟨rfl, rfl⟩) | (go_at_call 141; refine (refCellN_any _ _).mono ?_; rintro e w' ⟨rfl, rfl⟩) | (go_at_call 143; refine (refFlag_any _ _).mono ?_; rintro e w' ⟨rfl, rfl⟩) | (go_at_call 142; refine (refHalf_any _ _ (by omega) (by omega)).mono ?_; rintro e w' ⟨rfl, rfl⟩) | (go_at_call 167; refine (refQuot_any _ _ _ (by omega) (by omega) (by omega) (by omega) (by assumption)).mono ?_; rintro e w' ⟨rfl, rfl⟩))
  go_ret2
  exact ⟨tupR (by first | exact u_28 x | exact u_28 x h0 h1 | (simp only [*]; first | exact u_28 x | exact u_28 x h0 h1)), rfl⟩
set_option maxHeartbeats 400000 in
theorem refUn_32 (x : Int) (h0 : 0 ≤ x) (h1 : x < 65536) (w : World) : Calls Tryz.prog 103 #[.int .i64 32, .int .u16 x] w fun e w' => e = .returned (.tuple #[.int .u16 (unF 32 x), .bool true]) ∧ w = w' := by
  have hr := sgn_rng x h0 h1
  have hw0 : IntKind.i64.wrap x = x := IntWalk.i64_in _ (by omega)
  have hw1 : wrap64 (-x) = -x := by unfold wrap64; omega
  have hw2 : wrap64 (x + 1) = x + 1 := by unfold wrap64; omega
  have hw3 : wrap64 (x - 1) = x - 1 := by unfold wrap64; omega
  have hw4 : wrap64 (2 * x) = 2 * x := by unfold wrap64; omega
  have hw5 : wrap64 (65535 - x) = 65535 - x := by unfold wrap64; omega
  have hw6 : wrap64 (-(sgn x)) = -(sgn x) := by unfold wrap64; omega
  clear hw1 hw3 hw4 hw5 hw6
  go_enter Tryz.func103, Tryz.ntmps103
  go_wp2_with (first | (go_at_call 140; refine (refSigned_any _ _ (by assumption) (by assumption)).mono ?_; rintro e w' ⟨rfl, rfl⟩) | (go_at_call 141; refine (refCellN_any _ _).mono ?_; rintro e w' ⟨rfl, rfl⟩) | (go_at_call 143; refine (refFlag_any _ _).mono ?_; rintro e w' ⟨rfl, rfl⟩) | (go_at_call 142; refine (refHalf_any _ _ (by omega) (by omega)).mono ?_; rintro e w' ⟨rfl, rfl⟩) | (go_at_call 167; refine (refQuot_any _ _ _ (by omega) (by omega) (by omega) (by omega) (by assumption)).mono ?_; rintro e w' ⟨rfl, rfl⟩))
  go_ret2
  exact ⟨tupR (by first | exact u_32 x | exact u_32 x h0 h1 | (simp only [*]; first | exact u_32 x | exact u_32 x h0 h1)), rfl⟩
set_option maxHeartbeats 400000 in
theorem refUn_33 (x : Int) (h0 : 0 ≤ x) (h1 : x < 65536) (w : World) : Calls Tryz.prog 103 #[.int .i64 33, .int .u16 x] w fun e w' => e = .returned (.tuple #[.int .u16 (unF 33 x), .bool true]) ∧ w = w' := by
  have hr := sgn_rng x h0 h1
  have hw0 : IntKind.i64.wrap x = x := IntWalk.i64_in _ (by omega)
  have hw1 : wrap64 (-x) = -x := by unfold wrap64; omega
  have hw2 : wrap64 (x + 1) = x + 1 := by unfold wrap64; omega
  have hw3 : wrap64 (x - 1) = x - 1 := by unfold wrap64; omega
  have hw4 : wrap64 (2 * x) = 2 * x := by unfold wrap64; omega
  have hw5 : wrap64 (65535 - x) = 65535 - x := by unfold wrap64; omega
  have hw6 : wrap64 (-(sgn x)) = -(sgn x) := by unfold wrap64; omega
  clear hw1 hw2 hw4 hw5 hw6
  go_enter Tryz.func103, Tryz.ntmps103
  go_wp2_with (first | (go_at_call 140; refine (refSigned_any _ _ (by assumption) (by assumption)).mono ?_; rintro e w' ⟨rfl, rfl⟩) | (go_at_call 141; refine (refCellN_any _ _).mono ?_; rintro e w' ⟨rfl, rfl⟩) | (go_at_call 143; refine (refFlag_any _ _).mono ?_; rintro e w' ⟨rfl, rfl⟩) | (go_at_call 142; refine (refHalf_any _ _ (by omega) (by omega)).mono ?_; rintro e w' ⟨rfl, rfl⟩) | (go_at_call 167; refine (refQuot_any _ _ _ (by omega) (by omega) (by omega) (by omega) (by assumption)).mono ?_; rintro e w' ⟨rfl, rfl⟩))
  go_ret2
  exact ⟨tupR (by first | exact u_33 x | exact u_33 x h0 h1 | (simp only [*]; first | exact u_33 x | exact u_33 x h0 h1)), rfl⟩
set_option maxHeartbeats 400000 in
theorem refUn_34 (x : Int) (h0 : 0 ≤ x) (h1 : x < 65536) (w : World) : Calls Tryz.prog 103 #[.int .i64 34, .int .u16 x] w fun e w' => e = .returned (.tuple #[.int .u16 (unF 34 x), .bool true]) ∧ w = w' := by
  have hr := sgn_rng x h0 h1
  have hw0 : IntKind.i64.wrap x = x := IntWalk.i64_in _ (by omega)
  have hw1 : wrap64 (-x) = -x := by unfold wrap64; omega
  have hw2 : wrap64 (x + 1) = x + 1 := by unfold wrap64; omega
  have hw3 : wrap64 (x - 1) = x - 1 := by unfold wrap64; omega
  have hw4 : wrap64 (2 * x) = 2 * x := by unfold wrap64; omega
  have hw5 : wrap64 (65535 - x) = 65535 - x := by unfold wrap64; omega
  have hw6 : wrap64 (-(sgn x)) = -(sgn x) := by unfold wrap64; omega
  clear hw1 hw2 hw3 hw5 hw6
  go_enter Tryz.func103, Tryz.ntmps103
  go_wp2_with (first | (go_at_call 140; refine (refSigned_any _ _ (by assumption) (by assumption)).mono ?_; rintro e w' ⟨rfl, rfl⟩) | (go_at_call 141; refine (refCellN_any _ _).mono ?_; rintro e w' ⟨rfl, rfl⟩) | (go_at_call 143; refine (refFlag_any _ _).mono ?_; rintro e w' ⟨rfl, rfl⟩) | (go_at_call 142; refine (refHalf_any _ _ (by omega) (by omega)).mono ?_; rintro e w' ⟨rfl, rfl⟩) | (go_at_call 167; refine (refQuot_any _ _ _ (by omega) (by omega) (by omega) (by omega) (by assumption)).mono ?_; rintro e w' ⟨rfl, rfl⟩))
  go_ret2
  exact ⟨tupR (by first | exact u_34 x | exact u_34 x h0 h1 | (simp only [*]; first | exact u_34 x | exact u_34 x h0 h1)), rfl⟩
set_option maxHeartbeats 400000 in
theorem refUn_35 (x : Int) (h0 : 0 ≤ x) (h1 : x < 65536) (w : World) : Calls Tryz.prog 103 #[.int .i64 35, .int .u16 x] w fun e w' => e = .returned (.tuple #[.int .u16 (unF 35 x), .bool true]) ∧ w = w' := by
  have hr := sgn_rng x h0 h1
  have hw0 : IntKind.i64.wrap x = x := IntWalk.i64_in _ (by omega)
  have hw1 : wrap64 (-x) = -x := by unfold wrap64; omega
  have hw2 : wrap64 (x + 1) = x + 1 := by unfold wrap64; omega
  have hw3 : wrap64 (x - 1) = x - 1 := by unfold wrap64; omega
  have hw4 : wrap64 (2 * x) = 2 * x := by unfold wrap64; omega
  have hw5 : wrap64 (65535 - x) = 65535 - x := by unfold wrap64; omega
  have hw6 : wrap64 (-(sgn x)) = -(sgn x) := by unfold wrap64; omega
  clear hw1 hw2 hw3 hw4 hw5 hw6
  go_enter Tryz.func103, Tryz.ntmps103
  go_wp2_with (first | (go_at_call 140; refine (refSigned_any _ _ (by assumption) (by assumption)).mono ?_; rintro e w' ⟨rfl, rfl⟩) | (go_at_call 141; refine (refCellN_any _ _).mono ?_; rintro e w' ⟨rfl, rfl⟩) | (go_at_call 143; refine (refFlag_any _ _).mono ?_; rintro e w' ⟨rfl, rfl⟩) | (go_at_call 142; refine (refHalf_any _ _ (by omega) (by omega)).mono ?_; rintro e w' ⟨rfl, rfl⟩) | (go_at_call 167; refine (refQuot_any _ _ _ (by omega) (by omega) (by omega) (by omega) (by assumption)).mono ?_; rintro e w' ⟨rfl, rfl⟩))
  go_ret2
  exact ⟨tupR (by first | exact u_35 x | exact u_35 x h0 h1 | (simp only [*]; first | exact u_35 x | exact u_35 x h0 h1)), rfl⟩
set_option maxHeartbeats 400000 in
theorem refUn_39 (x : Int) (h0 : 0 ≤ x) (h1 : x < 65536) (w : World) : Calls Tryz.prog 103 #[.int .i64 39, .int .u16 x] w fun e w' => e = .returned (.tuple #[.int .u16 (unF 39 x), .bool true]) ∧ w = w' := by
  have hr := sgn_rng x h0 h1
  have hw0 : IntKind.i64.wrap x = x := IntWalk.i64_in _ (by omega)
  have hw1 : wrap64 (-x) = -x := by unfold wrap64; omega
  have hw2 : wrap64 (x + 1) = x + 1 := by unfold wrap64; omega
  have hw3 : wrap64 (x - 1) = x - 1 := by unfold wrap64; omega
  have hw4 : wrap64 (2 * x) = 2 * x := by unfold wrap64; omega
  have hw5 : wrap64 (65535 - x) = 65535 - x := by unfold wrap64; omega
  have hw6 : wrap64 (-(sgn x)) = -(sgn x) := by unfold wrap64; omega
  clear hw1 hw2 hw3 hw4 hw6
  go_enter Tryz.func103, Tryz.ntmps103
  go_wp2_with (first | (go_at_call 140; refine (refSigned_any _ _ (by assumption) (by assumption)).mono ?_; rintro e w' ⟨rfl, rfl⟩) | (go_at_call 141; refine (refCellN_any _ _).mono ?_; rintro e w' ⟨rfl, rfl⟩) | (go_at_call 143; refine (refFlag_any _ _).mono ?_; rintro e w' ⟨rfl, rfl⟩) | (go_at_call 142; refine (refHalf_any _ _ (by omega) (by omega)).mono ?_; rintro e w' ⟨rfl, rfl⟩) | (go_at_call 167; refine (refQuot_any _ _ _ (by omega) (by omega) (by omega) (by omega) (by assumption)).mono ?_; rintro e w' ⟨rfl, rfl⟩))
  go_ret2
  exact ⟨tupR (by first | exact u_39 x | exact u_39 x h0 h1 | (simp only [*]; first | exact u_39 x | exact u_39 x h0 h1)), rfl⟩
set_option maxHeartbeats 400000 in
theorem refUn_48 (x : Int) (h0 : 0 ≤ x) (h1 : x < 65536) (w : World) : Calls Tryz.prog 103 #[.int .i64 48, .int .u16 x] w fun e w' => e = .returned (.tuple #[.int .u16 (unF 48 x), .bool true]) ∧ w = w' := by
  have hr := sgn_rng x h0 h1
  have hw0 : IntKind.i64.wrap x = x := IntWalk.i64_in _ (by omega)
  have hw1 : wrap64 (-x) = -x := by unfold wrap64; omega
  have hw2 : wrap64 (x + 1) = x + 1 := by unfold wrap64; omega
  have hw3 : wrap64 (x - 1) = x - 1 := by unfold wrap64; omega
  have hw4 : wrap64 (2 * x) = 2 * x := by unfold wrap64; omega
  have hw5 : wrap64 (65535 - x) = 65535 - x := by unfold wrap64; omega
  have hw6 : wrap64 (-(sgn x)) = -(sgn x) := by unfold wrap64; omega
  clear hw1 hw2 hw3 hw4 hw5 hw6
  go_enter Tryz.func103, Tryz.ntmps103
  go_wp2_with (first | (go_at_call 140; refine (refSigned_any _ _ (by assumption) (by assumption)).mono ?_; rintro e w' ⟨rfl, rfl⟩) | (go_at_call 141; refine (refCellN_any _ _).mono ?_; rintro e w' ⟨rfl, rfl⟩) | (go_at_call 143; refine (refFlag_any _ _).mono ?_; rintro e w' ⟨rfl, rfl⟩) | (go_at_call 142; refine (refHalf_any _ _ (by omega) (by omega)).mono ?_; rintro e w' ⟨rfl, rfl⟩) | (go_at_call 167; refine (refQuot_any _ _ _ (by omega) (by omega) (by omega) (by omega) (by assumption)).mono ?_; rintro e w' ⟨rfl, rfl⟩))
  go_ret2
  exact ⟨tupR (by first | exact u_48 x | exact u_48 x h0 h1 | (simp only [*]; first | exact u_48 x | exact u_48 x h0 h1)), rfl⟩
set_option maxHeartbeats 400000 in
theorem refUn_49 (x : Int) (h0 : 0 ≤ x) (h1 : x < 65536) (w : World) : Calls Tryz.prog 103 #[.int .i64 49, .int .u16 x] w fun e w' => e = .returned (.tuple #[.int .u16 (unF 49 x), .bool true]) ∧ w = w' := by
  have hr := sgn_rng x h0 h1
  have hw0 : IntKind.i64.wrap x = x := IntWalk.i64_in _ (by omega)
  have hw1 : wrap64 (-x) = -x := by unfold wrap64; omega
  have hw2 : wrap64 (x + 1) = x + 1 := by unfold wrap64; omega
  have hw3 : wrap64 (x - 1) = x - 1 := by unfold wrap64; omega
  have hw4 : wrap64 (2 * x) = 2 * x := by unfold wrap64; omega
  have hw5 : wrap64 (65535 - x) = 65535 - x := by unfold wrap64; omega
  have hw6 : wrap64 (-(sgn x)) = -(sgn x) := by unfold wrap64; omega
  clear hw1 hw2 hw3 hw4 hw5 hw6
  go_enter Tryz.func103, Tryz.ntmps103
  go_wp2_with (first | (go_at_call 140; refine (refSigned_any _ _ (by assumption) (by assumption)).mono ?_; rintro e w' ⟨rfl, rfl⟩) | (go_at_call 141; refine (refCellN_any _ _).mono ?_; rintro e w' ⟨rfl, rfl⟩) | (go_at_call 143; refine (refFlag_any _ _).mono ?_; rintro e w' ⟨rfl, rfl⟩) | (go_at_call 142; refine (refHalf_any _ _ (by omega) (by omega)).mono ?_; rintro e w' ⟨rfl, rfl⟩) | (go_at_call 167; refine (refQuot_any _ _ _ (by omega) (by omega) (by omega) (by omega) (by assumption)).mono ?_; rintro e w' ⟨rfl, rfl⟩))
  go_ret2
  exact ⟨tupR (by first | exact u_49 x | exact u_49 x h0 h1 | (simp only [*]; first | exact u_49 x | exact u_49 x h0 h1)), rfl⟩
set_option maxHeartbeats 400000 in
theorem refUn_29 (x : Int) (h0 : 0 ≤ x) (h1 : x < 65536) (w : World) : Calls Tryz.prog 103 #[.int .i64 29, .int .u16 x] w fun e w' => e = .returned (.tuple #[.int .u16 (unF 29 x), .bool true]) ∧ w = w' := by
  have hr := sgn_rng x h0 h1
  have hw0 : IntKind.i64.wrap x = x := IntWalk.i64_in _ (by omega)
  have hw1 : wrap64 (-x) = -x := by unfold wrap64; omega
  have hw2 : wrap64 (x + 1) = x + 1 := by unfold wrap64; omega
  have hw3 : wrap64 (x - 1) = x - 1 := by unfold wrap64; omega
  have hw4 : wrap64 (2 * x) = 2 * x := by unfold wrap64; omega
  have hw5 : wrap64 (65535 - x) = 65535 - x := by unfold wrap64; omega
  have hw6 : wrap64 (-(sgn x)) = -(sgn x) := by unfold wrap64; omega
  clear hw1 hw2 hw3 hw4 hw5
  by_cases h : sgn x < 0
  · have hb : decide (sgn x < 0) = true := by simpa using h
    have HU := Lib.hid (u_29 x h0 h1 h)
    go_enter Tryz.func103, Tryz.ntmps103
    go_wp2_with (first | (go_at_call 140; refine (refSigned_any _ _ (by assumption) (by assumption)).mono ?_; rintro e w' ⟨rfl, rfl⟩) | (go_at_call 141; refine (refCellN_any _ _).mono ?_; rintro e w' ⟨rfl, rfl⟩) | (go_at_call 143; refine (refFlag_any _ _).mono ?_; rintro e w' ⟨rfl, rfl⟩) | (go_at_call 142; refine (refHalf_any _ _ (by omega) (by omega)).mono ?_; rintro e w' ⟨rfl, rfl⟩) | (go_at_call 167; refine (refQuot_any _ _ _ (by omega) (by omega) (by omega) (by omega) (by assumption)).mono ?_; rintro e w' ⟨rfl, rfl⟩))
    go_ret2
    exact ⟨tupR (by first | exact HU.out | (simp only [*]; exact HU.out)), rfl⟩
  · have hb : decide (sgn x < 0) = false := by simp; omega
    have HU := Lib.hid (u_29' x h0 h1 h)
    go_enter Tryz.func103, Tryz.ntmps103
    go_wp2_with (first | (go_at_call 140; refine (refSigned_any _ _ (by assumption) (by assumption)).mono ?_; rintro e w' ⟨rfl, rfl⟩) | (go_at_call 141; refine (refCellN_any _ _).mono ?_; rintro e w' ⟨rfl, rfl⟩) | (go_at_call 143; refine (refFlag_any _ _).mono ?_; rintro e w' ⟨rfl, rfl⟩) | (go_at_call 142; refine (refHalf_any _ _ (by omega) (by omega)).mono ?_; rintro e w' ⟨rfl, rfl⟩) | (go_at_call 167; refine (refQuot_any _ _ _ (by omega) (by omega) (by omega) (by omega) (by assumption)).mono ?_; rintro e w' ⟨rfl, rfl⟩))
    go_ret2
    exact ⟨tupR HU.out, rfl⟩
end Go.Proofs.YtdnalhjdmlkbmaaGreatDoor
