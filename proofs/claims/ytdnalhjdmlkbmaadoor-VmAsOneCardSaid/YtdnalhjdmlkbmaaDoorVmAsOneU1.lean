/- Words and laws of no program: who owns a block, what a call may have changed, a stack of cells behind a pointer; The program's tables, and what a world knows of them; What the rows' condition gives the walks: the four tables lie; and the door's own heap meets it; What the functions of stack.pile do, at uint16; What the methods of stack.Data do; What the functions of stack.pile do, at api.Cell; What the methods of stack.Return do; Push and Cells of both stacks in one form each; Stacks; The two stacks as lists of numbers: contracts in one form; Rows that somebody owns, without a pointer to them; append of whatever is read; The desk that a primitive works on: taken, and what a shuffle does; The zero values of a bank and of a memory; Maps with integer keys, told as lists of pairs: look-up and update at the operation. -/
import Derived.WalkKit
import Derived.WalkSpells
import Derived.WalkLawsBesides
import Derived.Lib.Hide
import Derived.Test.YtdnalhjdmlkbmaaDoorProg
import Derived.Outline
import Derived.StillTailTactics
import Derived.Deep.QuietTactic
import Derived.BigQuiet
import Derived.Test.YtdnalhjdmlkbmaaDoorRows
import Derived.ProofKit
import Derived.LaidMore
import Derived.MakeChecks
import Derived.FnData
import Derived.OpenShut
import Derived.Deep.RegionHeld3
import Derived.MapKept
import Derived.ChangeMaps4
import Derived.RangeFuncRecord
set_option linter.unusedVariables false
set_option linter.unusedSimpArgs false
set_option linter.unnecessarySimpa false
namespace Go.Proofs.YtdnalhjdmlkbmaaDoor
open Go.RowKit

/-- What is left of a code from a region on. -/
def codeTail (id : Nat) : Code → Option Code
  | .seq a b => match codeTail id a with
    | some c => some (.seq c b)
    | none => codeTail id b
  | .region i ops d => if i = id then some (.region i ops d) else none
  | _ => none

/-- What is left of a code behind a region. -/
def codeAfter (id : Nat) : Code → Option (Option Code)
  | .seq a b => match codeAfter id a with
    | some none => some (some b)
    | some (some c) => some (some (.seq c b))
    | none => codeAfter id b
  | .region i _ _ => if i = id then some none else none
  | _ => none

/-- What is read of a block that is known. -/
theorem block_cell {w : World} {b : Nat} {C : Array Value} {T : TypeId} (h : w.heap[b]? = some (.cells C T (0, 0))) (j : Nat) (v : Value) (hv : C[j]? = some v) : w.cell? ⟨b, j, none⟩ = some v := by
  simp [World.cell?, h, hv]
theorem block_free {w : World} {b : Nat} {C : Array Value} {T : TypeId} (h : w.heap[b]? = some (.cells C T (0, 0))) (j : Nat) : w.frozen? ⟨b, j, none⟩ = false := by
  simp [World.frozen?, h]
/-- A new block's number may be spelled otherwise. -/
theorem heap_at (w : World) (o : Obj) (b : Nat) (h : b = w.heap.size) : (w.alloc o).heap[b]? = some o := by subst h; exact heap_alloc_new w o
theorem heap_past (w : World) (o : Obj) (b : Nat) (h : b < w.heap.size) : (w.alloc o).heap[b]? = w.heap[b]? := Below.heap_alloc w o b h
/-- 'G b' tells who owns block b. 'Adv S w G w' G'': from w to w' only blocks whose owner is in S may have changed; old blocks keep their owner. -/
structure Adv (S : Nat → Prop) (w : World) (G : Nat → Nat) (w' : World) (G' : Nat → Nat) : Prop where
  os : w'.os = w.os
  tape : w'.tape = w.tape
  output : w'.output = w.output
  size : w.heap.size ≤ w'.heap.size
  own : ∀ b, b < w.heap.size → G' b = G b
  keep : ∀ b, b < w.heap.size → ¬ S (G b) → w'.heap[b]? = w.heap[b]?

theorem Adv.refl (S : Nat → Prop) (w : World) (G : Nat → Nat) : Adv S w G w G := ⟨rfl, rfl, rfl, Nat.le_refl _, fun _ _ => rfl, fun _ _ _ => rfl⟩
theorem Adv.trans {S : Nat → Prop} {a b c : World} {G H K : Nat → Nat} (h : Adv S a G b H) (k : Adv S b H c K) : Adv S a G c K :=
  ⟨k.os.trans h.os, k.tape.trans h.tape, k.output.trans h.output, Nat.le_trans h.size k.size, fun i hi => (k.own i (Nat.lt_of_lt_of_le hi h.size)).trans (h.own i hi),
    fun i hi hs => (k.keep i (Nat.lt_of_lt_of_le hi h.size) (by rw [h.own i hi]; exact hs)).trans (h.keep i hi hs)⟩
theorem Adv.mono {S T : Nat → Prop} {w w' : World} {G G' : Nat → Nat} (h : Adv S w G w' G') (hs : ∀ i, S i → T i) : Adv T w G w' G' :=
  ⟨h.os, h.tape, h.output, h.size, h.own, fun b hb ht => h.keep b hb (fun x => ht (hs _ x))⟩
theorem Adv.drew {S : Nat → Prop} {w w' : World} {G G' : Nat → Nat} (h : Adv S w G w' G') : Adv S w G w'.drew G' := ⟨h.os, h.tape, h.output, h.size, h.own, h.keep⟩
theorem Adv.drewN {S : Nat → Prop} {w w' : World} {G G' : Nat → Nat} (h : Adv S w G w' G') (n : Nat) : Adv S w G (w'.drewN n) G' := by
  induction n with
  | zero => exact h
  | succ n ih => exact ⟨h.os, h.tape, h.output, h.size, h.own, h.keep⟩
/-- The owners behind one new block, which is given to i. -/
def own1 (w : World) (G : Nat → Nat) (i : Nat) : Nat → Nat := fun b => if b = w.heap.size then i else G b
theorem own1_new (w : World) (G : Nat → Nat) (i : Nat) : own1 w G i w.heap.size = i := if_pos rfl
theorem own1_old {w : World} {G : Nat → Nat} {i b : Nat} (h : b < w.heap.size) : own1 w G i b = G b := if_neg (by omega)
/-- A new block; it may be given to whomever. -/
theorem Adv.alloc {S : Nat → Prop} {w w' : World} {G G' : Nat → Nat} (h : Adv S w G w' G') (o : Obj) (i : Nat) : Adv S w G (w'.alloc o) (own1 w' G' i) := by
  refine ⟨h.os, h.tape, h.output, by have := h.size; simp; omega, fun b hb => ?_, fun b hb hs => ?_⟩
  · have := h.size
    rw [own1_old (by omega)]; exact h.own b hb
  · rw [Below.heap_alloc _ _ _ (by have := h.size; omega)]; exact h.keep b hb hs
theorem Adv.setCell {S : Nat → Prop} {w w' : World} {G G' : Nat → Nat} (h : Adv S w G w' G') {p : Addr} (hp : S (G' p.block)) (u : Value) : Adv S w G (w'.setCell p u) G' := by
  refine ⟨h.os, h.tape, h.output, by have := h.size; simpa [World.setCell] using this, h.own, fun b hb hs => ?_⟩
  rw [Below.heap_setCell _ _ _ _ (by rintro rfl; exact hs (by rw [← h.own _ hb]; exact hp))]
  exact h.keep b hb hs
/-- A cell of a block that was made since. -/
theorem Adv.setNew {S : Nat → Prop} {w w' : World} {G G' : Nat → Nat} (h : Adv S w G w' G') {p : Addr} (hp : w.heap.size ≤ p.block) (u : Value) : Adv S w G (w'.setCell p u) G' := by
  refine ⟨h.os, h.tape, h.output, by have := h.size; simpa [World.setCell] using this, h.own, fun b hb hs => ?_⟩
  rw [Below.heap_setCell _ _ _ _ (by rintro rfl; omega)]
  exact h.keep b hb hs
theorem Adv.cell {S : Nat → Prop} {w w' : World} {G G' : Nat → Nat} (h : Adv S w G w' G') {p : Addr} (hp : p.block < w.heap.size) (hs : ¬ S (G p.block)) : w'.cell? p = w.cell? p :=
  World.cell?_of_block (h.keep p.block hp hs)
theorem Adv.cell_some {S : Nat → Prop} {w w' : World} {G G' : Nat → Nat} (h : Adv S w G w' G') {p : Addr} {v : Value} (hv : w.cell? p = some v) (hs : ¬ S (G p.block)) : w'.cell? p = some v :=
  (h.cell (World.block_lt_of_cell? w p hv) hs).trans hv
theorem Adv.below {S : Nat → Prop} {w w' : World} {G G' : Nat → Nat} (h : Adv S w G w' G') {B : Nat} (hB : B ≤ w.heap.size) (hG : ∀ b, b < B → ¬ S (G b)) : Below B w w' :=
  ⟨h.os, h.tape, h.output, h.size, fun k hk => h.keep k (Nat.lt_of_lt_of_le hk hB) (hG k hk)⟩

/-- What an owned row is, with its block's owner. -/
def Value.ownedBy (G : Nat → Nat) (i : Nat) (v : Value) : Prop := ∀ b, v.ownBlock = some b → G b = i

/-- A stack of cells behind a pointer: block D holds one cell, a slice; the slice owns its cells. -/
structure Pile (e T size : Nat) (w : World) (G : Nat → Nat) (i D : Nat) (v : Value) (n : Nat) (xs : List Value) : Prop where
  head : w.heap[D]? = some (.cells #[v] T (0, 0))
  hown : G D = i
  row : w.ownsRow 0 e size v n xs
  rown : Value.ownedBy G i v
  ne : v.ownBlock ≠ some D

theorem Pile.lt {e T size : Nat} {w : World} {G : Nat → Nat} {i D : Nat} {v : Value} {n : Nat} {xs : List Value} (h : Pile e T size w G i D v n xs) : D < w.heap.size := (Array.getElem?_eq_some_iff.1 h.head).1
theorem Pile.cell {e T size : Nat} {w : World} {G : Nat → Nat} {i D : Nat} {v : Value} {n : Nat} {xs : List Value} (h : Pile e T size w G i D v n xs) : w.cell? ⟨D, 0, none⟩ = some v := by
  have := h.head
  simp [World.cell?, this]
theorem Pile.frozen {e T size : Nat} {w : World} {G : Nat → Nat} {i D : Nat} {v : Value} {n : Nat} {xs : List Value} (h : Pile e T size w G i D v n xs) : w.frozen? ⟨D, 0, none⟩ = false := by
  have := h.head
  simp [World.frozen?, this]
theorem ownsRow_of_block {w w' : World} {base e size : Nat} {v : Value} {n : Nat} {xs : List Value} (h : w.ownsRow base e size v n xs) (hb : ∀ b, v.ownBlock = some b → w'.heap[b]? = w.heap[b]?) : w'.ownsRow base e size v n xs := by
  refine ⟨h.1, ?_⟩
  rcases h.2 with hn | ⟨g, cap, cur, rfl, hbg, hg, rest⟩
  · exact .inl hn
  · exact .inr ⟨g, cap, cur, rfl, hbg, by rw [hb g rfl]; exact hg, rest⟩
/-- What another has done leaves a pile as it was. -/
theorem Pile.adv {e T size : Nat} {w w' : World} {G G' : Nat → Nat} {i D : Nat} {v : Value} {n : Nat} {xs : List Value} {S : Nat → Prop} (h : Pile e T size w G i D v n xs) (ha : Adv S w G w' G') (hs : ¬ S i) : Pile e T size w' G' i D v n xs := by
  have hl := h.lt
  have hb : ∀ b, v.ownBlock = some b → b < w.heap.size := fun b e => (h.row.lt b e).2
  refine ⟨?_, ?_, ?_, ?_, h.ne⟩
  · rw [ha.keep D hl (by rw [h.hown]; exact hs)]; exact h.head
  · rw [ha.own D hl]; exact h.hown
  · exact ownsRow_of_block h.row fun b e => ha.keep b (hb b e) (by rw [h.rown b e]; exact hs)
  · intro b e; rw [ha.own b (hb b e)]; exact h.rown b e
theorem Pile.alloc {e T size : Nat} {w : World} {G : Nat → Nat} {i D : Nat} {v : Value} {n : Nat} {xs : List Value} (h : Pile e T size w G i D v n xs) (o : Obj) (k : Nat) : Pile e T size (w.alloc o) (own1 w G k) i D v n xs :=
  h.adv (S := fun _ => False) ((Adv.refl _ w G).alloc o k) id
theorem Pile.nlen {e T size : Nat} {w : World} {G : Nat → Nat} {i D : Nat} {v : Value} {n : Nat} {xs : List Value} (h : Pile e T size w G i D v n xs) : xs.length = n * size := h.row.1

/-- append's result lies where the row lay, or in the newest block. -/
theorem run_append_own2 {P : Program} (w : World) (t ty e : TypeId) (i : TypeInfo) (z : Value) (size bytes : Nat) (ht : P.underlying t = some (.slice e)) (hi : P.info? e = some i) (hz : i.zero = some z)
    (hsize : i.size = size) (hby : i.bytes = bytes) (hzs : z.cells.size = size) (hsz : 0 < size)
    (v : Value) (n : Nat) (xs : List Value) (hown : w.ownsRow 0 e size v n xs)
    (a : Addr) (m c : Nat) (news : List Value) (hl : news.length = m * size) (hnews : ∀ j u, news[j]? = some u → w.cell? (a.add j) = some u) (h1 : ∀ u ∈ news, u.oneCell' = true)
    (h63 : n + m ≤ maxLen) (hbytes : (n + m) * bytes ≤ 140737488355328) :
    ∃ v' w', (Builtin.append_ #[t, t] ty #[v, .slice (some a) m c]).run P w = .ok v' w' ∧ w'.ownsRow 0 e size v' (n + m) (xs ++ news) ∧ w.grownBy w' v.ownBlock ∧
      (v' = .slice none 0 0 ↔ v = .slice none 0 0 ∧ m = 0) ∧ (v'.ownBlock = v.ownBlock ∨ v'.ownBlock = some w.heap.size) := by
  obtain ⟨v', w', hr, h2, h3, h4⟩ := run_append_own (P := P) w 0 t ty e i z size bytes ht hi hz hsize hby hzs hsz v n xs hown a m c news hl hnews h1 h63 hbytes (Nat.zero_le _)
  refine ⟨v', w', hr, h2, h3, h4, ?_⟩
  subst hsize
  subst hby
  have hsmall : n + m ≤ 9223372036854775807 := by simp only [maxLen] at h63; omega
  rcases hown.2 with ⟨rfl, rfl⟩ | ⟨g, cap, cur, rfl, hbg, hg, hnc, hcm, hcs, htake⟩
  · by_cases hm : m = 0
    · subst hm
      rw [h4.2 ⟨rfl, rfl⟩]; exact .inl rfl
    · have hr' := run_append_nil (P := P) w t ty e i z ht hi hz a m c news hl hnews (by omega) (by omega) (by have hb := hbytes; simp only [Nat.zero_add] at hb; omega)
      rw [hr] at hr'
      simp only [Result.ok.injEq] at hr'
      rw [hr'.1]; exact .inr rfl
  · by_cases hroom : n + m ≤ cap
    · have hfit : n * i.size + news.length ≤ cur.size := by rw [hl, hcs, ← Nat.add_mul]; exact Nat.mul_le_mul_right _ hroom
      have hr' := run_append_room (P := P) w t ty e i ht hi g n cap cur hg a m c news hl hnews h1 hroom hfit
      rw [hr] at hr'
      simp only [Result.ok.injEq] at hr'
      rw [hr'.1]; exact .inl rfl
    · have holds : ∀ j u, xs[j]? = some u → w.cell? ((⟨g, 0, none⟩ : Addr).add j) = some u := hown.cells (g := g) rfl
      have hr' := run_append_grow (P := P) w t ty e i z ht hi hz ⟨g, 0, none⟩ n cap xs hown.1 holds a m c news hl hnews (by omega) (by omega) (growslice_fits (by omega) hbytes)
      rw [hr] at hr'
      simp only [Result.ok.injEq] at hr'
      rw [hr'.1]; exact .inr rfl

theorem wpList_append_own2 {P : Program} {w : World} {ops : Array Oper} {rest : List Oper} {o : Oper} {a : Act} {Q : Exit → Act → World → Prop} (hgd : o.guard = none) (s x : Operand) (t : TypeId)
    (ho : o.op = .call { callee := .builtin .append, args := #[s, x], argTypes := #[t, t] })
    (e : TypeId) (i : TypeInfo) (z : Value) (size bytes : Nat) (ht : P.underlying t = some (.slice e)) (hi : P.info? e = some i) (hz : i.zero = some z)
    (hsize : i.size = size) (hby : i.bytes = bytes) (hzs : z.cells.size = size) (hsz : 0 < size)
    (va : Option Addr) (n vc : Nat) (xs : List Value) (hs : a.eval s = .slice va n vc) (hown : w.ownsRow 0 e size (.slice va n vc) n xs)
    (ad : Addr) (m c : Nat) (news : List Value) (hx : a.eval x = .slice (some ad) m c) (hl : news.length = m * size) (hnews : ∀ j u, news[j]? = some u → w.cell? (ad.add j) = some u) (h1 : ∀ u ∈ news, u.oneCell' = true)
    (h63 : n + m ≤ maxLen) (hbytes : (n + m) * bytes ≤ 140737488355328)
    (h : ∀ va' vc' w', w'.ownsRow 0 e size (.slice va' (n + m) vc') (n + m) (xs ++ news) → w.grownBy w' (Value.slice va n vc).ownBlock →
      ((Value.slice va' (n + m) vc').ownBlock = (Value.slice va n vc).ownBlock ∨ (Value.slice va' (n + m) vc').ownBlock = some w.heap.size) → wpList P ops Q rest (a.put o.dst (.slice va' (n + m) vc')) w') :
    wpList P ops Q (o :: rest) a w := by
  refine wpList_plain hgd fun K hK => ?_
  obtain ⟨v', w', hr, h2, h3, h4, h5⟩ := run_append_own2 (P := P) w t o.type e i z size bytes ht hi hz hsize hby hzs hsz (.slice va n vc) n xs hown ad m c news hl hnews h1 h63 hbytes
  obtain ⟨va', vc', rfl⟩ : ∃ va' vc', v' = .slice va' (n + m) vc' := by
    rcases h2.2 with ⟨rfl, e⟩ | ⟨g, cap, cur, rfl, _⟩
    · exact ⟨none, 0, by rw [e]⟩
    · exact ⟨_, cap, rfl⟩
  unfold Oper.wp execOp
  simp only [ho, resolve, invoke, builtin, Sem.run_bind, Sem.run_pure, Result.andThen_ok, List.map_toArray, List.map_cons, List.map_nil, hs, hx, hr]
  exact hK _ _ (h va' vc' w' h2 h3 h5)

/-- The owners behind an append: what is new is i's. -/
def newTo (w : World) (G : Nat → Nat) (i : Nat) : Nat → Nat := fun b => if b < w.heap.size then G b else i
theorem newTo_old {w : World} {G : Nat → Nat} {i b : Nat} (h : b < w.heap.size) : newTo w G i b = G b := if_pos h
theorem newTo_new {w : World} {G : Nat → Nat} {i b : Nat} (h : w.heap.size ≤ b) : newTo w G i b = i := if_neg (by omega)
theorem Adv.ofGrown {w w' : World} {G : Nat → Nat} {i : Nat} {v : Value} (hg : w.grownBy w' v.ownBlock) (hv : Value.ownedBy G i v) : Adv (· = i) w G w' (newTo w G i) :=
  ⟨hg.os, hg.tape, hg.output, hg.size, fun _ hb => newTo_old hb, fun b hb hs => hg.block b hb fun e => hs (hv b e.symm)⟩
theorem Pile.slice {e T size : Nat} {w : World} {G : Nat → Nat} {i D : Nat} {v : Value} {n : Nat} {xs : List Value} (h : Pile e T size w G i D v n xs) : ∃ a cap, v = .slice a n cap := by
  rcases h.row.2 with ⟨rfl, rfl⟩ | ⟨g, cap, cur, rfl, _⟩
  · exact ⟨none, 0, rfl⟩
  · exact ⟨some ⟨g, 0, none⟩, cap, rfl⟩
/-- A pile whose slice was appended to: the slice is stored back. -/
theorem Pile.appended {e T size : Nat} {w w1 : World} {G : Nat → Nat} {i D : Nat} {v v' : Value} {n m : Nat} {xs ys : List Value} (h : Pile e T size w G i D v n xs) (hown : w1.ownsRow 0 e size v' m ys)
    (hg : w.grownBy w1 v.ownBlock) (hv : v'.ownBlock = v.ownBlock ∨ v'.ownBlock = some w.heap.size) :
    Adv (· = i) w G (w1.setCell ⟨D, 0, none⟩ v') (newTo w G i) ∧ Pile e T size (w1.setCell ⟨D, 0, none⟩ v') (newTo w G i) i D v' m ys := by
  have hl := h.lt
  have hD : w1.heap[D]? = some (.cells #[v] T (0, 0)) := by rw [hg.block D hl (fun e => h.ne e.symm)]; exact h.head
  have hne : v'.ownBlock ≠ some D := by
    rcases hv with e | e
    · rw [e]; exact h.ne
    · rw [e]; intro x; simp at x; omega
  refine ⟨(Adv.ofGrown hg h.rown).setCell (p := ⟨D, 0, none⟩) (by show newTo w G i D = i; rw [newTo_old hl]; exact h.hown) v', ?_, by rw [newTo_old hl]; exact h.hown, ?_, ?_, hne⟩
  · simp only [World.setCell, Array.getElem?_modify, hD]; simp
  · exact ownsRow_of_block hown fun b e => Below.heap_setCell _ _ _ _ (fun x => hne (by rw [e]; exact congrArg some x))
  · intro b e
    rcases hv with x | x
    · rw [x] at e; rw [newTo_old (h.row.lt b e).2]; exact h.rown b e
    · rw [x] at e; simp at e; exact newTo_new (by omega)

/-- The last cell of a pile of one-cell elements. -/
theorem Pile.last {e T : Nat} {w : World} {G : Nat → Nat} {i D : Nat} {a : Option Addr} {cap m : Nat} {x : Value} {ys : List Value} (h : Pile e T 1 w G i D (.slice a (m + 1) cap) (m + 1) (ys ++ [x])) :
    ∃ g, a = some ⟨g, 0, none⟩ ∧ cap ≤ maxLen ∧ m + 1 ≤ cap ∧ w.cell? ⟨g, m, none⟩ = some x := by
  obtain ⟨g, cap', cur, e1, hbg, hg, hnc, hcm, hcs, htake⟩ := h.row.2.resolve_left (by rintro ⟨_, h⟩; omega)
  obtain ⟨rfl, _, rfl⟩ : a = some ⟨g, 0, none⟩ ∧ m + 1 = m + 1 ∧ cap = cap' := by simpa using e1
  have hlen : ys.length = m := by have := h.nlen; simp at this; omega
  have hcell := h.row.cells (g := g) rfl m x (by rw [← hlen]; simp)
  refine ⟨g, rfl, hcm, hnc, ?_⟩
  rw [← hcell, Addr.add_lit, Nat.zero_add]
theorem Pile.cut {e T size : Nat} {w : World} {G : Nat → Nat} {i D : Nat} {a : Option Addr} {cap n m : Nat} {xs : List Value} (h : Pile e T size w G i D (.slice a n cap) n xs) (hm : m ≤ n) :
    Adv (· = i) w G (w.setCell ⟨D, 0, none⟩ (.slice a m cap)) G ∧ (0 < m ∨ a.isSome = true → Pile e T size (w.setCell ⟨D, 0, none⟩ (.slice a m cap)) G i D (.slice a m cap) m (xs.take (m * size))) := by
  have hl := h.lt
  refine ⟨(Adv.refl _ w G).setCell (p := ⟨D, 0, none⟩) h.hown _, fun hpos => ⟨?_, h.hown, ?_, ?_, ?_⟩⟩
  · simp only [World.setCell, Array.getElem?_modify, h.head]; simp
  · have hlen := h.nlen
    have hmn : m * size ≤ n * size := Nat.mul_le_mul_right _ hm
    obtain ⟨g, cap', cur, e1, hbg, hg, hnc, hcm, hcs, htake⟩ := h.row.2.resolve_left (by rintro ⟨h1, h2⟩; cases h1; simp at hpos; omega)
    obtain ⟨rfl, _, rfl⟩ : a = some ⟨g, 0, none⟩ ∧ n = n ∧ cap = cap' := by simpa using e1
    have hgD : g ≠ D := fun x => h.ne (by simp [Value.ownBlock, x])
    refine ⟨by rw [List.length_take]; omega, .inr ⟨g, cap, cur, rfl, hbg, ?_, by omega, hcm, hcs, ?_⟩⟩
    · rw [Below.heap_setCell _ _ _ _ hgD]; exact hg
    · rw [← htake, List.take_take]; congr 1; omega
  · intro b e
    cases a with
    | none => cases e
    | some _ => exact h.rown b e
  · intro e
    cases a with
    | none => cases e
    | some _ => exact h.ne e
theorem Pile.popped {e T : Nat} {w : World} {G : Nat → Nat} {i D : Nat} {a : Option Addr} {cap m : Nat} {x : Value} {ys : List Value} (h : Pile e T 1 w G i D (.slice a (m + 1) cap) (m + 1) (ys ++ [x])) :
    Adv (· = i) w G (w.setCell ⟨D, 0, none⟩ (.slice a m cap)) G ∧ Pile e T 1 (w.setCell ⟨D, 0, none⟩ (.slice a m cap)) G i D (.slice a m cap) m ys := by
  have hlen : ys.length = m := by have := h.nlen; simp at this; omega
  obtain ⟨g, rfl, _⟩ := h.last
  obtain ⟨h1, h2⟩ := h.cut (m := m) (by omega)
  refine ⟨h1, ?_⟩
  have h3 := h2 (.inr rfl)
  rwa [Nat.mul_one, List.take_left' hlen] at h3
/-- One cell of a pile's row is written. -/
theorem Pile.store {e T size : Nat} {w : World} {G : Nat → Nat} {i D g : Nat} {cap n : Nat} {xs : List Value} (h : Pile e T size w G i D (.slice (some ⟨g, 0, none⟩) n cap) n xs) (j : Nat) (hj : j < xs.length) (u : Value) :
    Adv (· = i) w G (w.setCell ⟨g, j, none⟩ u) G ∧ Pile e T size (w.setCell ⟨g, j, none⟩ u) G i D (.slice (some ⟨g, 0, none⟩) n cap) n (xs.set j u) := by
  have hlen := h.nlen
  have hpos : 0 < n := by rcases Nat.eq_zero_or_pos n with h0 | h0; · rw [h0, Nat.zero_mul] at hlen; omega
                          · exact h0
  obtain ⟨g', cap', cur, e1, hbg, hg, hnc, hcm, hcs, htake⟩ := h.row.2.resolve_left (by rintro ⟨h1, h2⟩; omega)
  obtain ⟨rfl, _, rfl⟩ : g = g' ∧ n = n ∧ cap = cap' := by simpa using e1
  have hgD : g ≠ D := fun x => h.ne (by simp [Value.ownBlock, x])
  refine ⟨(Adv.refl _ w G).setCell (p := ⟨g, j, none⟩) (h.rown g rfl) _, ?_, h.hown, ⟨by simpa using hlen, .inr ⟨g, cap, cur.setIfInBounds j u, rfl, hbg, ?_, hnc, hcm, by simpa using hcs, ?_⟩⟩, h.rown, h.ne⟩
  · rw [Below.heap_setCell _ _ _ _ (Ne.symm hgD)]; exact h.head
  · simp only [World.setCell, Array.getElem?_modify, hg]; simp
  · rw [← htake, Array.toList_setIfInBounds, List.take_set]
/-- The cells behind a slice's address, as far as there are any. -/
def Reads (w : World) (a : Option Addr) (xs : List Value) : Prop := xs = [] ∨ ∃ b o, a = some ⟨b, o, none⟩ ∧ ∀ j u, xs[j]? = some u → w.cell? ⟨b, o + j, none⟩ = some u
theorem Reads.some {w : World} {a : Option Addr} {xs : List Value} (h : Reads w a xs) (hne : xs ≠ []) : ∃ b o, a = .some ⟨b, o, none⟩ ∧ (∀ j u, xs[j]? = .some u → w.cell? ⟨b, o + j, none⟩ = .some u) ∧ b < w.heap.size := by
  rcases h with h | ⟨b, o, e, h⟩
  · exact absurd h hne
  · refine ⟨b, o, e, h, ?_⟩
    cases xs with
    | nil => exact absurd rfl hne
    | cons x xs => exact World.block_lt_of_cell? w _ (h 0 x rfl)
theorem Reads.add {w : World} {b o : Nat} {xs : List Value} (h : ∀ j u, xs[j]? = .some u → w.cell? ⟨b, o + j, none⟩ = .some u) : ∀ j u, xs[j]? = .some u → w.cell? ((⟨b, o, none⟩ : Addr).add j) = .some u :=
  fun j u hu => by rw [Addr.add_lit]; exact h j u hu
theorem Reads.adv {w w' : World} {G G' : Nat → Nat} {S : Nat → Prop} {a : Option Addr} {xs : List Value} (h : Reads w a xs) (ha : Adv S w G w' G') (hs : ∀ ad, a = .some ad → ¬ S (G ad.block)) : Reads w' a xs := by
  rcases h with rfl | ⟨b, o, rfl, h⟩
  · exact .inl rfl
  · exact .inr ⟨b, o, rfl, fun j u hu => ha.cell_some (h j u hu) (hs ⟨b, o, none⟩ rfl)⟩
theorem Pile.reads {e T size : Nat} {w : World} {G : Nat → Nat} {i D : Nat} {a : Option Addr} {n cap : Nat} {xs : List Value} (h : Pile e T size w G i D (.slice a n cap) n xs) : Reads w a xs ∧ ∀ ad, a = .some ad → ad.block < w.heap.size ∧ G ad.block = i := by
  rcases h.row.2 with ⟨e, h0⟩ | ⟨g, cap, cur, e, _⟩
  · have hl := h.nlen
    rw [h0, Nat.zero_mul] at hl
    cases e
    exact ⟨.inl (List.eq_nil_of_length_eq_zero hl), fun _ h => by cases h⟩
  · cases e
    refine ⟨.inr ⟨g, 0, rfl, fun j u hu => ?_⟩, fun ad e => by cases e; exact ⟨(h.row.lt g rfl).2, h.rown g rfl⟩⟩
    have := h.row.cells (g := g) rfl j u hu
    rwa [Addr.add_lit] at this
/-- A new stack without cells. -/
theorem Pile.made (w : World) (G : Nat → Nat) (e T size i : Nat) : Pile e T size (w.alloc (.cells #[.slice none 0 0] T)) (own1 w G i) i w.heap.size (.slice none 0 0) 0 [] :=
  ⟨heap_alloc_new w _, own1_new _ _ _, World.ownsRow_nil _ _ _ _, (fun b e => by cases e), (fun e => by cases e)⟩
/-- The cells of a new block. -/
theorem Reads.new (w : World) (xs : List Value) (e : TypeId) : Reads (w.alloc (.cells xs.toArray e)) (.some ⟨w.heap.size, 0, none⟩) xs :=
  .inr ⟨w.heap.size, 0, rfl, fun j u hu => by rw [cell_of_row _ w.heap.size (0 + j) xs.toArray e (0, 0) (heap_alloc_new w _)]; simpa using hu⟩
theorem Reads.alloc {w : World} {a : Option Addr} {xs : List Value} (h : Reads w a xs) (o : Obj) : Reads (w.alloc o) a xs :=
  h.adv (G := fun _ => 0) (S := fun _ => False) ((Adv.refl _ w _).alloc o 0) (fun _ _ => id)
/-- Owners are named anew. -/
theorem Pile.relabel {e T size : Nat} {w : World} {G H : Nat → Nat} {i i' D : Nat} {v : Value} {n : Nat} {xs : List Value} (h : Pile e T size w G i D v n xs) (hH : ∀ b, b < w.heap.size → G b = i → H b = i') : Pile e T size w H i' D v n xs :=
  ⟨h.head, hH D h.lt h.hown, h.row, fun b e => hH b (h.row.lt b e).2 (h.rown b e), h.ne⟩
theorem Adv.relabel {S : Nat → Prop} {w w' : World} {G G' H H' : Nat → Nat} (h : Adv S w G w' G') (hn : ∀ b, b < w.heap.size → ¬ S (G b)) (hH : ∀ b, b < w.heap.size → H' b = H b) : Adv (fun _ => False) w H w' H' :=
  ⟨h.os, h.tape, h.output, h.size, hH, fun b hb _ => h.keep b hb (hn b hb)⟩
/-- Old blocks keep their owners; of the new ones 1 becomes i, 2 becomes j. -/
def named (w : World) (G G0 : Nat → Nat) (i j : Nat) : Nat → Nat := fun b => if b < w.heap.size then G b else if G0 b = 1 then i else if G0 b = 2 then j else 0
theorem named_old {w : World} {G G0 : Nat → Nat} {i j b : Nat} (h : b < w.heap.size) : named w G G0 i j b = G b := if_pos h
theorem named_1 {S : Nat → Prop} {w w' : World} {G G0 : Nat → Nat} {i j : Nat} (h : Adv S w (fun _ => 0) w' G0) : ∀ b, b < w'.heap.size → G0 b = 1 → named w G G0 i j b = i := by
  intro b _ h1
  unfold named
  rw [if_neg (fun hb => by have := h.own b hb; omega), if_pos h1]
theorem named_2 {S : Nat → Prop} {w w' : World} {G G0 : Nat → Nat} {i j : Nat} (h : Adv S w (fun _ => 0) w' G0) : ∀ b, b < w'.heap.size → G0 b = 2 → named w G G0 i j b = j := by
  intro b _ h1
  unfold named
  rw [if_neg (fun hb => by have := h.own b hb; omega), if_neg (by omega), if_pos h1]
/-- copy, whatever the elements' size. -/
theorem run_copy_size {P : Program} (w : World) (dT sT ty elem : TypeId) (i : TypeInfo) (g o dLen dCap : Nat) (a : Addr) (sLen sCap : Nat) (cur : Array Value) (t : TypeId) (cs : List Value)
    (hu : P.underlying dT = some (.slice elem)) (hi : P.info? elem = some i)
    (hg : w.heap[g]? = some (.cells cur t (0, 0))) (hn : cs.length = Nat.min sLen dLen * i.size)
    (hsrc : ∀ j v, cs[j]? = some v → w.cell? (a.add j) = some v) (hfit : o + cs.length ≤ cur.size) (h1 : ∀ v ∈ cs, v.oneCell' = true) :
    (Builtin.copy_ #[dT, sT] ty #[.slice (some ⟨g, o, none⟩) dLen dCap, .slice (some a) sLen sCap]).run P w =
      .ok (goInt (Nat.min sLen dLen)) (w.setRow g (cur.toList.take o ++ cs ++ cur.toList.drop (o + cs.length)).toArray) := by
  have hl := run_loadCells_list (P := P) w a cs hsrc
  have hst := run_storeCells_at P g o t cs 0 cur w hg (by simpa using hfit) h1
  simp [Builtin.copy_, run_underlying hu, Builtin.lenOf, Builtin.firstCells, sizeOf, typeInfo, hi, ← hn, hl, hst]
theorem setRow_alloc (w : World) (cur cs : Array Value) (e : TypeId) (g : Nat) (h : g = w.heap.size) : (w.alloc (.cells cur e)).setRow g cs = w.alloc (.cells cs e) := by
  subst h
  have e : ((w.alloc (.cells cur e)).setRow w.heap.size cs).heap = (w.alloc (.cells cs e)).heap := by
    apply Array.ext_getElem?
    intro j
    by_cases hj : j = w.heap.size
    · subst hj
      rw [setRow_heap _ _ cur cs e (0, 0) (heap_alloc_new w _)]
      exact (heap_alloc_new w _).symm
    · rw [setRow_other _ _ _ _ hj]
      simp only [World.alloc, Array.getElem?_push, if_neg hj]
  have h2 : ∀ a b : World, a.heap = b.heap → a.tape = b.tape → a.drawn = b.drawn → a.os = b.os → a.output = b.output → a = b := by
    intro a b h1 h2 h3 h4 h5
    cases a; cases b; simp_all
  exact h2 _ _ e rfl rfl rfl rfl
theorem wpList_copy_new {P : Program} {w : World} {ops : Array Oper} {rest : List Oper} {o : Oper} {a : Act} {Q : Exit → Act → World → Prop} (hgd : o.guard = none) (d s : Operand) (dT sT : TypeId)
    (ho : o.op = .call { callee := .builtin .copy, args := #[d, s], argTypes := #[dT, sT] }) (elem : TypeId) (i : TypeInfo) (hu : P.underlying dT = some (.slice elem)) (hi : P.info? elem = some i)
    (n dCap : Nat) (ad : Addr) (sCap : Nat) (hd : a.eval d = .slice (some ⟨w.heap.size, 0, none⟩) n dCap) (hs : a.eval s = .slice (some ad) n sCap)
    (cur : Array Value) (cs : List Value) (hn : cs.length = n * i.size) (hc : cur.size = cs.length)
    (hsrc : ∀ j v, cs[j]? = some v → w.cell? (ad.add j) = some v) (hb : ad.block < w.heap.size) (h1 : ∀ v ∈ cs, v.oneCell' = true)
    (h : wpList P ops Q rest (a.put o.dst (goInt n)) (w.alloc (.cells cs.toArray elem))) : wpList P ops Q (o :: rest) a (w.alloc (.cells cur elem)) := by
  refine wpList_plain hgd fun K hK => ?_
  have hsrc' : ∀ j v, cs[j]? = some v → (w.alloc (.cells cur elem)).cell? (ad.add j) = some v := fun j v hj => by
    have h2 := hsrc j v hj
    rw [← h2]
    exact World.cell?_of_block (Below.heap_alloc w _ _ (by unfold Addr.add; split <;> exact hb))
  have hrun := run_copy_size (P := P) (w.alloc (.cells cur elem)) dT sT o.type elem i w.heap.size 0 n dCap ad n sCap cur elem cs hu hi (heap_alloc_new w _) (by simpa using hn) hsrc' (by omega) h1
  have he : (cur.toList.take 0 ++ cs ++ cur.toList.drop (0 + cs.length)).toArray = cs.toArray := by
    have hcl : cur.toList.length = cs.length := by simpa using hc
    simp [← hcl]
  rw [he, setRow_alloc w cur cs.toArray elem _ rfl] at hrun
  unfold Oper.wp
  simp [execOp, ho, resolve, invoke, builtin, hd, hs, hrun, Result.andThen]
  exact hK _ _ (by simpa using h)

#print axioms wpList_copy_new
#print axioms wpList_append_own2
#print axioms Pile.adv
end Go.Proofs.YtdnalhjdmlkbmaaDoor
namespace Go.Proofs.YtdnalhjdmlkbmaaDoor
open Go.RowKit

/-- The tables as lists: names, cells taken, cells left, cycles. -/
def namesL : List (List UInt8) := [[], [], [], [], [], [], [], [], [], [110, 111, 112], [121, 105, 101, 108, 100], [104, 97, 108, 116], [100, 117, 112], [100, 114, 111, 112], [115, 119, 97, 112], [111, 118, 101, 114], [114, 111, 116], [110, 105, 112], [116, 117, 99, 107], [50, 100, 117, 112], [50, 100, 114, 111, 112], [43], [45], [42], [47], [109, 111, 100], [117, 47], [117, 109, 111, 100], [110, 101, 103, 97, 116, 101], [97, 98, 115], [109, 105, 110], [109, 97, 120], [49, 43], [49, 45], [50, 42], [50, 47], [97, 110, 100], [111, 114], [120, 111, 114], [105, 110, 118, 101, 114, 116], [108, 115, 104, 105, 102, 116], [114, 115, 104, 105, 102, 116], [61], [60, 62], [60], [62], [117, 60], [117, 62], [48, 61], [48, 60], [64], [33], [99, 64], [99, 33], [43, 33], [62, 114], [114, 62], [114, 64], [105], [106], [112, 108, 111, 116], [112, 97, 100], [116, 111, 110, 101], [98, 97, 110, 107]]
def takesL : List Int := [0, 0, 0, 0, 0, 1, 2, 0, 0, 0, 0, 0, 1, 1, 2, 2, 3, 2, 2, 2, 2, 2, 2, 2, 2, 2, 2, 2, 1, 1, 2, 2, 1, 1, 1, 1, 2, 2, 2, 1, 2, 2, 2, 2, 2, 2, 2, 2, 1, 1, 1, 2, 1, 2, 2, 1, 0, 0, 0, 0, 3, 0, 2, 1]
def leavesL : List Int := [0, 0, 1, 1, 0, 0, 0, 0, 0, 0, 0, 0, 2, 0, 2, 3, 3, 1, 3, 4, 0, 1, 1, 1, 1, 1, 1, 1, 1, 1, 1, 1, 1, 1, 1, 1, 1, 1, 1, 1, 1, 1, 1, 1, 1, 1, 1, 1, 1, 1, 1, 0, 1, 0, 0, 0, 1, 1, 1, 1, 0, 1, 0, 0]
def costsL : List Int := [0, 2, 2, 2, 2, 2, 3, 3, 2, 1, 1, 1, 1, 1, 1, 1, 1, 1, 1, 2, 1, 1, 1, 3, 4, 4, 4, 4, 1, 1, 1, 1, 1, 1, 1, 1, 1, 1, 1, 1, 1, 1, 1, 1, 1, 1, 1, 1, 1, 1, 2, 2, 2, 2, 3, 1, 1, 1, 1, 1, 3, 1, 2, 1]
def nameB (k : Nat) : ByteArray := ⟨(namesL.getD k []).toArray⟩
def takesN (k : Nat) : Int := takesL.getD k 0
def leavesN (k : Nat) : Int := leavesL.getD k 0
def costsN (k : Nat) : Int := costsL.getD k 0
theorem takes_le : ∀ k, k < 64 → 0 ≤ takesN k ∧ takesN k ≤ 4 := by decide
theorem leaves_le : ∀ k, k < 64 → 0 ≤ leavesN k ∧ leavesN k ≤ 4 := by decide
theorem costs_le : ∀ k, k < 64 → 0 ≤ costsN k ∧ costsN k ≤ 4 := by decide
def operandB (k : Nat) : Bool := k == 3 || k == 4 || k == 5 || k == 7
/-- A row. -/
def primV (k : Nat) : Value := .agg #[.int .i64 k, .string (nameB k), .int .i64 (takesN k), .int .i64 (leavesN k), .int .i64 (costsN k), .bool (operandB k)]
def primV0 : Value := .agg #[.int .i64 0, .string ⟨#[]⟩, .int .i64 0, .int .i64 0, .int .i64 0, .bool false]

/-- The four tables lie in this world, and they are nobody's. -/
structure Tabs (w : World) (G : Nat → Nat) : Prop where
  names : ∀ k, k < 64 → w.cell? ⟨0, k, none⟩ = some (.string (nameB k))
  takes : ∀ k, k < 64 → w.cell? ⟨1, k, none⟩ = some (.int .u8 (takesN k))
  leaves : ∀ k, k < 64 → w.cell? ⟨2, k, none⟩ = some (.int .u8 (leavesN k))
  costs : ∀ k, k < 64 → w.cell? ⟨3, k, none⟩ = some (.int .u8 (costsN k))
  n0 : G 0 = 0
  n1 : G 1 = 0
  n2 : G 2 = 0
  n3 : G 3 = 0
theorem Tabs.adv {S : Nat → Prop} {w w' : World} {G G' : Nat → Nat} (h : Tabs w G) (ha : Adv S w G w' G') (hs : ¬ S 0) : Tabs w' G' := by
  have o : ∀ b v, w.cell? ⟨b, 0, none⟩ = some v → G b = 0 → G' b = 0 := fun b v hv hg => (ha.own b (World.block_lt_of_cell? w _ hv)).trans hg
  exact ⟨fun k hk => ha.cell_some (h.names k hk) (by rw [h.n0]; exact hs), fun k hk => ha.cell_some (h.takes k hk) (by rw [h.n1]; exact hs), fun k hk => ha.cell_some (h.leaves k hk) (by rw [h.n2]; exact hs),
    fun k hk => ha.cell_some (h.costs k hk) (by rw [h.n3]; exact hs), o _ _ (h.names 0 (by omega)) h.n0, o _ _ (h.takes 0 (by omega)) h.n1, o _ _ (h.leaves 0 (by omega)) h.n2, o _ _ (h.costs 0 (by omega)) h.n3⟩
/-- Owners are named anew. -/
theorem Tabs.relabel {w : World} {G H : Nat → Nat} (h : Tabs w G) (hH : ∀ b, b < w.heap.size → G b = 0 → H b = 0) : Tabs w H :=
  ⟨h.names, h.takes, h.leaves, h.costs, hH _ (World.block_lt_of_cell? w _ (h.names 0 (by omega))) h.n0, hH _ (World.block_lt_of_cell? w _ (h.takes 0 (by omega))) h.n1, hH _ (World.block_lt_of_cell? w _ (h.leaves 0 (by omega))) h.n2, hH _ (World.block_lt_of_cell? w _ (h.costs 0 (by omega))) h.n3⟩

set_option maxRecDepth 100000 in
set_option maxHeartbeats 400000 in
theorem primOf_any (G : Nat → Nat) (k : Nat) (hk : k < 64) (w : World) (ht : Tabs w G) :
    Calls Tryd.prog 48 #[.int .i64 k] w fun e w' => e = .returned (primV k) ∧ ∃ G', Adv (fun _ => False) w G w' G' := by
  have hn := ht.names k hk
  have htk := ht.takes k hk
  have hl := ht.leaves k hk
  have hc := ht.costs k hk
  have z0 := World.block_lt_of_cell? w _ hn
  have z1 := World.block_lt_of_cell? w _ htk
  have z2 := World.block_lt_of_cell? w _ hl
  have z3 := World.block_lt_of_cell? w _ hc
  have b1 := takes_le k hk
  have b2 := leaves_le k hk
  have b3 := costs_le k hk
  clear ht
  have hop : k = 3 ∨ k = 4 ∨ k = 5 ∨ k = 7 ∨ (((k : Int) == 3) = false ∧ ((k : Int) == 4) = false ∧ ((k : Int) == 5) = false ∧ ((k : Int) == 7) = false) := by
    simp only [beq_eq_false_iff_ne, ne_eq]; omega
  go_enter Tryd.func48, Tryd.ntmps48
  rcases hop with rfl | rfl | rfl | rfl | ⟨e3, e4, e5, e7⟩
  all_goals
    go_wp2
    go_region
    go_wp2
  · exact bodyPost_ret (v := primV 3) (by simp [results, Tryd.results48, go_sem, primV, operandB]) rfl ⟨rfl, _, ((Adv.refl _ w G).alloc _ 0).drew⟩
  · exact bodyPost_ret (v := primV 4) (by simp [results, Tryd.results48, go_sem, primV, operandB]) rfl ⟨rfl, _, ((Adv.refl _ w G).alloc _ 0).drew⟩
  · exact bodyPost_ret (v := primV 5) (by simp [results, Tryd.results48, go_sem, primV, operandB]) rfl ⟨rfl, _, ((Adv.refl _ w G).alloc _ 0).drew⟩
  · exact bodyPost_ret (v := primV 7) (by simp [results, Tryd.results48, go_sem, primV, operandB]) rfl ⟨rfl, _, ((Adv.refl _ w G).alloc _ 0).drew⟩
  · have ho : operandB k = false := by
      simp only [beq_eq_false_iff_ne, ne_eq] at e3 e4 e5 e7
      unfold operandB
      simp only [Bool.or_eq_false_iff, beq_eq_false_iff_ne]
      omega
    exact bodyPost_ret (v := primV k) (by simp [results, Tryd.results48, go_sem, primV, ho]) rfl ⟨rfl, _, ((Adv.refl _ w G).alloc _ 0).drew⟩

end Go.Proofs.YtdnalhjdmlkbmaaDoor
namespace Go.Proofs.YtdnalhjdmlkbmaaDoor
open Go.ChangeShapes Go.WideShapes Go.ChangeAt Go.RowKit

def laid4 : List (String × DataW Unit) := [("wisp/prim.names", Rows.laid_wisp_prim_names), ("wisp/prim.takes", Rows.laid_wisp_prim_takes), ("wisp/prim.leaves", Rows.laid_wisp_prim_leaves), ("wisp/prim.costs", Rows.laid_wisp_prim_costs)]
theorem gName : Tryd.prog.globalNamed "wisp/prim.names" = some 0 := by kernel_rfl
theorem gTake : Tryd.prog.globalNamed "wisp/prim.takes" = some 1 := by kernel_rfl
theorem gLeave : Tryd.prog.globalNamed "wisp/prim.leaves" = some 2 := by kernel_rfl
theorem gCost : Tryd.prog.globalNamed "wisp/prim.costs" = some 3 := by kernel_rfl
theorem tName : (Tryd.prog.globals[(0 : Nat)]?).map (·.type) = some 154 := by kernel_rfl
theorem tTake : (Tryd.prog.globals[(1 : Nat)]?).map (·.type) = some 155 := by kernel_rfl
theorem tLeave : (Tryd.prog.globals[(2 : Nat)]?).map (·.type) = some 155 := by kernel_rfl
theorem tCost : (Tryd.prog.globals[(3 : Nat)]?).map (·.type) = some 155 := by kernel_rfl

theorem at_take {cs : List Value} {k : Nat} {v : Value} (h : (cs.drop k).take 1 = [v]) : cs[k]? = some v := by
  have h1 : ((cs.drop k).take 1)[0]? = some v := by rw [h]; rfl
  rw [List.getElem?_take_of_lt (by decide), List.getElem?_drop] at h1
  simpa using h1
theorem tab_u8 {H : Type} {enc : TypeId × Value → H} {w : World} {base : Nat} {sp : Nat → Bool} {held : Bool} {fuel : Nat} {cs : List Value} {L : List Int} {p : List MemPlace} (_ : L.length = 64)
    (h : DataW.trod enc Tryd.prog w base sp held fuel 155 cs = some (.agg (L.map fun x => .lit (.int .u8 x)), p)) (k : Nat) (hk : k < 64) : cs[k]? = some (.int .u8 (L.getD k 0)) := by
  obtain ⟨xs, m, rfl, hx, -, hn, hel⟩ := DataW.trod_array Tryd.underlying155 h
  have hc : Tryd.prog.cellsOf 5 = 1 := by kernel_rfl
  have hE := hel k hk
  rw [hc, Nat.mul_one] at hE
  obtain ⟨x, hxk⟩ : ∃ x, xs[k]? = some x := ⟨xs[k]'(by omega), by simp⟩
  rw [hxk] at hE
  obtain ⟨n, e1, e2, -⟩ := DataW.trod_int Tryd.underlying5 hE
  have hm : L.map (fun x => (DataW.lit (.int .u8 x) : DataW H)) = xs.map (·.1) := by
    have := congrArg Prod.fst hx
    simpa using this
  have h2 : (L.map (fun x => (DataW.lit (.int .u8 x) : DataW H)))[k]? = some (.lit (.int .u8 n)) := by rw [hm]; simp [hxk, e2]
  rw [List.getElem?_map] at h2
  have hLk : L[k]? = some n := by
    cases hq : L[k]? with
    | none => rw [hq] at h2; cases h2
    | some q => rw [hq] at h2; simp at h2; rw [h2]
  rw [at_take e1, List.getD_eq_getElem?_getD, hLk]
  rfl
theorem tab_string {H : Type} {enc : TypeId × Value → H} {w : World} {base : Nat} {sp : Nat → Bool} {held : Bool} {fuel : Nat} {cs : List Value} {L : List (List UInt8)} {p : List MemPlace} (_ : L.length = 64)
    (h : DataW.trod enc Tryd.prog w base sp held fuel 154 cs = some (.agg (L.map fun x => .lit (.string x)), p)) (k : Nat) (hk : k < 64) : cs[k]? = some (.string ⟨(L.getD k []).toArray⟩) := by
  obtain ⟨xs, m, rfl, hx, -, hn, hel⟩ := DataW.trod_array Tryd.underlying154 h
  have hc : Tryd.prog.cellsOf 9 = 1 := by kernel_rfl
  have hE := hel k hk
  rw [hc, Nat.mul_one] at hE
  obtain ⟨x, hxk⟩ : ∃ x, xs[k]? = some x := ⟨xs[k]'(by omega), by simp⟩
  rw [hxk] at hE
  obtain ⟨n, e1, e2, -⟩ := DataW.trod_string Tryd.underlying9 hE
  have hm : L.map (fun x => (DataW.lit (.string x) : DataW H)) = xs.map (·.1) := by
    have := congrArg Prod.fst hx
    simpa using this
  have h2 : (L.map (fun x => (DataW.lit (.string x) : DataW H)))[k]? = some (.lit (.string n.data.toList)) := by rw [hm]; simp [hxk, e2]
  rw [List.getElem?_map] at h2
  have hLk : L[k]? = some n.data.toList := by
    cases hq : L[k]? with
    | none => rw [hq] at h2; cases h2
    | some q => rw [hq] at h2; simp at h2; rw [h2]
  rw [at_take e1, List.getD_eq_getElem?_getD, hLk]
  simp
theorem namesD : (Rows.laid_wisp_prim_names : DataW Unit) = .agg (namesL.map fun x => .lit (.string x)) := by kernel_rfl
theorem takesD : (Rows.laid_wisp_prim_takes : DataW Unit) = .agg (takesL.map fun x => .lit (.int .u8 x)) := by kernel_rfl
theorem leavesD : (Rows.laid_wisp_prim_leaves : DataW Unit) = .agg (leavesL.map fun x => .lit (.int .u8 x)) := by kernel_rfl
theorem costsD : (Rows.laid_wisp_prim_costs : DataW Unit) = .agg (costsL.map fun x => .lit (.int .u8 x)) := by kernel_rfl

theorem of_laid {W : World} (h : laidMetH Tryd.prog laid4 W) : Tabs W (fun _ => 0) := by
  rw [MakeChecks.laidMetH_plain _ _ _ (by kernel_rfl)] at h
  obtain ⟨ps, ⟨g0, t0, cs0, f0, p0, q0, hg0, ht0, hv0, hd0, ⟨g1, t1, cs1, f1, p1, q1, hg1, ht1, hv1, hd1, ⟨g2, t2, cs2, f2, p2, q2, hg2, ht2, hv2, hd2, ⟨g3, t3, cs3, f3, p3, q3, hg3, ht3, hv3, hd3, _, _⟩, _⟩, _⟩, _⟩, _, _⟩ := h
  obtain rfl := Option.some.inj (gName.symm.trans hg0)
  obtain rfl := Option.some.inj (gTake.symm.trans hg1)
  obtain rfl := Option.some.inj (gLeave.symm.trans hg2)
  obtain rfl := Option.some.inj (gCost.symm.trans hg3)
  obtain rfl := Option.some.inj (tName.symm.trans ht0)
  obtain rfl := Option.some.inj (tTake.symm.trans ht1)
  obtain rfl := Option.some.inj (tLeave.symm.trans ht2)
  obtain rfl := Option.some.inj (tCost.symm.trans ht3)
  rw [namesD] at hd0
  rw [takesD] at hd1
  rw [leavesD] at hd2
  rw [costsD] at hd3
  refine ⟨fun k hk => ?_, fun k hk => ?_, fun k hk => ?_, fun k hk => ?_, rfl, rfl, rfl, rfl⟩
  · rw [World.var?_cell hg0 hv0 k, ← Array.getElem?_toList]; exact tab_string (by decide) hd0 k hk
  · rw [World.var?_cell hg1 hv1 k, ← Array.getElem?_toList]; exact tab_u8 (by decide) hd1 k hk
  · rw [World.var?_cell hg2 hv2 k, ← Array.getElem?_toList]; exact tab_u8 (by decide) hd2 k hk
  · rw [World.var?_cell hg3 hv3 k, ← Array.getElem?_toList]; exact tab_u8 (by decide) hd3 k hk
/-- The door's own heap meets the condition. -/
theorem door_met (os : Os) (args : Array Value) : laidMetH Tryd.prog laid4 ((World.doorLaid Tryd.prog 400 os).forCall (fun _ _ => 0) ⟨#[], args, []⟩).memory :=
  laidMetH_of_parts3 (fuel := 8) (laidMet_of_run' 8 (by kernel_rfl) (by kernel_rfl)) (by kernel_rfl) (by kernel_rfl)
end Go.Proofs.YtdnalhjdmlkbmaaDoor
namespace Go.Proofs.YtdnalhjdmlkbmaaDoor
open Go.RowKit

theorem Tryd.info41 : (Tryd.prog.info? 41).map (fun i => (i.zero, i.size, i.bytes)) = some (some (.int .u16 0), 1, 2) := by kernel_rfl

set_option maxHeartbeats 400000 in
theorem innerU_any (D : Nat) (w : World) : Calls Tryd.prog 60 #[.pointer (some ⟨D, 0, none⟩)] w fun e w' => e = .returned (.pointer (some ⟨D, 0, none⟩)) ∧ w = w' := by
  go_enter Tryd.func60, Tryd.ntmps60
  go_wp2
  go_ret
  exact ⟨rfl, rfl⟩
theorem innerU_nil (w : World) : Calls Tryd.prog 60 #[.pointer none] w fun e w' => e = .returned (.pointer none) ∧ w = w' := by
  go_enter Tryd.func60, Tryd.ntmps60
  go_wp2
  go_ret
  exact ⟨rfl, rfl⟩

set_option maxHeartbeats 400000 in
theorem sizeU_any (D : Nat) (a : Option Addr) (n cap : Nat) (w : World) (hc : w.cell? ⟨D, 0, none⟩ = some (.slice a n cap)) :
    Calls Tryd.prog 61 #[.pointer (some ⟨D, 0, none⟩)] w fun e w' => e = .returned (.int .i64 n) ∧ w = w' := by
  go_enter Tryd.func61, Tryd.ntmps61
  go_wp2
  go_ret
  exact ⟨rfl, rfl⟩
theorem sizeU_nil (w : World) : Calls Tryd.prog 61 #[.pointer none] w fun e w' => e = .returned (.int .i64 0) ∧ w = w' := by
  go_enter Tryd.func61, Tryd.ntmps61
  go_wp2
  go_ret
  exact ⟨rfl, rfl⟩

set_option maxHeartbeats 400000 in
theorem roomU_any (D : Nat) (a : Option Addr) (n cap : Nat) (m lim : Int) (w : World) (hc : w.cell? ⟨D, 0, none⟩ = some (.slice a n cap)) (hn : n ≤ 9223372036854775807) (h0 : 0 ≤ lim) (h1 : lim ≤ 100000) :
    Calls Tryd.prog 81 #[.pointer (some ⟨D, 0, none⟩), .int .i64 m, .int .i64 lim] w fun e w' => e = .returned (.bool (decide (m ≤ lim - n))) ∧ w = w' := by
  go_enter Tryd.func81, Tryd.ntmps81
  go_wp2
  go_ret
  exact ⟨rfl, rfl⟩
theorem roomU_nil (m lim : Int) (w : World) :
    Calls Tryd.prog 81 #[.pointer none, .int .i64 m, .int .i64 lim] w fun e w' => e = .returned (.bool false) ∧ w = w' := by
  go_enter Tryd.func81, Tryd.ntmps81
  go_wp2
  go_ret
  exact ⟨rfl, rfl⟩

set_option maxHeartbeats 400000 in
/-- put: there is no room. -/
theorem putU_full (D : Nat) (a : Option Addr) (n cap : Nat) (lim : Int) (xa : Option Addr) (m c : Nat) (w : World) (hc : w.cell? ⟨D, 0, none⟩ = some (.slice a n cap)) (hn : n ≤ 9223372036854775807) (hm : m ≤ 9223372036854775807) (h0 : 0 ≤ lim) (h1 : lim ≤ 100000)
    (hpos : 0 < m) (hfull : lim < (n : Int) + m) :
    Calls Tryd.prog 65 #[.pointer (some ⟨D, 0, none⟩), .int .i64 lim, .slice xa m c] w fun e w' => e = .returned (.bool false) ∧ w = w' := by
  have hm0 : ((m : Int) == 0) = false := by simp; omega
  have hd : decide ((m : Int) ≤ lim - n) = false := by simp; omega
  go_enter Tryd.func65, Tryd.ntmps65
  go_wp2_with (go_at_call 81; refine (roomU_any D a n cap m lim _ hc hn h0 h1).mono ?_; rintro e w' ⟨rfl, rfl⟩)
  go_ret
  exact ⟨rfl, rfl⟩
/-- put: nothing is put. -/
theorem putU_none (p : Value) (lim : Int) (xa : Option Addr) (c : Nat) (w : World) :
    Calls Tryd.prog 65 #[p, .int .i64 lim, .slice xa 0 c] w fun e w' => e = .returned (.bool true) ∧ w = w' := by
  go_enter Tryd.func65, Tryd.ntmps65
  go_wp2
  go_ret
  exact ⟨rfl, rfl⟩
/-- put into no stack. -/
theorem putU_nil (lim : Int) (xa : Option Addr) (m c : Nat) (w : World) (hpos : 0 < m) :
    Calls Tryd.prog 65 #[.pointer none, .int .i64 lim, .slice xa m c] w fun e w' => e = .returned (.bool false) ∧ w = w' := by
  have hm0 : ((m : Int) == 0) = false := by simp; omega
  go_enter Tryd.func65, Tryd.ntmps65
  go_wp2_with (go_at_call 81; refine (roomU_nil _ _ _).mono ?_; rintro e w' ⟨rfl, rfl⟩)
  go_ret
  exact ⟨rfl, rfl⟩

set_option maxHeartbeats 400000 in
theorem putU_room (T : Nat) (G : Nat → Nat) (i D : Nat) (a : Option Addr) (n cap : Nat) (xs : List Value) (lim : Int) (xa : Addr) (m c : Nat) (news : List Value) (w : World) (hp : Pile 41 T 1 w G i D (.slice a n cap) n xs)
    (hm : m ≤ 9223372036854775807) (h0 : 0 ≤ lim) (h1 : lim ≤ 100000) (hpos : 0 < m) (hroom : (n : Int) + m ≤ lim)
    (hl : news.length = m) (hnews : ∀ j u, news[j]? = some u → w.cell? (xa.add j) = some u) (hone : ∀ u ∈ news, u.oneCell' = true) :
    Calls Tryd.prog 65 #[.pointer (some ⟨D, 0, none⟩), .int .i64 lim, .slice (some xa) m c] w fun e w' => e = .returned (.bool true) ∧
      ∃ G' v', Adv (· = i) w G w' G' ∧ Pile 41 T 1 w' G' i D v' (n + m) (xs ++ news) := by
  have hm0 : ((m : Int) == 0) = false := by simp; omega
  have hd : decide ((m : Int) ≤ lim - n) = true := by simp; omega
  have hc := hp.cell
  have hf := hp.frozen
  obtain ⟨i0, hi, hz0, hz1, hz2⟩ := info_parts Tryd.info41
  have HP := Lib.hid hp
  clear hp
  go_enter Tryd.func65, Tryd.ntmps65
  have hcD : ∀ w1, w.grownBy w1 (Value.slice a n cap).ownBlock → w1.cell? ⟨D, 0, none⟩ = some (.slice a n cap) ∧ w1.frozen? ⟨D, 0, none⟩ = false := fun w1 hg =>
    ⟨(World.cell?_of_block (hg.block D HP.out.lt (fun e => HP.out.ne e.symm))).trans hc, (World.frozen?_of_block (hg.block D HP.out.lt (fun e => HP.out.ne e.symm))).trans hf⟩
  have HD := Lib.hid hcD
  clear hcD
  go_wp2_with (first | (go_at_call 81; refine (roomU_any D a n cap m lim _ hc (by omega) h0 h1).mono ?_; rintro e w' ⟨rfl, rfl⟩) | (at_builtin; refine wpList_append_own2 rfl (.tmp 20) (.tmp 21) 42 rfl 41 i0 (.int .u16 0) 1 2 Tryd.underlying42 hi hz0 hz1 hz2 rfl (by decide) a n cap xs rfl HP.out.row xa m c news rfl (by omega) hnews hone (by unfold maxLen; omega) (by omega) ?_; intro va' vc' w1 h1 h2 h3; obtain ⟨hc1, hf1⟩ := HD.out w1 h2; have H1 := Lib.hid h1; clear h1; have H2 := Lib.hid h2; clear h2; have H3 := Lib.hid h3; clear h3))
  go_ret
  exact ⟨rfl, _, _, HP.out.appended H1.out H2.out H3.out⟩

set_option maxHeartbeats 400000 in
theorem takeU_any (T : Nat) (G : Nat → Nat) (i D : Nat) (a : Option Addr) (m cap : Nat) (ys : List Value) (x : Int) (w : World) (hp : Pile 41 T 1 w G i D (.slice a (m + 1) cap) (m + 1) (ys ++ [.int .u16 x])) :
    Calls Tryd.prog 62 #[.pointer (some ⟨D, 0, none⟩)] w fun e w' => e = .returned (.int .u16 x) ∧ Adv (· = i) w G w' G ∧ Pile 41 T 1 w' G i D (.slice a m cap) m ys := by
  have hc := hp.cell
  have hf := hp.frozen
  obtain ⟨g, rfl, hcap, hlc, hcx⟩ := hp.last
  have hmax : cap ≤ 9223372036854775807 := by unfold maxLen at hcap; omega
  have HP := Lib.hid hp
  clear hp hcap
  go_enter Tryd.func62, Tryd.ntmps62
  go_wp2
  go_ret
  exact ⟨rfl, HP.out.popped⟩

theorem allU_nil (w : World) : Calls Tryd.prog 63 #[.pointer none] w fun e w' => e = .returned (.slice none 0 0) ∧ w = w' := by
  go_enter Tryd.func63, Tryd.ntmps63
  go_wp2_with (go_at_call 61; refine (sizeU_nil _).mono ?_; rintro e w' ⟨rfl, rfl⟩)
  go_ret
  exact ⟨rfl, rfl⟩
theorem allU_none (D : Nat) (a : Option Addr) (cap : Nat) (w : World) (hc : w.cell? ⟨D, 0, none⟩ = some (.slice a 0 cap)) :
    Calls Tryd.prog 63 #[.pointer (some ⟨D, 0, none⟩)] w fun e w' => e = .returned (.slice none 0 0) ∧ w = w' := by
  go_enter Tryd.func63, Tryd.ntmps63
  go_wp2_with (go_at_call 61; refine (sizeU_any D a 0 cap _ hc).mono ?_; rintro e w' ⟨rfl, rfl⟩)
  go_ret
  exact ⟨rfl, rfl⟩
set_option maxRecDepth 100000 in
set_option maxHeartbeats 400000 in
theorem allU_some (D : Nat) (a : Addr) (n cap : Nat) (xs : List Value) (w : World) (hn0 : 0 < n) (hn1 : n ≤ 1000) (hl : xs.length = n) (hone : ∀ u ∈ xs, u.oneCell' = true)
    (hc : w.cell? ⟨D, 0, none⟩ = some (.slice (some a) n cap)) (hx : ∀ j u, xs[j]? = some u → w.cell? (a.add j) = some u) (hb : a.block < w.heap.size) :
    Calls Tryd.prog 63 #[.pointer (some ⟨D, 0, none⟩)] w fun e w' => e = .returned (.slice (some ⟨w.heap.size, 0, none⟩) n n) ∧ w' = w.alloc (.cells xs.toArray 41) := by
  have hm0 : ((n : Int) == 0) = false := by simp; omega
  obtain ⟨i0, hi, hz0, hz1, hz2⟩ := info_parts Tryd.info41
  have hmk := fun w1 => run_make (P := Tryd.prog) w1 42 41 i0 (.int .u16 0) Tryd.underlying42 hi hz0 .i64 .i64 n n (by omega) (by omega) (by rw [hz2]; omega) (by omega)
  rw [hz1, Int.toNat_natCast, Nat.mul_one] at hmk
  have HL := Lib.hid hl
  clear hl
  have hcD : w.cell? ⟨D, 0, none⟩ = some (.slice (some a) n cap) := hc
  have hD : D < w.heap.size := World.block_lt_of_cell? w _ hc
  go_enter Tryd.func63, Tryd.ntmps63
  go_wp2_with (first | (go_at_call 61; refine (sizeU_any D (some a) n cap _ hc).mono ?_; rintro e w' ⟨rfl, rfl⟩) | (refine wpList_copy_new rfl (.tmp 13) (.tmp 17) 42 42 rfl 41 i0 Tryd.underlying42 hi n n a cap rfl rfl _ xs (by rw [HL.out, hz1]; omega) (by rw [HL.out]; simp [size_madeCells]) hx hb hone ?_))
  go_ret
  exact ⟨rfl, rfl⟩
end Go.Proofs.YtdnalhjdmlkbmaaDoor
namespace Go.Proofs.YtdnalhjdmlkbmaaDoor
open Go.RowKit

theorem lenU_any (D : Nat) (a : Option Addr) (n cap : Nat) (w : World) (hc : w.cell? ⟨D, 0, none⟩ = some (.slice a n cap)) :
    Calls Tryd.prog 23 #[.pointer (some ⟨D, 0, none⟩)] w fun e w' => e = .returned (.int .i64 n) ∧ w = w' := by
  go_enter Tryd.func23, Tryd.ntmps23
  go_wp2_with (first | (go_at_call 60; refine (innerU_any D _).mono ?_; rintro e w' ⟨rfl, rfl⟩) | (go_at_call 61; refine (sizeU_any D a n cap _ hc).mono ?_; rintro e w' ⟨rfl, rfl⟩))
  go_ret
  exact ⟨rfl, rfl⟩
theorem lenU_nil (w : World) : Calls Tryd.prog 23 #[.pointer none] w fun e w' => e = .returned (.int .i64 0) ∧ w = w' := by
  go_enter Tryd.func23, Tryd.ntmps23
  go_wp2_with (first | (go_at_call 60; refine (innerU_nil _).mono ?_; rintro e w' ⟨rfl, rfl⟩) | (go_at_call 61; refine (sizeU_nil _).mono ?_; rintro e w' ⟨rfl, rfl⟩))
  go_ret
  exact ⟨rfl, rfl⟩

theorem ret_int {k : IntKind} {a b : Int} (h : a = b) : Ending.returned (.int k a) = .returned (.int k b) := by rw [h]
/-- Need's answer. -/
def needF (n : Int) (i o : Int) : Int := if n < max i 0 then 1 else if 256 - (n - max i 0) < max o 0 then 2 else 0
theorem needF_1 {n i o : Int} (h : n < max i 0) : needF n i o = 1 := if_pos h

set_option maxHeartbeats 400000 in
theorem needU_any (D : Nat) (a : Option Addr) (n cap : Nat) (i o : Int) (w : World) (hc : w.cell? ⟨D, 0, none⟩ = some (.slice a n cap)) (hn : n ≤ 100000) (hi : i ≤ 9223372036854775807) (ho : o ≤ 9223372036854775807) :
    Calls Tryd.prog 55 #[.pointer (some ⟨D, 0, none⟩), .int .i64 i, .int .i64 o] w fun e w' => e = .returned (.int .i64 (needF n i o)) ∧ w = w' := by
  go_enter Tryd.func55, Tryd.ntmps55
  go_wp2_with (first | (go_at_call 60; refine (innerU_any D _).mono ?_; rintro e w' ⟨rfl, rfl⟩) | (go_at_call 61; refine (sizeU_any D a n cap _ hc).mono ?_; rintro e w' ⟨rfl, rfl⟩))
  all_goals
    go_ret
    exact ⟨ret_int (by unfold needF; (repeat' split) <;> omega), rfl⟩
theorem needU_nil (i o : Int) (w : World) (hi : i ≤ 9223372036854775807) (ho : o ≤ 9223372036854775807) :
    Calls Tryd.prog 55 #[.pointer none, .int .i64 i, .int .i64 o] w fun e w' => e = .returned (.int .i64 (needF 0 i o)) ∧ w = w' := by
  go_enter Tryd.func55, Tryd.ntmps55
  go_wp2_with (first | (go_at_call 60; refine (innerU_nil _).mono ?_; rintro e w' ⟨rfl, rfl⟩) | (go_at_call 61; refine (sizeU_nil _).mono ?_; rintro e w' ⟨rfl, rfl⟩))
  all_goals
    go_ret
    exact ⟨ret_int (by unfold needF; (repeat' split) <;> omega), rfl⟩

theorem pushU_nil (xa : Option Addr) (m c : Nat) (w : World) (hpos : 0 < m) :
    Calls Tryd.prog 30 #[.pointer none, .slice xa m c] w fun e w' => e = .returned (.int .i64 2) ∧ w = w' := by
  go_enter Tryd.func30, Tryd.ntmps30
  go_wp2_with (first | (go_at_call 60; refine (innerU_nil _).mono ?_; rintro e w' ⟨rfl, rfl⟩) | (go_at_call 65; refine (putU_nil _ xa m c _ hpos).mono ?_; rintro e w' ⟨rfl, rfl⟩))
  go_ret
  exact ⟨rfl, rfl⟩
theorem pushU_nil0 (xa : Option Addr) (c : Nat) (w : World) :
    Calls Tryd.prog 30 #[.pointer none, .slice xa 0 c] w fun e w' => e = .returned (.int .i64 0) ∧ w = w' := by
  go_enter Tryd.func30, Tryd.ntmps30
  go_wp2_with (first | (go_at_call 60; refine (innerU_nil _).mono ?_; rintro e w' ⟨rfl, rfl⟩) | (go_at_call 65; refine (putU_none _ _ xa c _).mono ?_; rintro e w' ⟨rfl, rfl⟩))
  go_ret
  exact ⟨rfl, rfl⟩
theorem pushU_none (D : Nat) (xa : Option Addr) (c : Nat) (w : World) :
    Calls Tryd.prog 30 #[.pointer (some ⟨D, 0, none⟩), .slice xa 0 c] w fun e w' => e = .returned (.int .i64 0) ∧ w = w' := by
  go_enter Tryd.func30, Tryd.ntmps30
  go_wp2_with (first | (go_at_call 60; refine (innerU_any D _).mono ?_; rintro e w' ⟨rfl, rfl⟩) | (go_at_call 65; refine (putU_none _ _ xa c _).mono ?_; rintro e w' ⟨rfl, rfl⟩))
  go_ret
  exact ⟨rfl, rfl⟩
theorem pushU_full (D : Nat) (a : Option Addr) (n cap : Nat) (xa : Option Addr) (m c : Nat) (w : World) (hc : w.cell? ⟨D, 0, none⟩ = some (.slice a n cap)) (hn : n ≤ 9223372036854775807) (hm : m ≤ 9223372036854775807)
    (hpos : 0 < m) (hfull : 256 < (n : Int) + m) :
    Calls Tryd.prog 30 #[.pointer (some ⟨D, 0, none⟩), .slice xa m c] w fun e w' => e = .returned (.int .i64 2) ∧ w = w' := by
  go_enter Tryd.func30, Tryd.ntmps30
  go_wp2_with (first | (go_at_call 60; refine (innerU_any D _).mono ?_; rintro e w' ⟨rfl, rfl⟩) | (go_at_call 65; refine (putU_full D a n cap 256 xa m c _ hc hn hm (by omega) (by omega) hpos hfull).mono ?_; rintro e w' ⟨rfl, rfl⟩))
  go_ret
  exact ⟨rfl, rfl⟩
set_option maxHeartbeats 400000 in
/-- Push, with room for all. -/
theorem pushU_room (T : Nat) (G : Nat → Nat) (i D : Nat) (a : Option Addr) (n cap : Nat) (xs : List Value) (xa : Addr) (m c : Nat) (news : List Value) (w : World) (hp : Pile 41 T 1 w G i D (.slice a n cap) n xs)
    (hm : m ≤ 9223372036854775807) (hpos : 0 < m) (hroom : (n : Int) + m ≤ 256)
    (hl : news.length = m) (hnews : ∀ j u, news[j]? = some u → w.cell? (xa.add j) = some u) (hone : ∀ u ∈ news, u.oneCell' = true) :
    Calls Tryd.prog 30 #[.pointer (some ⟨D, 0, none⟩), .slice (some xa) m c] w fun e w' => e = .returned (.int .i64 0) ∧
      ∃ G' v', Adv (· = i) w G w' G' ∧ Pile 41 T 1 w' G' i D v' (n + m) (xs ++ news) := by
  have HP := Lib.hid hp
  have HL := Lib.hid hl
  clear hp hl
  go_enter Tryd.func30, Tryd.ntmps30
  go_wp2_with (first | (go_at_call 60; refine (innerU_any D _).mono ?_; rintro e w' ⟨rfl, rfl⟩) | (go_at_call 65; refine (putU_room T G i D a n cap xs 256 xa m c news _ HP.out hm (by omega) (by omega) hpos hroom HL.out hnews hone).mono ?_; rintro e w' ⟨rfl, hr⟩))
  go_ret
  exact ⟨rfl, hr⟩

theorem popU_nil (w : World) : Calls Tryd.prog 24 #[.pointer none] w fun e w' => e = .returned (.int .u16 0) ∧ w = w' := by
  go_enter Tryd.func24, Tryd.ntmps24
  go_wp2_with (first | (go_at_call 60; refine (innerU_nil _).mono ?_; rintro e w' ⟨rfl, rfl⟩) | (go_at_call 61; refine (sizeU_nil _).mono ?_; rintro e w' ⟨rfl, rfl⟩))
  go_ret
  exact ⟨rfl, rfl⟩
theorem popU_none (D : Nat) (a : Option Addr) (cap : Nat) (w : World) (hc : w.cell? ⟨D, 0, none⟩ = some (.slice a 0 cap)) :
    Calls Tryd.prog 24 #[.pointer (some ⟨D, 0, none⟩)] w fun e w' => e = .returned (.int .u16 0) ∧ w = w' := by
  go_enter Tryd.func24, Tryd.ntmps24
  go_wp2_with (first | (go_at_call 60; refine (innerU_any D _).mono ?_; rintro e w' ⟨rfl, rfl⟩) | (go_at_call 61; refine (sizeU_any D a 0 cap _ hc).mono ?_; rintro e w' ⟨rfl, rfl⟩))
  go_ret
  exact ⟨rfl, rfl⟩
set_option maxHeartbeats 400000 in
theorem popU_some (T : Nat) (G : Nat → Nat) (i D : Nat) (a : Option Addr) (m cap : Nat) (ys : List Value) (x : Int) (w : World) (hp : Pile 41 T 1 w G i D (.slice a (m + 1) cap) (m + 1) (ys ++ [.int .u16 x])) :
    Calls Tryd.prog 24 #[.pointer (some ⟨D, 0, none⟩)] w fun e w' => e = .returned (.int .u16 x) ∧ Adv (· = i) w G w' G ∧ Pile 41 T 1 w' G i D (.slice a m cap) m ys := by
  have hc := hp.cell
  have HP := Lib.hid hp
  clear hp
  have hm0 : (((m : Int) + 1) == 0) = false := by simp; omega
  go_enter Tryd.func24, Tryd.ntmps24
  go_wp2_with (first | (go_at_call 60; refine (innerU_any D _).mono ?_; rintro e w' ⟨rfl, rfl⟩) | (go_at_call 61; refine (sizeU_any D a (m + 1) cap _ hc).mono ?_; rintro e w' ⟨rfl, rfl⟩) | (go_at_call 62; refine (takeU_any T G i D a m cap ys x _ HP.out).mono ?_; rintro e w' ⟨rfl, hr⟩))
  go_ret
  exact ⟨rfl, hr⟩

theorem cellsU_nil (w : World) : Calls Tryd.prog 26 #[.pointer none] w fun e w' => e = .returned (.slice none 0 0) ∧ w = w' := by
  go_enter Tryd.func26, Tryd.ntmps26
  go_wp2_with (first | (go_at_call 60; refine (innerU_nil _).mono ?_; rintro e w' ⟨rfl, rfl⟩) | (go_at_call 63; refine (allU_nil _).mono ?_; rintro e w' ⟨rfl, rfl⟩))
  go_ret
  exact ⟨rfl, rfl⟩
theorem cellsU_none (D : Nat) (a : Option Addr) (cap : Nat) (w : World) (hc : w.cell? ⟨D, 0, none⟩ = some (.slice a 0 cap)) :
    Calls Tryd.prog 26 #[.pointer (some ⟨D, 0, none⟩)] w fun e w' => e = .returned (.slice none 0 0) ∧ w = w' := by
  go_enter Tryd.func26, Tryd.ntmps26
  go_wp2_with (first | (go_at_call 60; refine (innerU_any D _).mono ?_; rintro e w' ⟨rfl, rfl⟩) | (go_at_call 63; refine (allU_none D a cap _ hc).mono ?_; rintro e w' ⟨rfl, rfl⟩))
  go_ret
  exact ⟨rfl, rfl⟩
set_option maxHeartbeats 400000 in
theorem cellsU_some (D : Nat) (a : Addr) (n cap : Nat) (xs : List Value) (w : World) (hn0 : 0 < n) (hn1 : n ≤ 1000) (hl : xs.length = n) (hone : ∀ u ∈ xs, u.oneCell' = true)
    (hc : w.cell? ⟨D, 0, none⟩ = some (.slice (some a) n cap)) (hx : ∀ j u, xs[j]? = some u → w.cell? (a.add j) = some u) (hb : a.block < w.heap.size) :
    Calls Tryd.prog 26 #[.pointer (some ⟨D, 0, none⟩)] w fun e w' => e = .returned (.slice (some ⟨w.heap.size, 0, none⟩) n n) ∧ w' = w.alloc (.cells xs.toArray 41) := by
  have HL := Lib.hid hl
  clear hl
  go_enter Tryd.func26, Tryd.ntmps26
  go_wp2_with (first | (go_at_call 60; refine (innerU_any D _).mono ?_; rintro e w' ⟨rfl, rfl⟩) | (go_at_call 63; refine (allU_some D a n cap xs _ hn0 hn1 HL.out hone hc hx hb).mono ?_; rintro e w' ⟨rfl, rfl⟩))
  go_ret
  exact ⟨rfl, rfl⟩
end Go.Proofs.YtdnalhjdmlkbmaaDoor
namespace Go.Proofs.YtdnalhjdmlkbmaaDoor
open Go.RowKit

theorem Tryd.info59 : (Tryd.prog.info? 59).map (fun i => (i.zero, i.size, i.bytes)) = some (some (.agg #[.int .i64 0, .int .u16 0]), 2, 16) := by kernel_rfl

/-- The cells of a list of api.Cell. -/
def cellsR (l : List (Int × Int)) : List Value := l.flatMap fun c => [.int .i64 c.1, .int .u16 c.2]
theorem cellsR_length (l : List (Int × Int)) : (cellsR l).length = l.length * 2 := by
  induction l with
  | nil => rfl
  | cons c l ih => simp only [cellsR, List.flatMap_cons, List.length_append, List.length_cons, List.length_nil] at ih ⊢; omega
theorem cellsR_append (l m : List (Int × Int)) : cellsR (l ++ m) = cellsR l ++ cellsR m := List.flatMap_append
theorem cellsR_fst (l : List (Int × Int)) (k : Nat) (c : Int × Int) (h : l[k]? = some c) : (cellsR l)[k * 2]? = some (.int .i64 c.1) ∧ (cellsR l)[k * 2 + 1]? = some (.int .u16 c.2) := by
  induction l generalizing k with
  | nil => simp at h
  | cons d l ih =>
    cases k with
    | zero => simp at h; subst h; exact ⟨rfl, rfl⟩
    | succ k =>
      have := ih k (by simpa using h)
      simp only [cellsR, List.flatMap_cons] at this ⊢
      rw [show (k + 1) * 2 = k * 2 + 2 from by omega]
      exact this
theorem cellsR_one (l : List (Int × Int)) : ∀ u ∈ cellsR l, u.oneCell' = true := by
  intro u hu
  simp only [cellsR, List.mem_flatMap] at hu
  obtain ⟨c, _, hc⟩ := hu
  simp at hc
  rcases hc with rfl | rfl <;> rfl

/-- Two cells of an element that is read. -/
theorem Reads.atR {w : World} {ya : Option Addr} {l : List (Int × Int)} (h : Reads w ya (cellsR l)) (k : Nat) (c : Int × Int) (hk : l[k]? = .some c) :
    ∃ b o, ya = .some ⟨b, o, none⟩ ∧ w.cell? ⟨b, o + k * 2, none⟩ = .some (.int .i64 c.1) ∧ w.cell? ⟨b, o + k * 2 + 1, none⟩ = .some (.int .u16 c.2) ∧ b < w.heap.size := by
  obtain ⟨h1, h2⟩ := cellsR_fst l k c hk
  obtain ⟨b, o, rfl, h, hb⟩ := h.some (by intro e; rw [e] at h1; simp at h1)
  exact ⟨b, o, rfl, h _ _ h1, by rw [Nat.add_assoc]; exact h _ _ h2, hb⟩
/-- Two cells of an element of a pile. -/
theorem Pile.atR {T : Nat} {w : World} {G : Nat → Nat} {i D : Nat} {a : Option Addr} {n cap : Nat} {l : List (Int × Int)} (h : Pile 59 T 2 w G i D (.slice a n cap) n (cellsR l)) (k : Nat) (c : Int × Int) (hk : l[k]? = some c) :
    ∃ g, a = some ⟨g, 0, none⟩ ∧ n ≤ cap ∧ cap ≤ maxLen ∧ g < w.heap.size ∧ G g = i ∧ w.cell? ⟨g, k * 2, none⟩ = some (.int .i64 c.1) ∧ w.cell? ⟨g, k * 2 + 1, none⟩ = some (.int .u16 c.2) ∧ w.frozen? ⟨g, k * 2, none⟩ = false ∧ w.frozen? ⟨g, k * 2 + 1, none⟩ = false := by
  have hlen := h.nlen
  rw [cellsR_length] at hlen
  have hkl : k < l.length := (List.getElem?_eq_some_iff.1 hk).1
  obtain ⟨g, cap', cur, e1, hbg, hg, hnc, hcm, hcs, htake⟩ := h.row.2.resolve_left (by rintro ⟨_, h⟩; omega)
  obtain ⟨rfl, _, rfl⟩ : a = some ⟨g, 0, none⟩ ∧ n = n ∧ cap = cap' := by simpa using e1
  obtain ⟨h1, h2⟩ := cellsR_fst l k c hk
  have c1 := h.row.cells (g := g) rfl _ _ h1
  have c2 := h.row.cells (g := g) rfl _ _ h2
  rw [Addr.add_lit, Nat.zero_add] at c1 c2
  exact ⟨g, rfl, hnc, hcm, (h.row.lt g rfl).2, h.rown g rfl, c1, c2, by simp [World.frozen?, hg], by simp [World.frozen?, hg]⟩

set_option maxHeartbeats 400000 in
theorem innerR_any (D : Nat) (w : World) : Calls Tryd.prog 58 #[.pointer (some ⟨D, 0, none⟩)] w fun e w' => e = .returned (.pointer (some ⟨D, 0, none⟩)) ∧ w = w' := by
  go_enter Tryd.func58, Tryd.ntmps58
  go_wp2
  go_ret
  exact ⟨rfl, rfl⟩
theorem innerR_nil (w : World) : Calls Tryd.prog 58 #[.pointer none] w fun e w' => e = .returned (.pointer none) ∧ w = w' := by
  go_enter Tryd.func58, Tryd.ntmps58
  go_wp2
  go_ret
  exact ⟨rfl, rfl⟩
theorem sizeR_any (D : Nat) (a : Option Addr) (n cap : Nat) (w : World) (hc : w.cell? ⟨D, 0, none⟩ = some (.slice a n cap)) :
    Calls Tryd.prog 64 #[.pointer (some ⟨D, 0, none⟩)] w fun e w' => e = .returned (.int .i64 n) ∧ w = w' := by
  go_enter Tryd.func64, Tryd.ntmps64
  go_wp2
  go_ret
  exact ⟨rfl, rfl⟩
theorem sizeR_nil (w : World) : Calls Tryd.prog 64 #[.pointer none] w fun e w' => e = .returned (.int .i64 0) ∧ w = w' := by
  go_enter Tryd.func64, Tryd.ntmps64
  go_wp2
  go_ret
  exact ⟨rfl, rfl⟩
theorem roomR_any (D : Nat) (a : Option Addr) (n cap : Nat) (m lim : Int) (w : World) (hc : w.cell? ⟨D, 0, none⟩ = some (.slice a n cap)) (hn : n ≤ 9223372036854775807) (h0 : 0 ≤ lim) (h1 : lim ≤ 100000) :
    Calls Tryd.prog 96 #[.pointer (some ⟨D, 0, none⟩), .int .i64 m, .int .i64 lim] w fun e w' => e = .returned (.bool (decide (m ≤ lim - n))) ∧ w = w' := by
  go_enter Tryd.func96, Tryd.ntmps96
  go_wp2
  go_ret
  exact ⟨rfl, rfl⟩
theorem roomR_nil (m lim : Int) (w : World) :
    Calls Tryd.prog 96 #[.pointer none, .int .i64 m, .int .i64 lim] w fun e w' => e = .returned (.bool false) ∧ w = w' := by
  go_enter Tryd.func96, Tryd.ntmps96
  go_wp2
  go_ret
  exact ⟨rfl, rfl⟩
theorem putR_full (D : Nat) (a : Option Addr) (n cap : Nat) (lim : Int) (xa : Option Addr) (m c : Nat) (w : World) (hc : w.cell? ⟨D, 0, none⟩ = some (.slice a n cap)) (hn : n ≤ 9223372036854775807) (hm : m ≤ 9223372036854775807) (h0 : 0 ≤ lim) (h1 : lim ≤ 100000)
    (hpos : 0 < m) (hfull : lim < (n : Int) + m) :
    Calls Tryd.prog 85 #[.pointer (some ⟨D, 0, none⟩), .int .i64 lim, .slice xa m c] w fun e w' => e = .returned (.bool false) ∧ w = w' := by
  have hm0 : ((m : Int) == 0) = false := by simp; omega
  have hd : decide ((m : Int) ≤ lim - n) = false := by simp; omega
  go_enter Tryd.func85, Tryd.ntmps85
  go_wp2_with (go_at_call 96; refine (roomR_any D a n cap m lim _ hc hn h0 h1).mono ?_; rintro e w' ⟨rfl, rfl⟩)
  go_ret
  exact ⟨rfl, rfl⟩
theorem putR_none (p : Value) (lim : Int) (xa : Option Addr) (c : Nat) (w : World) :
    Calls Tryd.prog 85 #[p, .int .i64 lim, .slice xa 0 c] w fun e w' => e = .returned (.bool true) ∧ w = w' := by
  go_enter Tryd.func85, Tryd.ntmps85
  go_wp2
  go_ret
  exact ⟨rfl, rfl⟩
theorem putR_nil (lim : Int) (xa : Option Addr) (m c : Nat) (w : World) (hpos : 0 < m) :
    Calls Tryd.prog 85 #[.pointer none, .int .i64 lim, .slice xa m c] w fun e w' => e = .returned (.bool false) ∧ w = w' := by
  have hm0 : ((m : Int) == 0) = false := by simp; omega
  go_enter Tryd.func85, Tryd.ntmps85
  go_wp2_with (go_at_call 96; refine (roomR_nil _ _ _).mono ?_; rintro e w' ⟨rfl, rfl⟩)
  go_ret
  exact ⟨rfl, rfl⟩
set_option maxHeartbeats 400000 in
theorem putR_room (T : Nat) (G : Nat → Nat) (i D : Nat) (a : Option Addr) (n cap : Nat) (xs : List Value) (lim : Int) (xa : Addr) (m c : Nat) (news : List Value) (w : World) (hp : Pile 59 T 2 w G i D (.slice a n cap) n xs)
    (hm : m ≤ 9223372036854775807) (h0 : 0 ≤ lim) (h1 : lim ≤ 100000) (hpos : 0 < m) (hroom : (n : Int) + m ≤ lim)
    (hl : news.length = m * 2) (hnews : ∀ j u, news[j]? = some u → w.cell? (xa.add j) = some u) (hone : ∀ u ∈ news, u.oneCell' = true) :
    Calls Tryd.prog 85 #[.pointer (some ⟨D, 0, none⟩), .int .i64 lim, .slice (some xa) m c] w fun e w' => e = .returned (.bool true) ∧
      ∃ G' v', Adv (· = i) w G w' G' ∧ Pile 59 T 2 w' G' i D v' (n + m) (xs ++ news) := by
  have hm0 : ((m : Int) == 0) = false := by simp; omega
  have hd : decide ((m : Int) ≤ lim - n) = true := by simp; omega
  have hc := hp.cell
  have hf := hp.frozen
  obtain ⟨i0, hi, hz0, hz1, hz2⟩ := info_parts Tryd.info59
  have HP := Lib.hid hp
  have HL := Lib.hid hl
  clear hp hl
  have hcD : ∀ w1, w.grownBy w1 (Value.slice a n cap).ownBlock → w1.cell? ⟨D, 0, none⟩ = some (.slice a n cap) ∧ w1.frozen? ⟨D, 0, none⟩ = false := fun w1 hg =>
    ⟨(World.cell?_of_block (hg.block D HP.out.lt (fun e => HP.out.ne e.symm))).trans hc, (World.frozen?_of_block (hg.block D HP.out.lt (fun e => HP.out.ne e.symm))).trans hf⟩
  have HD := Lib.hid hcD
  clear hcD
  go_enter Tryd.func85, Tryd.ntmps85
  go_wp2_with (first | (go_at_call 96; refine (roomR_any D a n cap m lim _ hc (by omega) h0 h1).mono ?_; rintro e w' ⟨rfl, rfl⟩) | (at_builtin; refine wpList_append_own2 rfl (.tmp 20) (.tmp 21) 53 rfl 59 i0 (.agg #[.int .i64 0, .int .u16 0]) 2 16 Tryd.underlying53 hi hz0 hz1 hz2 rfl (by decide) a n cap xs rfl HP.out.row xa m c news rfl HL.out hnews hone (by unfold maxLen; omega) (by omega) ?_; intro va' vc' w1 h1 h2 h3; obtain ⟨hc1, hf1⟩ := HD.out w1 h2; have H1 := Lib.hid h1; clear h1; have H2 := Lib.hid h2; clear h2; have H3 := Lib.hid h3; clear h3))
  go_ret
  exact ⟨rfl, _, _, HP.out.appended H1.out H2.out H3.out⟩

set_option maxHeartbeats 400000 in
theorem topR_any (D : Nat) (n cap : Nat) (g k j : Nat) (w : World) (hc : w.cell? ⟨D, 0, none⟩ = some (.slice (some ⟨g, 0, none⟩) n cap)) (hn : n ≤ 100000) (hj : j + k + 1 = n) :
    Calls Tryd.prog 93 #[.pointer (some ⟨D, 0, none⟩), .int .i64 j] w fun e w' => e = .returned (.pointer (some ⟨g, k * 2, none⟩)) ∧ ∃ d, w' = w.drewN d := by
  have h1 : decide ((j : Int) < 0) = false := by simp
  have h2 : decide ((n : Int) ≤ j) = false := by simp; omega
  obtain rfl : n = j + k + 1 := hj.symm
  clear hj
  go_enter Tryd.func93, Tryd.ntmps93
  go_wp2_with (go_at_call 64; refine (sizeR_any D (some ⟨g, 0, none⟩) (j + k + 1) cap _ hc).mono ?_; rintro e w' ⟨rfl, rfl⟩)
  go_quiet (fail)
  go_wp2
  rw [show j + k - j = k from by omega]
  go_ret
  exact ⟨rfl, nq, rfl⟩
theorem topR_nil (j : Int) (w : World) : Calls Tryd.prog 93 #[.pointer none, .int .i64 j] w fun e w' => e = .returned (.pointer none) ∧ w = w' := by
  go_enter Tryd.func93, Tryd.ntmps93
  by_cases h1 : j < 0
  · have h2 : decide (j < 0) = true := by simpa using h1
    go_wp2_with (go_at_call 64; refine (sizeR_nil _).mono ?_; rintro e w' ⟨rfl, rfl⟩)
    go_ret
    exact ⟨rfl, rfl⟩
  · have h2 : decide (j < 0) = false := by simpa using h1
    have h3 : decide (0 ≤ j) = true := by simp; omega
    go_wp2_with (go_at_call 64; refine (sizeR_nil _).mono ?_; rintro e w' ⟨rfl, rfl⟩)
    go_ret
    exact ⟨rfl, rfl⟩
theorem topR_out (D : Nat) (a : Option Addr) (n cap : Nat) (j : Int) (w : World) (hc : w.cell? ⟨D, 0, none⟩ = some (.slice a n cap)) (hj : j < 0 ∨ (n : Int) ≤ j) :
    Calls Tryd.prog 93 #[.pointer (some ⟨D, 0, none⟩), .int .i64 j] w fun e w' => e = .returned (.pointer none) ∧ w = w' := by
  go_enter Tryd.func93, Tryd.ntmps93
  by_cases h1 : j < 0
  · have h2 : decide (j < 0) = true := by simpa using h1
    go_wp2_with (go_at_call 64; refine (sizeR_any D a n cap _ hc).mono ?_; rintro e w' ⟨rfl, rfl⟩)
    go_ret
    exact ⟨rfl, rfl⟩
  · have h2 : decide (j < 0) = false := by simpa using h1
    have h3 : decide ((n : Int) ≤ j) = true := by simp; omega
    go_wp2_with (go_at_call 64; refine (sizeR_any D a n cap _ hc).mono ?_; rintro e w' ⟨rfl, rfl⟩)
    go_ret
    exact ⟨rfl, rfl⟩

theorem zero43 (w : World) : (zeroValue 59).run Tryd.prog w = .ok (.agg #[.int .i64 0, .int .u16 0]) w := by kernel_rfl

set_option maxHeartbeats 400000 in
theorem takeR_any (T : Nat) (G : Nat → Nat) (i D : Nat) (a : Option Addr) (m cap : Nat) (l : List (Int × Int)) (c : Int × Int) (hlm : l.length = m) (w : World) (hp : Pile 59 T 2 w G i D (.slice a (m + 1) cap) (m + 1) (cellsR (l ++ [c]))) :
    Calls Tryd.prog 95 #[.pointer (some ⟨D, 0, none⟩)] w fun e w' => e = .returned (.agg #[.int .i64 c.1, .int .u16 c.2]) ∧ ∃ G', Adv (· = i) w G w' G' ∧ Pile 59 T 2 w' G' i D (.slice a m cap) m (cellsR l) := by
  obtain ⟨g, rfl, hlc, hcap, hgl, hGg, c1, c2, f1, f2⟩ := hp.atR m c (by rw [← hlm]; simp)
  have hc := hp.cell
  have hf := hp.frozen
  have hmax : cap ≤ 9223372036854775807 := by unfold maxLen at hcap; omega
  have hD := hp.lt
  have HP := Lib.hid hp
  have HL := Lib.hid hlm
  clear hp hcap hGg hlm
  go_enter Tryd.func95, Tryd.ntmps95
  go_wp2
  obtain ⟨h1, h2⟩ := HP.out.cut (m := m) (by omega)
  have h3 := h2 (.inr rfl)
  rw [cellsR_append, List.take_left' (by rw [cellsR_length, HL.out])] at h3
  refine bodyPost_ret (v := .agg #[.int .i64 c.1, .int .u16 c.2]) (by simp [results, Tryd.results95, go_sem]) rfl ⟨rfl, _, (h1.alloc _ 0).alloc _ 0, (h3.alloc _ 0).alloc _ 0⟩

theorem allR_nil (w : World) : Calls Tryd.prog 59 #[.pointer none] w fun e w' => e = .returned (.slice none 0 0) ∧ w = w' := by
  go_enter Tryd.func59, Tryd.ntmps59
  go_wp2_with (go_at_call 64; refine (sizeR_nil _).mono ?_; rintro e w' ⟨rfl, rfl⟩)
  go_ret
  exact ⟨rfl, rfl⟩
theorem allR_none (D : Nat) (a : Option Addr) (cap : Nat) (w : World) (hc : w.cell? ⟨D, 0, none⟩ = some (.slice a 0 cap)) :
    Calls Tryd.prog 59 #[.pointer (some ⟨D, 0, none⟩)] w fun e w' => e = .returned (.slice none 0 0) ∧ w = w' := by
  go_enter Tryd.func59, Tryd.ntmps59
  go_wp2_with (go_at_call 64; refine (sizeR_any D a 0 cap _ hc).mono ?_; rintro e w' ⟨rfl, rfl⟩)
  go_ret
  exact ⟨rfl, rfl⟩
set_option maxRecDepth 100000 in
set_option maxHeartbeats 400000 in
theorem allR_some (D : Nat) (a : Addr) (n cap : Nat) (xs : List Value) (w : World) (hn0 : 0 < n) (hn1 : n ≤ 1000) (hl : xs.length = n * 2) (hone : ∀ u ∈ xs, u.oneCell' = true)
    (hc : w.cell? ⟨D, 0, none⟩ = some (.slice (some a) n cap)) (hx : ∀ j u, xs[j]? = some u → w.cell? (a.add j) = some u) (hb : a.block < w.heap.size) :
    Calls Tryd.prog 59 #[.pointer (some ⟨D, 0, none⟩)] w fun e w' => e = .returned (.slice (some ⟨w.heap.size, 0, none⟩) n n) ∧ w' = w.alloc (.cells xs.toArray 59) := by
  have hm0 : ((n : Int) == 0) = false := by simp; omega
  obtain ⟨i0, hi, hz0, hz1, hz2⟩ := info_parts Tryd.info59
  have hmk := fun w1 => run_make (P := Tryd.prog) w1 53 59 i0 (.agg #[.int .i64 0, .int .u16 0]) Tryd.underlying53 hi hz0 .i64 .i64 n n (by omega) (by omega) (by rw [hz2]; omega) (by omega)
  rw [hz1, Int.toNat_natCast] at hmk
  have HL := Lib.hid hl
  clear hl
  have hD : D < w.heap.size := World.block_lt_of_cell? w _ hc
  go_enter Tryd.func59, Tryd.ntmps59
  go_wp2_with (first | (go_at_call 64; refine (sizeR_any D (some a) n cap _ hc).mono ?_; rintro e w' ⟨rfl, rfl⟩) | (refine wpList_copy_new rfl (.tmp 13) (.tmp 17) 53 53 rfl 59 i0 Tryd.underlying53 hi n n a cap rfl rfl _ xs (by rw [HL.out, hz1]) (by rw [HL.out]; simp [size_madeCells]) hx hb hone ?_))
  go_ret
  exact ⟨rfl, rfl⟩
end Go.Proofs.YtdnalhjdmlkbmaaDoor
namespace Go.Proofs.YtdnalhjdmlkbmaaDoor
open Go.RowKit

theorem lenR_any (D : Nat) (a : Option Addr) (n cap : Nat) (w : World) (hc : w.cell? ⟨D, 0, none⟩ = some (.slice a n cap)) :
    Calls Tryd.prog 28 #[.pointer (some ⟨D, 0, none⟩)] w fun e w' => e = .returned (.int .i64 n) ∧ w = w' := by
  go_enter Tryd.func28, Tryd.ntmps28
  go_wp2_with (first | (go_at_call 58; refine (innerR_any D _).mono ?_; rintro e w' ⟨rfl, rfl⟩) | (go_at_call 64; refine (sizeR_any D a n cap _ hc).mono ?_; rintro e w' ⟨rfl, rfl⟩))
  go_ret
  exact ⟨rfl, rfl⟩
theorem lenR_nil (w : World) : Calls Tryd.prog 28 #[.pointer none] w fun e w' => e = .returned (.int .i64 0) ∧ w = w' := by
  go_enter Tryd.func28, Tryd.ntmps28
  go_wp2_with (first | (go_at_call 58; refine (innerR_nil _).mono ?_; rintro e w' ⟨rfl, rfl⟩) | (go_at_call 64; refine (sizeR_nil _).mono ?_; rintro e w' ⟨rfl, rfl⟩))
  go_ret
  exact ⟨rfl, rfl⟩

theorem pushR_nil (xa : Option Addr) (m c : Nat) (w : World) (hpos : 0 < m) :
    Calls Tryd.prog 76 #[.pointer none, .slice xa m c] w fun e w' => e = .returned (.int .i64 4) ∧ w = w' := by
  go_enter Tryd.func76, Tryd.ntmps76
  go_wp2_with (first | (go_at_call 58; refine (innerR_nil _).mono ?_; rintro e w' ⟨rfl, rfl⟩) | (go_at_call 85; refine (putR_nil _ xa m c _ hpos).mono ?_; rintro e w' ⟨rfl, rfl⟩))
  go_ret
  exact ⟨rfl, rfl⟩
theorem pushR_nil0 (xa : Option Addr) (c : Nat) (w : World) :
    Calls Tryd.prog 76 #[.pointer none, .slice xa 0 c] w fun e w' => e = .returned (.int .i64 0) ∧ w = w' := by
  go_enter Tryd.func76, Tryd.ntmps76
  go_wp2_with (first | (go_at_call 58; refine (innerR_nil _).mono ?_; rintro e w' ⟨rfl, rfl⟩) | (go_at_call 85; refine (putR_none _ _ xa c _).mono ?_; rintro e w' ⟨rfl, rfl⟩))
  go_ret
  exact ⟨rfl, rfl⟩
theorem pushR_none (D : Nat) (xa : Option Addr) (c : Nat) (w : World) :
    Calls Tryd.prog 76 #[.pointer (some ⟨D, 0, none⟩), .slice xa 0 c] w fun e w' => e = .returned (.int .i64 0) ∧ w = w' := by
  go_enter Tryd.func76, Tryd.ntmps76
  go_wp2_with (first | (go_at_call 58; refine (innerR_any D _).mono ?_; rintro e w' ⟨rfl, rfl⟩) | (go_at_call 85; refine (putR_none _ _ xa c _).mono ?_; rintro e w' ⟨rfl, rfl⟩))
  go_ret
  exact ⟨rfl, rfl⟩
theorem pushR_full (D : Nat) (a : Option Addr) (n cap : Nat) (xa : Option Addr) (m c : Nat) (w : World) (hc : w.cell? ⟨D, 0, none⟩ = some (.slice a n cap)) (hn : n ≤ 9223372036854775807) (hm : m ≤ 9223372036854775807)
    (hpos : 0 < m) (hfull : 128 < (n : Int) + m) :
    Calls Tryd.prog 76 #[.pointer (some ⟨D, 0, none⟩), .slice xa m c] w fun e w' => e = .returned (.int .i64 4) ∧ w = w' := by
  go_enter Tryd.func76, Tryd.ntmps76
  go_wp2_with (first | (go_at_call 58; refine (innerR_any D _).mono ?_; rintro e w' ⟨rfl, rfl⟩) | (go_at_call 85; refine (putR_full D a n cap 128 xa m c _ hc hn hm (by omega) (by omega) hpos hfull).mono ?_; rintro e w' ⟨rfl, rfl⟩))
  go_ret
  exact ⟨rfl, rfl⟩
set_option maxHeartbeats 400000 in
theorem pushR_room (T : Nat) (G : Nat → Nat) (i D : Nat) (a : Option Addr) (n cap : Nat) (xs : List Value) (xa : Addr) (m c : Nat) (news : List Value) (w : World) (hp : Pile 59 T 2 w G i D (.slice a n cap) n xs)
    (hm : m ≤ 9223372036854775807) (hpos : 0 < m) (hroom : (n : Int) + m ≤ 128)
    (hl : news.length = m * 2) (hnews : ∀ j u, news[j]? = some u → w.cell? (xa.add j) = some u) (hone : ∀ u ∈ news, u.oneCell' = true) :
    Calls Tryd.prog 76 #[.pointer (some ⟨D, 0, none⟩), .slice (some xa) m c] w fun e w' => e = .returned (.int .i64 0) ∧
      ∃ G' v', Adv (· = i) w G w' G' ∧ Pile 59 T 2 w' G' i D v' (n + m) (xs ++ news) := by
  have HP := Lib.hid hp
  have HL := Lib.hid hl
  clear hp hl
  go_enter Tryd.func76, Tryd.ntmps76
  go_wp2_with (first | (go_at_call 58; refine (innerR_any D _).mono ?_; rintro e w' ⟨rfl, rfl⟩) | (go_at_call 85; refine (putR_room T G i D a n cap xs 128 xa m c news _ HP.out hm (by omega) (by omega) hpos hroom HL.out hnews hone).mono ?_; rintro e w' ⟨rfl, hr⟩))
  go_ret
  exact ⟨rfl, hr⟩

/-- At's answers. -/
def atV (l : List (Int × Int)) (n kind : Int) : Int := if 0 ≤ n ∧ n < l.length then (if (l.getD (l.length - 1 - n.toNat) (0, 0)).1 = kind then (l.getD (l.length - 1 - n.toNat) (0, 0)).2 else 0) else 0
def atE (l : List (Int × Int)) (n kind : Int) : Int := if 0 ≤ n ∧ n < l.length then (if (l.getD (l.length - 1 - n.toNat) (0, 0)).1 = kind then 0 else 5) else 3
theorem atV_in {l : List (Int × Int)} {j k : Nat} {kind : Int} {c : Int × Int} (h : j + k + 1 = l.length) (hc : l[k]? = some c) : atV l j kind = if c.1 = kind then c.2 else 0 := by
  unfold atV
  rw [if_pos (by omega), show l.length - 1 - ((j : Int)).toNat = k from by omega, List.getD, hc]; rfl
theorem atE_in {l : List (Int × Int)} {j k : Nat} {kind : Int} {c : Int × Int} (h : j + k + 1 = l.length) (hc : l[k]? = some c) : atE l j kind = if c.1 = kind then 0 else 5 := by
  unfold atE
  rw [if_pos (by omega), show l.length - 1 - ((j : Int)).toNat = k from by omega, List.getD, hc]; rfl
theorem at_out {l : List (Int × Int)} {n kind : Int} (h : n < 0 ∨ (l.length : Int) ≤ n) : atV l n kind = 0 ∧ atE l n kind = 3 := by
  unfold atV atE
  rw [if_neg (by omega), if_neg (by omega)]; exact ⟨rfl, rfl⟩

theorem atR_nil (n kind : Int) (w : World) : Calls Tryd.prog 80 #[.pointer none, .int .i64 n, .int .i64 kind] w fun e w' => e = .returned (.tuple #[.int .u16 0, .int .i64 3]) ∧ w = w' := by
  go_enter Tryd.func80, Tryd.ntmps80
  go_wp2_with (first | (go_at_call 58; refine (innerR_nil _).mono ?_; rintro e w' ⟨rfl, rfl⟩) | (go_at_call 93; refine (topR_nil _ _).mono ?_; rintro e w' ⟨rfl, rfl⟩))
  go_ret2
  exact ⟨rfl, rfl⟩
theorem atR_out (D : Nat) (a : Option Addr) (m cap : Nat) (n kind : Int) (w : World) (hc : w.cell? ⟨D, 0, none⟩ = some (.slice a m cap)) (hn : n < 0 ∨ (m : Int) ≤ n) :
    Calls Tryd.prog 80 #[.pointer (some ⟨D, 0, none⟩), .int .i64 n, .int .i64 kind] w fun e w' => e = .returned (.tuple #[.int .u16 0, .int .i64 3]) ∧ w = w' := by
  go_enter Tryd.func80, Tryd.ntmps80
  go_wp2_with (first | (go_at_call 58; refine (innerR_any D _).mono ?_; rintro e w' ⟨rfl, rfl⟩) | (go_at_call 93; refine (topR_out D a m cap n _ hc hn).mono ?_; rintro e w' ⟨rfl, rfl⟩))
  go_ret2
  exact ⟨rfl, rfl⟩
set_option maxHeartbeats 400000 in
theorem atR_same (D g : Nat) (m cap j k : Nat) (c1 c2 : Int) (w : World) (hc : w.cell? ⟨D, 0, none⟩ = some (.slice (some ⟨g, 0, none⟩) m cap)) (hm : m ≤ 100000) (hj : j + k + 1 = m)
    (h1 : w.cell? ⟨g, k * 2, none⟩ = some (.int .i64 c1)) (h2 : w.cell? ⟨g, k * 2 + 1, none⟩ = some (.int .u16 c2)) :
    Calls Tryd.prog 80 #[.pointer (some ⟨D, 0, none⟩), .int .i64 j, .int .i64 c1] w fun e w' => e = .returned (.tuple #[.int .u16 c2, .int .i64 0]) ∧ ∃ d, w' = w.drewN d := by
  have HJ := Lib.hid hj
  clear hj
  go_enter Tryd.func80, Tryd.ntmps80
  go_wp2_with (first | (go_at_call 58; refine (innerR_any D _).mono ?_; rintro e w' ⟨rfl, rfl⟩) | (go_at_call 93; refine (topR_any D m cap g k j _ hc hm HJ.out).mono ?_; rintro e w' ⟨rfl, d, rfl⟩))
  go_ret2
  exact ⟨rfl, d, rfl⟩
set_option maxHeartbeats 400000 in
theorem atR_other (D g : Nat) (m cap j k : Nat) (kind c1 c2 : Int) (hb : (c1 != kind) = true) (w : World) (hc : w.cell? ⟨D, 0, none⟩ = some (.slice (some ⟨g, 0, none⟩) m cap)) (hm : m ≤ 100000) (hj : j + k + 1 = m)
    (h1 : w.cell? ⟨g, k * 2, none⟩ = some (.int .i64 c1)) (_h2 : w.cell? ⟨g, k * 2 + 1, none⟩ = some (.int .u16 c2)) :
    Calls Tryd.prog 80 #[.pointer (some ⟨D, 0, none⟩), .int .i64 j, .int .i64 kind] w fun e w' => e = .returned (.tuple #[.int .u16 0, .int .i64 5]) ∧ ∃ d, w' = w.drewN d := by
  have HJ := Lib.hid hj
  clear hj
  have hk : ¬ c1 = kind := by simpa using hb
  go_enter Tryd.func80, Tryd.ntmps80
  go_wp2_with (first | (go_at_call 58; refine (innerR_any D _).mono ?_; rintro e w' ⟨rfl, rfl⟩) | (go_at_call 93; refine (topR_any D m cap g k j _ hc hm HJ.out).mono ?_; rintro e w' ⟨rfl, d, rfl⟩))
  go_ret2
  exact ⟨rfl, d, rfl⟩
/-- At, of whatever place and kind. -/
theorem atR_any (T : Nat) (G : Nat → Nat) (i D : Nat) (a : Option Addr) (m cap : Nat) (l : List (Int × Int)) (n kind : Int) (w : World) (hp : Pile 59 T 2 w G i D (.slice a m cap) m (cellsR l)) (hm : m ≤ 100000) :
    Calls Tryd.prog 80 #[.pointer (some ⟨D, 0, none⟩), .int .i64 n, .int .i64 kind] w fun e w' => e = .returned (.tuple #[.int .u16 (atV l n kind), .int .i64 (atE l n kind)]) ∧ ∃ d, w' = w.drewN d := by
  have hlen : l.length = m := by have := hp.nlen; rw [cellsR_length] at this; omega
  by_cases hn : 0 ≤ n ∧ n < m
  · obtain ⟨j, rfl⟩ : ∃ j : Nat, n = j := ⟨n.toNat, by omega⟩
    obtain ⟨k, hk⟩ : ∃ k : Nat, j + k + 1 = m := ⟨m - 1 - j, by omega⟩
    obtain ⟨c, hc⟩ : ∃ c, l[k]? = some c := ⟨l[k]'(by omega), by simp⟩
    obtain ⟨g, rfl, _, _, _, _, h1, h2, _, _⟩ := hp.atR k c hc
    rw [atV_in (by omega) hc, atE_in (by omega) hc]
    by_cases e : c.1 = kind
    · rw [if_pos e, if_pos e, ← e]
      exact atR_same D g m cap j k c.1 c.2 w hp.cell hm hk h1 h2
    · rw [if_neg e, if_neg e]
      exact atR_other D g m cap j k kind c.1 c.2 (by simpa using e) w hp.cell hm hk h1 h2
  · rw [(at_out (by omega)).1, (at_out (by omega)).2]
    exact (atR_out D a m cap n kind w hp.cell (by omega)).mono fun e w' h => ⟨h.1, 0, h.2.symm⟩

theorem setR_nil (x : Int) (w : World) : Calls Tryd.prog 94 #[.pointer none, .int .u16 x] w fun e w' => e = .returned (.tuple #[]) ∧ w = w' := by
  go_enter Tryd.func94, Tryd.ntmps94
  go_wp2_with (first | (go_at_call 58; refine (innerR_nil _).mono ?_; rintro e w' ⟨rfl, rfl⟩) | (go_at_call 93; refine (topR_nil _ _).mono ?_; rintro e w' ⟨rfl, rfl⟩))
  go_end0
  exact ⟨rfl, rfl⟩
theorem setR_none (D : Nat) (a : Option Addr) (cap : Nat) (x : Int) (w : World) (hc : w.cell? ⟨D, 0, none⟩ = some (.slice a 0 cap)) : Calls Tryd.prog 94 #[.pointer (some ⟨D, 0, none⟩), .int .u16 x] w fun e w' => e = .returned (.tuple #[]) ∧ w = w' := by
  go_enter Tryd.func94, Tryd.ntmps94
  go_wp2_with (first | (go_at_call 58; refine (innerR_any D _).mono ?_; rintro e w' ⟨rfl, rfl⟩) | (go_at_call 93; refine (topR_out D a 0 cap 0 _ hc (.inr (by omega))).mono ?_; rintro e w' ⟨rfl, rfl⟩))
  go_end0
  exact ⟨rfl, rfl⟩
theorem cellsR_set (l : List (Int × Int)) (c : Int × Int) (x : Int) : (cellsR (l ++ [c])).set (l.length * 2 + 1) (.int .u16 x) = cellsR (l ++ [(c.1, x)]) := by
  rw [cellsR_append, cellsR_append, ← cellsR_length, List.set_append_right _ _ (by omega)]
  congr 1
  rw [show (cellsR l).length + 1 - (cellsR l).length = 1 from by omega]; rfl
theorem Pile.drewN {e T size : Nat} {w : World} {G : Nat → Nat} {i D : Nat} {v : Value} {n : Nat} {xs : List Value} (h : Pile e T size w G i D v n xs) (d : Nat) : Pile e T size (w.drewN d) G i D v n xs :=
  h.adv (S := fun _ => False) ((Adv.refl _ w G).drewN d) id
set_option maxHeartbeats 400000 in
theorem setR_some (T : Nat) (G : Nat → Nat) (i D : Nat) (a : Option Addr) (m cap : Nat) (l : List (Int × Int)) (c : Int × Int) (x : Int) (hlm : l.length = m) (hm : m < 100000) (w : World) (hp : Pile 59 T 2 w G i D (.slice a (m + 1) cap) (m + 1) (cellsR (l ++ [c]))) :
    Calls Tryd.prog 94 #[.pointer (some ⟨D, 0, none⟩), .int .u16 x] w fun e w' => e = .returned (.tuple #[]) ∧ Adv (· = i) w G w' G ∧ Pile 59 T 2 w' G i D (.slice a (m + 1) cap) (m + 1) (cellsR (l ++ [(c.1, x)])) := by
  obtain ⟨g, rfl, hlc, hcap, hgl, hGg, c1, c2, f1, f2⟩ := hp.atR m c (by rw [← hlm]; simp)
  have hc := hp.cell
  have HP := Lib.hid hp
  have HL := Lib.hid hlm
  clear hp hcap hGg hlm
  go_enter Tryd.func94, Tryd.ntmps94
  go_wp2_with (first | (go_at_call 58; refine (innerR_any D _).mono ?_; rintro e w' ⟨rfl, rfl⟩) | (go_at_call 93; refine (topR_any D (m + 1) cap g m 0 _ hc (by omega) (by omega)).mono ?_; rintro e w' ⟨rfl, d, rfl⟩))
  go_end0
  have h := (HP.out.drewN d).store (m * 2 + 1) (by rw [cellsR_length]; simp; have := HL.out; omega) (.int .u16 x)
  rw [← HL.out, cellsR_set, HL.out] at h
  exact ⟨rfl, (((Adv.refl _ w G).drewN d).trans h.1), h.2⟩

theorem popR_nil (kind : Int) (w : World) : Calls Tryd.prog 84 #[.pointer none, .int .i64 kind] w fun e w' => e = .returned (.tuple #[.int .u16 0, .int .i64 3]) ∧ w = w' := by
  go_enter Tryd.func84, Tryd.ntmps84
  go_wp2_with (go_at_call 80; refine (atR_nil 0 kind _).mono ?_; rintro e w' ⟨rfl, rfl⟩)
  go_ret2
  exact ⟨rfl, rfl⟩
/-- Pop of what is not so: nothing is taken. -/
theorem popR_not (T : Nat) (G : Nat → Nat) (i D : Nat) (a : Option Addr) (m cap : Nat) (l : List (Int × Int)) (kind : Int) (w : World) (hp : Pile 59 T 2 w G i D (.slice a m cap) m (cellsR l)) (hm : m ≤ 100000) (hne : (atE l 0 kind == 0) = false) :
    Calls Tryd.prog 84 #[.pointer (some ⟨D, 0, none⟩), .int .i64 kind] w fun e w' => e = .returned (.tuple #[.int .u16 (atV l 0 kind), .int .i64 (atE l 0 kind)]) ∧ ∃ d, w' = w.drewN d := by
  have HP := Lib.hid hp
  clear hp
  go_enter Tryd.func84, Tryd.ntmps84
  go_wp2_with (go_at_call 80; refine (atR_any T G i D a m cap l 0 kind _ HP.out hm).mono ?_; rintro e w' ⟨rfl, d, rfl⟩)
  go_ret2
  exact ⟨rfl, d, rfl⟩
theorem popR_is (T : Nat) (G : Nat → Nat) (i D : Nat) (a : Option Addr) (m cap : Nat) (l : List (Int × Int)) (c : Int × Int) (w : World) (hlm : l.length = m) (hp : Pile 59 T 2 w G i D (.slice a (m + 1) cap) (m + 1) (cellsR (l ++ [c]))) (hm : m < 100000) :
    Calls Tryd.prog 84 #[.pointer (some ⟨D, 0, none⟩), .int .i64 c.1] w fun e w' => e = .returned (.tuple #[.int .u16 c.2, .int .i64 0]) ∧ ∃ G', Adv (· = i) w G w' G' ∧ Pile 59 T 2 w' G' i D (.slice a m cap) m (cellsR l) := by
  obtain ⟨g, rfl, _, _, _, _, h1, h2, _, _⟩ := hp.atR m c (by rw [← hlm]; simp)
  have hc := hp.cell
  have HP := Lib.hid hp
  have HL := Lib.hid hlm
  clear hp hlm
  go_enter Tryd.func84, Tryd.ntmps84
  go_wp2_with (first | (go_at_call 80; refine (atR_same D g (m + 1) cap 0 m c.1 c.2 _ hc (by omega) (by omega) h1 h2).mono ?_; rintro e w' ⟨rfl, d, rfl⟩) | (go_at_call 95; refine (takeR_any T G i D _ m cap l c HL.out _ (HP.out.drewN d)).mono ?_; rintro e w' ⟨rfl, hr⟩))
  go_ret2
  obtain ⟨G', hr1, hr2⟩ := hr
  exact ⟨rfl, G', ((Adv.refl _ w G).drewN d).trans hr1, hr2⟩

theorem cellsOR_nil (w : World) : Calls Tryd.prog 22 #[.pointer none] w fun e w' => e = .returned (.slice none 0 0) ∧ w = w' := by
  go_enter Tryd.func22, Tryd.ntmps22
  go_wp2_with (first | (go_at_call 58; refine (innerR_nil _).mono ?_; rintro e w' ⟨rfl, rfl⟩) | (go_at_call 59; refine (allR_nil _).mono ?_; rintro e w' ⟨rfl, rfl⟩))
  go_ret
  exact ⟨rfl, rfl⟩
theorem cellsOR_none (D : Nat) (a : Option Addr) (cap : Nat) (w : World) (hc : w.cell? ⟨D, 0, none⟩ = some (.slice a 0 cap)) :
    Calls Tryd.prog 22 #[.pointer (some ⟨D, 0, none⟩)] w fun e w' => e = .returned (.slice none 0 0) ∧ w = w' := by
  go_enter Tryd.func22, Tryd.ntmps22
  go_wp2_with (first | (go_at_call 58; refine (innerR_any D _).mono ?_; rintro e w' ⟨rfl, rfl⟩) | (go_at_call 59; refine (allR_none D a cap _ hc).mono ?_; rintro e w' ⟨rfl, rfl⟩))
  go_ret
  exact ⟨rfl, rfl⟩
set_option maxHeartbeats 400000 in
theorem cellsOR_some (D : Nat) (a : Addr) (n cap : Nat) (xs : List Value) (w : World) (hn0 : 0 < n) (hn1 : n ≤ 1000) (hl : xs.length = n * 2) (hone : ∀ u ∈ xs, u.oneCell' = true)
    (hc : w.cell? ⟨D, 0, none⟩ = some (.slice (some a) n cap)) (hx : ∀ j u, xs[j]? = some u → w.cell? (a.add j) = some u) (hb : a.block < w.heap.size) :
    Calls Tryd.prog 22 #[.pointer (some ⟨D, 0, none⟩)] w fun e w' => e = .returned (.slice (some ⟨w.heap.size, 0, none⟩) n n) ∧ w' = w.alloc (.cells xs.toArray 59) := by
  have HL := Lib.hid hl
  clear hl
  go_enter Tryd.func22, Tryd.ntmps22
  go_wp2_with (first | (go_at_call 58; refine (innerR_any D _).mono ?_; rintro e w' ⟨rfl, rfl⟩) | (go_at_call 59; refine (allR_some D a n cap xs _ hn0 hn1 HL.out hone hc hx hb).mono ?_; rintro e w' ⟨rfl, rfl⟩))
  go_ret
  exact ⟨rfl, rfl⟩
end Go.Proofs.YtdnalhjdmlkbmaaDoor
namespace Go.Proofs.YtdnalhjdmlkbmaaDoor
open Go.RowKit

theorem pushU_ok (T : Nat) (G : Nat → Nat) (i D : Nat) (v : Value) (n : Nat) (xs : List Value) (xa : Option Addr) (m c : Nat) (news : List Value) (w : World) (hp : Pile 41 T 1 w G i D v n xs)
    (hroom : n + m ≤ 256) (hl : news.length = m) (hnews : Reads w xa news) (hone : ∀ u ∈ news, u.oneCell' = true) :
    Calls Tryd.prog 30 #[.pointer (some ⟨D, 0, none⟩), .slice xa m c] w fun e w' => e = .returned (.int .i64 0) ∧
      ∃ G' v', Adv (· = i) w G w' G' ∧ Pile 41 T 1 w' G' i D v' (n + m) (xs ++ news) := by
  obtain ⟨a, cap, rfl⟩ := hp.slice
  rcases Nat.eq_zero_or_pos m with rfl | hpos
  · obtain rfl := List.eq_nil_of_length_eq_zero hl
    refine (pushU_none D xa c w).mono ?_
    rintro e w' ⟨rfl, rfl⟩
    exact ⟨rfl, G, _, Adv.refl _ _ _, by simpa using hp⟩
  · obtain ⟨b, o, rfl, hnews, _⟩ := hnews.some (by rintro rfl; simp at hl; omega)
    exact pushU_room T G i D a n cap xs _ m c news w hp (by omega) hpos (by omega) hl (Reads.add hnews) hone
theorem pushU_no (T : Nat) (G : Nat → Nat) (i D : Nat) (v : Value) (n : Nat) (xs : List Value) (xa : Option Addr) (m c : Nat) (w : World) (hp : Pile 41 T 1 w G i D v n xs)
    (hn : n ≤ 256) (hm : m ≤ 9223372036854775807) (hfull : 256 < n + m) :
    Calls Tryd.prog 30 #[.pointer (some ⟨D, 0, none⟩), .slice xa m c] w fun e w' => e = .returned (.int .i64 2) ∧ w = w' := by
  obtain ⟨a, cap, rfl⟩ := hp.slice
  exact pushU_full D a n cap xa m c w hp.cell (by omega) hm (by omega) (by omega)
theorem pushR_ok (T : Nat) (G : Nat → Nat) (i D : Nat) (v : Value) (n : Nat) (xs : List Value) (xa : Option Addr) (m c : Nat) (news : List Value) (w : World) (hp : Pile 59 T 2 w G i D v n xs)
    (hroom : n + m ≤ 128) (hl : news.length = m * 2) (hnews : Reads w xa news) (hone : ∀ u ∈ news, u.oneCell' = true) :
    Calls Tryd.prog 76 #[.pointer (some ⟨D, 0, none⟩), .slice xa m c] w fun e w' => e = .returned (.int .i64 0) ∧
      ∃ G' v', Adv (· = i) w G w' G' ∧ Pile 59 T 2 w' G' i D v' (n + m) (xs ++ news) := by
  obtain ⟨a, cap, rfl⟩ := hp.slice
  rcases Nat.eq_zero_or_pos m with rfl | hpos
  · obtain rfl := List.eq_nil_of_length_eq_zero hl
    refine (pushR_none D xa c w).mono ?_
    rintro e w' ⟨rfl, rfl⟩
    exact ⟨rfl, G, _, Adv.refl _ _ _, by simpa using hp⟩
  · obtain ⟨b, o, rfl, hnews, _⟩ := hnews.some (by rintro rfl; simp at hl; omega)
    exact pushR_room T G i D a n cap xs _ m c news w hp (by omega) hpos (by omega) hl (Reads.add hnews) hone
theorem pushR_no (T : Nat) (G : Nat → Nat) (i D : Nat) (v : Value) (n : Nat) (xs : List Value) (xa : Option Addr) (m c : Nat) (w : World) (hp : Pile 59 T 2 w G i D v n xs)
    (hn : n ≤ 128) (hm : m ≤ 9223372036854775807) (hfull : 128 < n + m) :
    Calls Tryd.prog 76 #[.pointer (some ⟨D, 0, none⟩), .slice xa m c] w fun e w' => e = .returned (.int .i64 4) ∧ w = w' := by
  obtain ⟨a, cap, rfl⟩ := hp.slice
  exact pushR_full D a n cap xa m c w hp.cell (by omega) hm (by omega) (by omega)

set_option maxHeartbeats 400000 in
theorem stacks_noU (G : Nat → Nat) (xa : Option Addr) (m c : Nat) (rv : Value) (w : World) (hm : m ≤ 9223372036854775807) (hbig : 256 < m) :
    Calls Tryd.prog 51 #[.slice xa m c, rv] w fun e w' => e = .returned (.tuple #[.pointer none, .pointer none, .int .i64 2]) ∧ ∃ G', Adv (fun _ => False) w G w' G' := by
  go_enter Tryd.func51, Tryd.ntmps51
  go_wp2_with (go_at_call 30; refine (pushU_no 140 (own1 (w.alloc (.cells #[.slice none 0 0] 140)) (own1 w G 1) 0) 1 w.heap.size (.slice none 0 0) 0 [] xa m c _ ((Pile.made w G 41 140 1 1).alloc _ 0) (by omega) hm (by omega)).mono ?_; rintro e w' ⟨rfl, rfl⟩)
  go_ret3
  exact ⟨rfl, _, ((Adv.refl _ w G).alloc _ 0).alloc _ 0⟩
/-- Two new stacks without cells. -/
theorem two_new (w : World) : ∃ G1, Adv (fun i => i = 1 ∨ i = 2) w (fun _ => 0) ((w.alloc (.cells #[.slice none 0 0] 140)).alloc (.cells #[.slice none 0 0] 144)) G1 ∧
    Pile 41 140 1 ((w.alloc (.cells #[.slice none 0 0] 140)).alloc (.cells #[.slice none 0 0] 144)) G1 1 w.heap.size (.slice none 0 0) 0 [] ∧
    Pile 59 144 2 ((w.alloc (.cells #[.slice none 0 0] 140)).alloc (.cells #[.slice none 0 0] 144)) G1 2 (w.heap.size + 1) (.slice none 0 0) 0 [] := by
  refine ⟨_, ((Adv.refl (fun i => i = 1 ∨ i = 2) w (fun _ => 0)).alloc (.cells #[.slice none 0 0] 140) 1).alloc (.cells #[.slice none 0 0] 144) 2, (Pile.made w (fun _ => 0) 41 140 1 1).alloc (.cells #[.slice none 0 0] 144) 2, ?_⟩
  have h := Pile.made (w.alloc (.cells #[.slice none 0 0] 140)) (own1 w (fun _ => 0) 1) 59 144 2 2
  rwa [show (w.alloc (.cells #[.slice none 0 0] 140)).heap.size = w.heap.size + 1 from by simp] at h

set_option maxHeartbeats 400000 in
theorem stacks_noR (G : Nat → Nat) (xa : Option Addr) (m c : Nat) (xs : List Value) (ya : Option Addr) (k c2 : Nat) (w : World) (hm : m ≤ 256) (hl : xs.length = m) (hx : Reads w xa xs) (hone : ∀ u ∈ xs, u.oneCell' = true)
    (hk : k ≤ 9223372036854775807) (hbig : 128 < k) :
    Calls Tryd.prog 51 #[.slice xa m c, .slice ya k c2] w fun e w' => e = .returned (.tuple #[.pointer none, .pointer none, .int .i64 2]) ∧ ∃ G', Adv (fun _ => False) w G w' G' := by
  obtain ⟨G1, hA, hU, hR⟩ := two_new w
  have hx1 := hx.adv hA (fun _ _ => by omega)
  have HX := Lib.hid hx1
  have HL := Lib.hid hl
  have HA := Lib.hid hA
  have HU := Lib.hid hU
  have HR := Lib.hid hR
  clear hl hA hU hR hx1 hx
  go_enter Tryd.func51, Tryd.ntmps51
  go_wp2_with fail
  refine (pushU_ok 140 G1 1 w.heap.size (.slice none 0 0) 0 [] xa m c xs _ HU.out (by omega) HL.out HX.out hone).mono ?_
  rintro e w' ⟨rfl, G2, v1, ha, hp⟩
  have hR := HR.out.adv ha (by omega)
  have HA2 := Lib.hid (HA.out.trans (ha.mono (fun _ h => .inl h)))
  have HR2 := Lib.hid hR
  clear ha hp hR
  go_wp2_with fail
  refine (pushR_no 144 G2 2 (w.heap.size + 1) (.slice none 0 0) 0 [] ya k c2 _ HR2.out (by omega) hk (by omega)).mono ?_
  rintro e w2 ⟨rfl, rfl⟩
  go_wp2_with fail
  go_ret3
  exact ⟨rfl, named w G G2 0 0, HA2.out.relabel (fun _ _ => by omega) (fun _ hb => named_old hb)⟩

set_option maxHeartbeats 400000 in
theorem stacks_ok (G : Nat → Nat) (i j : Nat) (xa : Option Addr) (m c : Nat) (xs : List Value) (ya : Option Addr) (k c2 : Nat) (l : List (Int × Int)) (w : World) (hm : m ≤ 256) (hl : xs.length = m) (hx : Reads w xa xs) (hone : ∀ u ∈ xs, u.oneCell' = true)
    (hk : k ≤ 128) (hlk : l.length = k) (hy : Reads w ya (cellsR l)) (hgood : ∀ c ∈ l, 1 ≤ c.1 ∧ c.1 ≤ 4) :
    Calls Tryd.prog 51 #[.slice xa m c, .slice ya k c2] w fun e w' => ∃ D R G' vd vr, e = .returned (.tuple #[.pointer (some ⟨D, 0, none⟩), .pointer (some ⟨R, 0, none⟩), .int .i64 0]) ∧ Adv (fun _ => False) w G w' G' ∧
      Pile 41 140 1 w' G' i D vd m xs ∧ Pile 59 144 2 w' G' j R vr k (cellsR l) := by
  obtain ⟨G1, hA, hU, hR⟩ := two_new w
  have hx1 := hx.adv hA (fun _ _ => by omega)
  have HX := Lib.hid hx1
  have HY0 := Lib.hid hy
  have HL := Lib.hid hl
  have HLK := Lib.hid hlk
  have HA := Lib.hid hA
  have HU := Lib.hid hU
  have HR := Lib.hid hR
  have HG := Lib.hid hgood
  clear hl hA hU hR hx1 hx hy hlk hgood
  go_enter Tryd.func51, Tryd.ntmps51
  go_wp2_with fail
  refine (pushU_ok 140 G1 1 w.heap.size (.slice none 0 0) 0 [] xa m c xs _ HU.out (by omega) HL.out HX.out hone).mono ?_
  rintro e w' ⟨rfl, G2, v1, ha, hp⟩
  have hR := HR.out.adv ha (by omega)
  have HA2 := Lib.hid (HA.out.trans (ha.mono (fun _ h => .inl h)))
  have HR2 := Lib.hid hR
  have HU2 := Lib.hid hp
  have HY2 := Lib.hid (HY0.out.adv HA2.out (fun _ _ => by omega))
  clear ha hp hR
  go_wp2_with fail
  refine (pushR_ok 144 G2 2 (w.heap.size + 1) (.slice none 0 0) 0 [] ya k c2 (cellsR l) _ HR2.out (by omega) (by rw [cellsR_length, HLK.out]) HY2.out (cellsR_one l)).mono ?_
  rintro e w2 ⟨rfl, G3, v2, ha, hp⟩
  have HA3 := Lib.hid (HA2.out.trans (ha.mono (fun _ h => .inr h)))
  have HU3 := Lib.hid (HU2.out.adv ha (by omega))
  have HR3 := Lib.hid hp
  have HY3 := Lib.hid (HY0.out.adv HA3.out (fun _ _ => by omega))
  clear ha hp
  go_wp2_with fail
  go_loopw [27] (fun i wr => ∃ n : Nat, n ≤ k ∧ i = .int .i64 n ∧ ∃ Gr, Adv (fun _ => False) w2 G3 wr Gr) (fun i _ => k - (intOf i).toNat)
  case atStart => exact ⟨0, by omega, rfl, G3, Adv.refl _ _ _⟩
  case round =>
    obtain ⟨n, hn, rfl, Gr, har⟩ := hrel
    by_cases hlt : n < k
    · obtain ⟨c, hc⟩ : ∃ c, l[n]? = some c := ⟨l[n]'(by rw [HLK.out]; exact hlt), by simp⟩
      obtain ⟨b, o, hya, hc1, hc2, hb⟩ := (HY0.out.adv (HA3.out.trans (har.mono (fun _ h => h.elim))) (fun _ _ => by omega)).atR n c hc
      have hg := HG.out c (List.mem_of_getElem? hc)
      have hg1 : decide (c.1 < 1) = false := by simp; omega
      have hg2 : decide (4 < c.1) = false := by simp; omega
      clear hc hg
      rw [hya]
      have HAR := Lib.hid har
      clear har
      go_wp2
      go_roundw
      case rel => exact ⟨n + 1, by omega, by go_num, _, HAR.out.alloc _ 0⟩
      case measure => simp [intOf]; omega
    · have hnk : n = k := by omega
      have HAR := Lib.hid har
      have HN := Lib.hid hnk
      clear har hnk
      go_wp2
      go_ret3
      refine ⟨w.heap.size, w.heap.size + 1, named w G Gr i j, v1, v2, rfl, ?_⟩
      have hA := HA3.out.trans (HAR.out.mono (fun _ h => h.elim))
      have hU := HU3.out.adv HAR.out id
      have hR := HR3.out.adv HAR.out id
      simp only [Nat.zero_add, List.nil_append] at hU hR
      exact ⟨hA.relabel (fun _ _ => by omega) (fun _ hb => named_old hb), hU.relabel (named_1 hA), hR.relabel (named_2 hA)⟩

theorem first_bad : ∀ (l : List (Int × Int)), (∃ c ∈ l, ¬ (1 ≤ c.1 ∧ c.1 ≤ 4)) → ∃ (n : Nat) (c : Int × Int), l[n]? = some c ∧ ¬ (1 ≤ c.1 ∧ c.1 ≤ 4) ∧ ∀ (j : Nat) (d : Int × Int), j < n → l[j]? = some d → 1 ≤ d.1 ∧ d.1 ≤ 4
  | [], h => by obtain ⟨c, h, _⟩ := h; simp at h
  | a :: l, h => by
    by_cases ha : 1 ≤ a.1 ∧ a.1 ≤ 4
    · obtain ⟨c, hc, hb⟩ := h
      have hcl : c ∈ l := by
        rcases List.mem_cons.1 hc with rfl | h
        · exact absurd ha hb
        · exact h
      obtain ⟨n, d, h1, h2, h3⟩ := first_bad l ⟨c, hcl, hb⟩
      refine ⟨n + 1, d, (List.getElem?_cons_succ).trans h1, h2, fun j e hj he => ?_⟩
      cases j with
      | zero => simp at he; subst he; exact ha
      | succ j => exact h3 j e (by omega) (by simpa using he)
    · exact ⟨0, a, rfl, ha, fun j d hj => by omega⟩

set_option maxHeartbeats 400000 in
theorem stacks_bad (G : Nat → Nat) (xa : Option Addr) (m c : Nat) (xs : List Value) (ya : Option Addr) (k c2 : Nat) (l : List (Int × Int)) (w : World) (hm : m ≤ 256) (hl : xs.length = m) (hx : Reads w xa xs) (hone : ∀ u ∈ xs, u.oneCell' = true)
    (hk : k ≤ 128) (hlk : l.length = k) (hy : Reads w ya (cellsR l)) (hbad : ∃ c ∈ l, ¬ (1 ≤ c.1 ∧ c.1 ≤ 4)) :
    Calls Tryd.prog 51 #[.slice xa m c, .slice ya k c2] w fun e w' => e = .returned (.tuple #[.pointer none, .pointer none, .int .i64 2]) ∧ ∃ G', Adv (fun _ => False) w G w' G' := by
  obtain ⟨n0, c0, hn0, hc0, hbef⟩ := first_bad l hbad
  have hn0k : n0 < k := by rw [← hlk]; exact (List.getElem?_eq_some_iff.1 hn0).1
  obtain ⟨G1, hA, hU, hR⟩ := two_new w
  have hx1 := hx.adv hA (fun _ _ => by omega)
  have HX := Lib.hid hx1
  have HY0 := Lib.hid hy
  have HL := Lib.hid hl
  have HLK := Lib.hid hlk
  have HA := Lib.hid hA
  have HU := Lib.hid hU
  have HR := Lib.hid hR
  have HN := Lib.hid hn0
  have HC := Lib.hid hc0
  have HB := Lib.hid hbef
  clear hl hA hU hR hx1 hx hy hlk hbad hn0 hc0 hbef
  go_enter Tryd.func51, Tryd.ntmps51
  go_wp2_with fail
  refine (pushU_ok 140 G1 1 w.heap.size (.slice none 0 0) 0 [] xa m c xs _ HU.out (by omega) HL.out HX.out hone).mono ?_
  rintro e w' ⟨rfl, G2, v1, ha, hp⟩
  have hR := HR.out.adv ha (by omega)
  have HA2 := Lib.hid (HA.out.trans (ha.mono (fun _ h => .inl h)))
  have HR2 := Lib.hid hR
  have HY2 := Lib.hid (HY0.out.adv HA2.out (fun _ _ => by omega))
  clear ha hp hR
  go_wp2_with fail
  refine (pushR_ok 144 G2 2 (w.heap.size + 1) (.slice none 0 0) 0 [] ya k c2 (cellsR l) _ HR2.out (by omega) (by rw [cellsR_length, HLK.out]) HY2.out (cellsR_one l)).mono ?_
  rintro e w2 ⟨rfl, G3, v2, ha, hp⟩
  have HA3 := Lib.hid (HA2.out.trans (ha.mono (fun _ h => .inr h)))
  clear ha hp
  go_wp2_with fail
  go_loopw [27] (fun i wr => ∃ n : Nat, n ≤ n0 ∧ i = .int .i64 n ∧ ∃ Gr, Adv (fun _ => False) w2 G3 wr Gr) (fun i _ => k - (intOf i).toNat)
  case atStart => exact ⟨0, by omega, rfl, G3, Adv.refl _ _ _⟩
  case round =>
    obtain ⟨n, hn, rfl, Gr, har⟩ := hrel
    have hlt : n < k := by omega
    obtain ⟨c, hc⟩ : ∃ c, l[n]? = some c := ⟨l[n]'(by rw [HLK.out]; exact hlt), by simp⟩
    obtain ⟨b, o, hya, hc1, hc2, hb⟩ := (HY0.out.adv (HA3.out.trans (har.mono (fun _ h => h.elim))) (fun _ _ => by omega)).atR n c hc
    rw [hya]
    have HAR := Lib.hid har
    have HCC := Lib.hid hc
    clear har hc
    by_cases hnn : n < n0
    · have hg := HB.out n c hnn HCC.out
      have hg1 : decide (c.1 < 1) = false := by simp; omega
      have hg2 : decide (4 < c.1) = false := by simp; omega
      clear hg
      go_wp2
      go_roundw
      case rel => exact ⟨n + 1, by omega, by go_num, _, HAR.out.alloc _ 0⟩
      case measure => simp [intOf]; omega
    · have hcc : c = c0 := by
        have h1 := HCC.out
        have h2 := HN.out
        rw [show n = n0 from by omega, h2] at h1
        simpa using h1.symm
      have hbb := HC.out
      rw [← hcc] at hbb
      clear hcc hn hnn
      by_cases hg1 : c.1 < 1
      · have hg1' : decide (c.1 < 1) = true := by simpa using hg1
        clear hbb
        go_wp2
        go_ret3
        exact ⟨rfl, named w G (own1 wr Gr 0) 0 0, (HA3.out.trans ((HAR.out.alloc _ 0).mono (fun _ h => h.elim))).relabel (fun _ _ => by omega) (fun _ hb => named_old hb)⟩
      · have hg1' : decide (c.1 < 1) = false := by simpa using hg1
        have hg2' : decide (4 < c.1) = true := by simp; omega
        clear hbb
        go_wp2
        go_ret3
        exact ⟨rfl, named w G (own1 wr Gr 0) 0 0, (HA3.out.trans ((HAR.out.alloc _ 0).mono (fun _ h => h.elim))).relabel (fun _ _ => by omega) (fun _ hb => named_old hb)⟩
end Go.Proofs.YtdnalhjdmlkbmaaDoor
namespace Go.Proofs.YtdnalhjdmlkbmaaDoor
open Go.RowKit

def cellsU (l : List Int) : List Value := l.map (.int .u16)
theorem cellsU_length (l : List Int) : (cellsU l).length = l.length := List.length_map _
theorem cellsU_append (l m : List Int) : cellsU (l ++ m) = cellsU l ++ cellsU m := List.map_append
theorem cellsU_one (l : List Int) : ∀ u ∈ cellsU l, u.oneCell' = true := by
  intro u hu
  simp only [cellsU, List.mem_map] at hu
  obtain ⟨x, _, rfl⟩ := hu; rfl
theorem cellsU_at (l : List Int) (k : Nat) (x : Int) (h : l[k]? = some x) : (cellsU l)[k]? = some (.int .u16 x) := by simp [cellsU, h]
theorem Reads.atU {w : World} {a : Option Addr} {l : List Int} (h : Reads w a (cellsU l)) (k : Nat) (x : Int) (hk : l[k]? = .some x) : ∃ b o, a = .some ⟨b, o, none⟩ ∧ w.cell? ⟨b, o + k, none⟩ = .some (.int .u16 x) ∧ b < w.heap.size := by
  have h1 := cellsU_at l k x hk
  obtain ⟨b, o, rfl, h, hb⟩ := h.some (by intro e; rw [e] at h1; simp at h1)
  exact ⟨b, o, rfl, h _ _ h1, hb⟩

theorem Reads.takeU {w : World} {a : Option Addr} {l : List Int} (h : Reads w a (cellsU l)) (n : Nat) : Reads w a (cellsU (l.take n)) := by
  by_cases he : cellsU (l.take n) = []
  · exact .inl he
  · obtain ⟨b, o, rfl, hr, _⟩ := h.some (fun e => he (by simp only [cellsU, List.map_eq_nil_iff] at e ⊢; rw [e]; simp))
    refine .inr ⟨b, o, rfl, fun j u hu => hr j u ?_⟩
    simp only [cellsU, List.map_take] at hu ⊢
    rw [List.getElem?_take] at hu
    split at hu
    · exact hu
    · cases hu
theorem needF_nat (n : Int) (p q : Int) : needF n p q = needF n p.toNat q.toNat := by
  unfold needF
  rw [show max ((p.toNat : Int)) 0 = max p 0 from by omega, show max ((q.toNat : Int)) 0 = max q 0 from by omega]
theorem madeU (n : Nat) : madeCells (Value.int .u16 0).cells n = (cellsU (List.replicate n 0)).toArray := by
  apply Array.ext
  · simp [madeCells, cellsU]
  · intro i h1 h2
    simp [madeCells, cellsU, Value.cells, Nat.mod_one]
theorem run_makeU (w : World) (n : Nat) (hn : n ≤ 100000000000000) : (Instr.makeSlice 42 (.int .i64 n) (.int .i64 n)).run Tryd.prog w = .ok (.slice (some ⟨w.heap.size, 0, none⟩) n n) (w.alloc (.cells (cellsU (List.replicate n 0)).toArray 41)) := by
  obtain ⟨i0, hi, hz0, hz1, hz2⟩ := info_parts Tryd.info41
  have h := run_make (P := Tryd.prog) w 42 41 i0 (.int .u16 0) Tryd.underlying42 hi hz0 .i64 .i64 n n (by omega) (by omega) (by rw [hz2]; omega) (by omega)
  rwa [hz1, Int.toNat_natCast, Nat.mul_one, madeU] at h
/-- A data stack that holds these numbers; a return stack that holds these cells. -/
def PU (w : World) (G : Nat → Nat) (i D : Nat) (l : List Int) : Prop := ∃ v, Pile 41 140 1 w G i D v l.length (cellsU l)
def PR (w : World) (G : Nat → Nat) (i D : Nat) (l : List (Int × Int)) : Prop := ∃ v, Pile 59 144 2 w G i D v l.length (cellsR l)
theorem PU.adv {w w' : World} {G G' : Nat → Nat} {i D : Nat} {l : List Int} {S : Nat → Prop} (h : PU w G i D l) (ha : Adv S w G w' G') (hs : ¬ S i) : PU w' G' i D l := h.imp fun _ h => h.adv ha hs
theorem PR.adv {w w' : World} {G G' : Nat → Nat} {i D : Nat} {l : List (Int × Int)} {S : Nat → Prop} (h : PR w G i D l) (ha : Adv S w G w' G') (hs : ¬ S i) : PR w' G' i D l := h.imp fun _ h => h.adv ha hs
theorem PU.drewN {w : World} {G : Nat → Nat} {i D : Nat} {l : List Int} (h : PU w G i D l) (d : Nat) : PU (w.drewN d) G i D l := h.imp fun _ h => h.drewN d
theorem PR.drewN {w : World} {G : Nat → Nat} {i D : Nat} {l : List (Int × Int)} (h : PR w G i D l) (d : Nat) : PR (w.drewN d) G i D l := h.imp fun _ h => h.drewN d
theorem PU.drew {w : World} {G : Nat → Nat} {i D : Nat} {l : List Int} (h : PU w G i D l) : PU w.drew G i D l := h.drewN 1
theorem PR.drew {w : World} {G : Nat → Nat} {i D : Nat} {l : List (Int × Int)} (h : PR w G i D l) : PR w.drew G i D l := h.drewN 1
theorem PU.alloc {w : World} {G : Nat → Nat} {i D : Nat} {l : List Int} (h : PU w G i D l) (o : Obj) (k : Nat) : PU (w.alloc o) (own1 w G k) i D l := h.imp fun _ h => h.alloc o k
theorem PR.alloc {w : World} {G : Nat → Nat} {i D : Nat} {l : List (Int × Int)} (h : PR w G i D l) (o : Obj) (k : Nat) : PR (w.alloc o) (own1 w G k) i D l := h.imp fun _ h => h.alloc o k
theorem PU.lt {w : World} {G : Nat → Nat} {i D : Nat} {l : List Int} (h : PU w G i D l) : D < w.heap.size := h.elim fun _ h => h.lt
theorem PR.lt {w : World} {G : Nat → Nat} {i D : Nat} {l : List (Int × Int)} (h : PR w G i D l) : D < w.heap.size := h.elim fun _ h => h.lt

theorem lenPU (G : Nat → Nat) (i D : Nat) (l : List Int) (w : World) (hp : PU w G i D l) : Calls Tryd.prog 23 #[.pointer (some ⟨D, 0, none⟩)] w fun e w' => e = .returned (.int .i64 l.length) ∧ w = w' := by
  obtain ⟨v, h⟩ := hp
  obtain ⟨a, c, rfl⟩ := h.slice
  exact lenU_any D a _ c w h.cell
theorem needPU (G : Nat → Nat) (i D : Nat) (l : List Int) (p q : Int) (w : World) (hp : PU w G i D l) (hn : l.length ≤ 100000) (h1 : p ≤ 9223372036854775807) (h2 : q ≤ 9223372036854775807) :
    Calls Tryd.prog 55 #[.pointer (some ⟨D, 0, none⟩), .int .i64 p, .int .i64 q] w fun e w' => e = .returned (.int .i64 (needF l.length p q)) ∧ w = w' := by
  obtain ⟨v, h⟩ := hp
  obtain ⟨a, c, rfl⟩ := h.slice
  exact needU_any D a _ c p q w h.cell hn h1 h2
theorem popPU (G : Nat → Nat) (i D : Nat) (l : List Int) (x : Int) (w : World) (hp : PU w G i D (l ++ [x])) :
    Calls Tryd.prog 24 #[.pointer (some ⟨D, 0, none⟩)] w fun e w' => e = .returned (.int .u16 x) ∧ Adv (· = i) w G w' G ∧ PU w' G i D l := by
  obtain ⟨v, h⟩ := hp
  obtain ⟨a, c, rfl⟩ := h.slice
  rw [List.length_append, cellsU_append] at h
  exact (popU_some 140 G i D a l.length c (cellsU l) x w h).mono fun e w' h => ⟨h.1, h.2.1, _, h.2.2⟩
theorem popPU_nil (G : Nat → Nat) (i D : Nat) (w : World) (hp : PU w G i D []) : Calls Tryd.prog 24 #[.pointer (some ⟨D, 0, none⟩)] w fun e w' => e = .returned (.int .u16 0) ∧ w = w' := by
  obtain ⟨v, h⟩ := hp
  obtain ⟨a, c, rfl⟩ := h.slice
  exact popU_none D a c w h.cell
theorem pushPU (G : Nat → Nat) (i D : Nat) (l m : List Int) (xa : Option Addr) (n c : Nat) (w : World) (hp : PU w G i D l) (hn : m.length = n) (hroom : l.length + n ≤ 256) (hr : Reads w xa (cellsU m)) :
    Calls Tryd.prog 30 #[.pointer (some ⟨D, 0, none⟩), .slice xa n c] w fun e w' => e = .returned (.int .i64 0) ∧ ∃ G', Adv (· = i) w G w' G' ∧ PU w' G' i D (l ++ m) := by
  obtain ⟨v, h⟩ := hp
  refine (pushU_ok 140 G i D v l.length (cellsU l) xa n c (cellsU m) w h hroom (by rw [cellsU_length, hn]) hr (cellsU_one m)).mono fun e w' h => ?_
  obtain ⟨h1, G', v', h2, h3⟩ := h
  exact ⟨h1, G', h2, v', by rw [List.length_append, cellsU_append, hn]; exact h3⟩
theorem pushPU_no (G : Nat → Nat) (i D : Nat) (l : List Int) (xa : Option Addr) (n c : Nat) (w : World) (hp : PU w G i D l) (hl : l.length ≤ 256) (hn : n ≤ 9223372036854775807) (hfull : 256 < l.length + n) :
    Calls Tryd.prog 30 #[.pointer (some ⟨D, 0, none⟩), .slice xa n c] w fun e w' => e = .returned (.int .i64 2) ∧ w = w' := by
  obtain ⟨v, h⟩ := hp
  exact pushU_no 140 G i D v l.length (cellsU l) xa n c w h hl hn hfull
/-- Cells: of no cells nil; else new memory. -/
theorem cellsPU_nil (G : Nat → Nat) (i D : Nat) (w : World) (hp : PU w G i D []) : Calls Tryd.prog 26 #[.pointer (some ⟨D, 0, none⟩)] w fun e w' => e = .returned (.slice none 0 0) ∧ w = w' := by
  obtain ⟨v, h⟩ := hp
  obtain ⟨a, c, rfl⟩ := h.slice
  exact cellsU_none D a c w h.cell
theorem cellsPU (G : Nat → Nat) (i D : Nat) (l : List Int) (w : World) (hp : PU w G i D l) (h0 : l ≠ []) (h1 : l.length ≤ 1000) :
    Calls Tryd.prog 26 #[.pointer (some ⟨D, 0, none⟩)] w fun e w' => e = .returned (.slice (some ⟨w.heap.size, 0, none⟩) l.length l.length) ∧ w' = w.alloc (.cells (cellsU l).toArray 41) := by
  obtain ⟨v, h⟩ := hp
  obtain ⟨a, c, rfl⟩ := h.slice
  obtain ⟨b, o, rfl, hr, hb⟩ := h.reads.1.some (by intro e; exact h0 (by simpa [cellsU] using e))
  exact cellsU_some D _ l.length c (cellsU l) w (List.length_pos_iff.2 h0) h1 (cellsU_length l) (cellsU_one l) h.cell (Reads.add hr) hb

theorem lenPR (G : Nat → Nat) (i D : Nat) (l : List (Int × Int)) (w : World) (hp : PR w G i D l) : Calls Tryd.prog 28 #[.pointer (some ⟨D, 0, none⟩)] w fun e w' => e = .returned (.int .i64 l.length) ∧ w = w' := by
  obtain ⟨v, h⟩ := hp
  obtain ⟨a, c, rfl⟩ := h.slice
  exact lenR_any D a _ c w h.cell
theorem atPR (G : Nat → Nat) (i D : Nat) (l : List (Int × Int)) (n kind : Int) (w : World) (hp : PR w G i D l) (hm : l.length ≤ 100000) :
    Calls Tryd.prog 80 #[.pointer (some ⟨D, 0, none⟩), .int .i64 n, .int .i64 kind] w fun e w' => e = .returned (.tuple #[.int .u16 (atV l n kind), .int .i64 (atE l n kind)]) ∧ ∃ d, w' = w.drewN d := by
  obtain ⟨v, h⟩ := hp
  obtain ⟨a, c, rfl⟩ := h.slice
  exact atR_any 144 G i D a l.length c l n kind w h hm
theorem popPR_not (G : Nat → Nat) (i D : Nat) (l : List (Int × Int)) (kind : Int) (w : World) (hp : PR w G i D l) (hm : l.length ≤ 100000) (hne : (atE l 0 kind == 0) = false) :
    Calls Tryd.prog 84 #[.pointer (some ⟨D, 0, none⟩), .int .i64 kind] w fun e w' => e = .returned (.tuple #[.int .u16 (atV l 0 kind), .int .i64 (atE l 0 kind)]) ∧ ∃ d, w' = w.drewN d := by
  obtain ⟨v, h⟩ := hp
  obtain ⟨a, c, rfl⟩ := h.slice
  exact popR_not 144 G i D a l.length c l kind w h hm hne
theorem popPR (G : Nat → Nat) (i D : Nat) (l : List (Int × Int)) (c : Int × Int) (w : World) (hp : PR w G i D (l ++ [c])) (hm : l.length < 100000) :
    Calls Tryd.prog 84 #[.pointer (some ⟨D, 0, none⟩), .int .i64 c.1] w fun e w' => e = .returned (.tuple #[.int .u16 c.2, .int .i64 0]) ∧ ∃ G', Adv (· = i) w G w' G' ∧ PR w' G' i D l := by
  obtain ⟨v, h⟩ := hp
  obtain ⟨a, cap, rfl⟩ := h.slice
  rw [List.length_append] at h
  refine (popR_is 144 G i D a l.length cap l c w rfl h hm).mono fun e w' h => ?_
  obtain ⟨h1, G', h2, h3⟩ := h
  exact ⟨h1, G', h2, _, h3⟩
theorem setPR_nil (G : Nat → Nat) (i D : Nat) (x : Int) (w : World) (hp : PR w G i D []) : Calls Tryd.prog 94 #[.pointer (some ⟨D, 0, none⟩), .int .u16 x] w fun e w' => e = .returned (.tuple #[]) ∧ w = w' := by
  obtain ⟨v, h⟩ := hp
  obtain ⟨a, c, rfl⟩ := h.slice
  exact setR_none D a c x w h.cell
theorem setPR (G : Nat → Nat) (i D : Nat) (l : List (Int × Int)) (c : Int × Int) (x : Int) (w : World) (hp : PR w G i D (l ++ [c])) (hm : l.length < 100000) :
    Calls Tryd.prog 94 #[.pointer (some ⟨D, 0, none⟩), .int .u16 x] w fun e w' => e = .returned (.tuple #[]) ∧ Adv (· = i) w G w' G ∧ PR w' G i D (l ++ [(c.1, x)]) := by
  obtain ⟨v, h⟩ := hp
  obtain ⟨a, cap, rfl⟩ := h.slice
  rw [List.length_append] at h
  refine (setR_some 144 G i D a l.length cap l c x rfl hm w h).mono fun e w' h => ⟨h.1, h.2.1, _, by rw [List.length_append]; exact h.2.2⟩
theorem pushPR (G : Nat → Nat) (i D : Nat) (l m : List (Int × Int)) (xa : Option Addr) (n c : Nat) (w : World) (hp : PR w G i D l) (hn : m.length = n) (hroom : l.length + n ≤ 128) (hr : Reads w xa (cellsR m)) :
    Calls Tryd.prog 76 #[.pointer (some ⟨D, 0, none⟩), .slice xa n c] w fun e w' => e = .returned (.int .i64 0) ∧ ∃ G', Adv (· = i) w G w' G' ∧ PR w' G' i D (l ++ m) := by
  obtain ⟨v, h⟩ := hp
  refine (pushR_ok 144 G i D v l.length (cellsR l) xa n c (cellsR m) w h hroom (by rw [cellsR_length, hn]) hr (cellsR_one m)).mono fun e w' h => ?_
  obtain ⟨h1, G', v', h2, h3⟩ := h
  exact ⟨h1, G', h2, v', by rw [List.length_append, cellsR_append, hn]; exact h3⟩
theorem pushPR_no (G : Nat → Nat) (i D : Nat) (l : List (Int × Int)) (xa : Option Addr) (n c : Nat) (w : World) (hp : PR w G i D l) (hl : l.length ≤ 128) (hn : n ≤ 9223372036854775807) (hfull : 128 < l.length + n) :
    Calls Tryd.prog 76 #[.pointer (some ⟨D, 0, none⟩), .slice xa n c] w fun e w' => e = .returned (.int .i64 4) ∧ w = w' := by
  obtain ⟨v, h⟩ := hp
  exact pushR_no 144 G i D v l.length (cellsR l) xa n c w h hl hn hfull
theorem cellsPR_nil (G : Nat → Nat) (i D : Nat) (w : World) (hp : PR w G i D []) : Calls Tryd.prog 22 #[.pointer (some ⟨D, 0, none⟩)] w fun e w' => e = .returned (.slice none 0 0) ∧ w = w' := by
  obtain ⟨v, h⟩ := hp
  obtain ⟨a, c, rfl⟩ := h.slice
  exact cellsOR_none D a c w h.cell
theorem cellsPR (G : Nat → Nat) (i D : Nat) (l : List (Int × Int)) (w : World) (hp : PR w G i D l) (h0 : l ≠ []) (h1 : l.length ≤ 1000) :
    Calls Tryd.prog 22 #[.pointer (some ⟨D, 0, none⟩)] w fun e w' => e = .returned (.slice (some ⟨w.heap.size, 0, none⟩) l.length l.length) ∧ w' = w.alloc (.cells (cellsR l).toArray 59) := by
  obtain ⟨v, h⟩ := hp
  obtain ⟨a, c, rfl⟩ := h.slice
  obtain ⟨b, o, rfl, hr, hb⟩ := h.reads.1.some (by intro e; have := congrArg List.length e; rw [cellsR_length] at this; exact h0 (List.eq_nil_of_length_eq_zero (by simp only [List.length_nil] at this; omega)))
  exact cellsOR_some D _ l.length c (cellsR l) w (List.length_pos_iff.2 h0) h1 (cellsR_length l) (cellsR_one l) h.cell (Reads.add hr) hb

/-- Stacks. -/
theorem stacksP (G : Nat → Nat) (i j : Nat) (xa : Option Addr) (m c : Nat) (xs : List Int) (ya : Option Addr) (k c2 : Nat) (l : List (Int × Int)) (w : World) (hl : xs.length = m) (hm : m ≤ 256) (hx : Reads w xa (cellsU xs))
    (hlk : l.length = k) (hk : k ≤ 128) (hy : Reads w ya (cellsR l)) (hgood : ∀ c ∈ l, 1 ≤ c.1 ∧ c.1 ≤ 4) :
    Calls Tryd.prog 51 #[.slice xa m c, .slice ya k c2] w fun e w' => ∃ D R G', e = .returned (.tuple #[.pointer (some ⟨D, 0, none⟩), .pointer (some ⟨R, 0, none⟩), .int .i64 0]) ∧ Adv (fun _ => False) w G w' G' ∧ PU w' G' i D xs ∧ PR w' G' j R l := by
  refine (stacks_ok G i j xa m c (cellsU xs) ya k c2 l w hm (by rw [cellsU_length, hl]) hx (cellsU_one xs) hk hlk hy hgood).mono ?_
  rintro e w' ⟨D, R, G', vd, vr, rfl, ha, hD, hR⟩
  exact ⟨D, R, G', rfl, ha, ⟨vd, by rw [hl]; exact hD⟩, vr, by rw [hlk]; exact hR⟩
theorem stacksP_no (G : Nat → Nat) (xa : Option Addr) (m c : Nat) (xs : List Int) (ya : Option Addr) (k c2 : Nat) (l : List (Int × Int)) (w : World) (hl : xs.length = m) (hm : m ≤ 9223372036854775807) (hx : Reads w xa (cellsU xs))
    (hlk : l.length = k) (hk : k ≤ 9223372036854775807) (hy : Reads w ya (cellsR l)) (hno : 256 < m ∨ 128 < k ∨ ∃ c ∈ l, ¬ (1 ≤ c.1 ∧ c.1 ≤ 4)) :
    Calls Tryd.prog 51 #[.slice xa m c, .slice ya k c2] w fun e w' => e = .returned (.tuple #[.pointer none, .pointer none, .int .i64 2]) ∧ ∃ G', Adv (fun _ => False) w G w' G' := by
  by_cases h1 : 256 < m
  · exact stacks_noU G xa m c _ w hm h1
  · by_cases h2 : 128 < k
    · exact stacks_noR G xa m c (cellsU xs) ya k c2 w (by omega) (by rw [cellsU_length, hl]) hx (cellsU_one xs) hk h2
    · rcases hno with h | h | h
      · exact absurd h h1
      · exact absurd h h2
      · exact stacks_bad G xa m c (cellsU xs) ya k c2 l w (by omega) (by rw [cellsU_length, hl]) hx (cellsU_one xs) (by omega) hlk hy h
end Go.Proofs.YtdnalhjdmlkbmaaDoor
namespace Go.Proofs.YtdnalhjdmlkbmaaDoor
open Go.RowKit

/-- A slice that owns its cells, which begin a block of i's (or it is nil). -/
structure Row (e size : Nat) (w : World) (G : Nat → Nat) (i : Nat) (v : Value) (n : Nat) (xs : List Value) : Prop where
  row : w.ownsRow 0 e size v n xs
  own : Value.ownedBy G i v
theorem Row.adv {e size : Nat} {w w' : World} {G G' : Nat → Nat} {i : Nat} {v : Value} {n : Nat} {xs : List Value} {S : Nat → Prop} (h : Row e size w G i v n xs) (ha : Adv S w G w' G') (hs : ¬ S i) : Row e size w' G' i v n xs := by
  have hb : ∀ b, v.ownBlock = some b → b < w.heap.size := fun b e => (h.row.lt b e).2
  exact ⟨ownsRow_of_block h.row fun b e => ha.keep b (hb b e) (by rw [h.own b e]; exact hs), fun b e => by rw [ha.own b (hb b e)]; exact h.own b e⟩
theorem Row.nil (w : World) (G : Nat → Nat) (e size i : Nat) : Row e size w G i (.slice none 0 0) 0 [] := ⟨World.ownsRow_nil _ _ _ _, fun b e => by cases e⟩
theorem Row.nlen {e size : Nat} {w : World} {G : Nat → Nat} {i : Nat} {v : Value} {n : Nat} {xs : List Value} (h : Row e size w G i v n xs) : xs.length = n * size := h.row.1
/-- A new row that is full. -/
theorem Row.new (w : World) (G : Nat → Nat) (e size i n : Nat) (xs : List Value) (hn : n ≤ maxLen) (hx : xs.length = n * size) : Row e size (w.alloc (.cells xs.toArray e)) (own1 w G i) i (.slice (some ⟨w.heap.size, 0, none⟩) n n) n xs :=
  ⟨⟨hx, .inr ⟨w.heap.size, n, xs.toArray, rfl, Nat.zero_le _, heap_alloc_new w _, Nat.le_refl _, hn, by simpa using hx, by simp [← hx]⟩⟩, fun b e => by cases e; exact own1_new _ _ _⟩
theorem Row.slice {e size : Nat} {w : World} {G : Nat → Nat} {i : Nat} {v : Value} {n : Nat} {xs : List Value} (h : Row e size w G i v n xs) : ∃ a c, v = .slice a n c ∧ c ≤ maxLen ∧ n ≤ c ∧ (0 < n → ∃ g, a = some ⟨g, 0, none⟩) := by
  rcases h.row.2 with ⟨rfl, rfl⟩ | ⟨g, cap, cur, rfl, _, _, h1, h2, _⟩
  · exact ⟨none, 0, rfl, Nat.zero_le _, Nat.le_refl _, fun h => by omega⟩
  · exact ⟨_, cap, rfl, h2, h1, fun _ => ⟨g, rfl⟩⟩
theorem Row.reads {e size : Nat} {w : World} {G : Nat → Nat} {i : Nat} {a : Option Addr} {n c : Nat} {xs : List Value} (h : Row e size w G i (.slice a n c) n xs) : Reads w a xs := by
  rcases h.row.2 with ⟨e, h0⟩ | ⟨g, cap, cur, e, _⟩
  · have hl := h.nlen
    rw [h0, Nat.zero_mul] at hl
    exact .inl (List.eq_nil_of_length_eq_zero hl)
  · cases e
    refine .inr ⟨g, 0, rfl, fun j u hu => ?_⟩
    have := h.row.cells (g := g) rfl j u hu
    rwa [Addr.add_lit] at this
theorem Row.at {e size : Nat} {w : World} {G : Nat → Nat} {i g : Nat} {n c : Nat} {xs : List Value} (h : Row e size w G i (.slice (some ⟨g, 0, none⟩) n c) n xs) (hn : 0 < n) : g < w.heap.size ∧ G g = i ∧ (∀ j, w.frozen? ⟨g, j, none⟩ = false) ∧ (∀ j u, xs[j]? = some u → w.cell? ⟨g, j, none⟩ = some u) := by
  rcases h.row.2 with ⟨e, h0⟩ | ⟨g', cap, cur, e, _, hg, _⟩
  · omega
  · cases e
    refine ⟨(h.row.lt g rfl).2, h.own g rfl, fun j => by simp [World.frozen?, hg], fun j u hu => ?_⟩
    have := h.row.cells (g := g) rfl j u hu
    rwa [Addr.add_lit, Nat.zero_add] at this
/-- One cell is written. -/
theorem Row.store {e size : Nat} {w : World} {G : Nat → Nat} {i g : Nat} {c n : Nat} {xs : List Value} (h : Row e size w G i (.slice (some ⟨g, 0, none⟩) n c) n xs) (j : Nat) (hj : j < xs.length) (u : Value) :
    Adv (· = i) w G (w.setCell ⟨g, j, none⟩ u) G ∧ Row e size (w.setCell ⟨g, j, none⟩ u) G i (.slice (some ⟨g, 0, none⟩) n c) n (xs.set j u) := by
  have hlen := h.nlen
  have hpos : 0 < n := by rcases Nat.eq_zero_or_pos n with h0 | h0
                          · rw [h0, Nat.zero_mul] at hlen; omega
                          · exact h0
  obtain ⟨g', cap', cur, e1, hbg, hg, hnc, hcm, hcs, htake⟩ := h.row.2.resolve_left (by rintro ⟨h1, h2⟩; omega)
  obtain ⟨rfl, _, rfl⟩ : g = g' ∧ n = n ∧ c = cap' := by simpa using e1
  refine ⟨(Adv.refl _ w G).setCell (p := ⟨g, j, none⟩) (h.own g rfl) _, ⟨⟨by simpa using hlen, .inr ⟨g, c, cur.setIfInBounds j u, rfl, hbg, ?_, hnc, hcm, by simpa using hcs, ?_⟩⟩, h.own⟩⟩
  · simp only [World.setCell, Array.getElem?_modify, hg]; simp
  · rw [← htake, Array.toList_setIfInBounds, List.take_set]
theorem Row.appended {e size : Nat} {w w1 : World} {G : Nat → Nat} {i : Nat} {v v' : Value} {n m : Nat} {xs ys : List Value} (h : Row e size w G i v n xs) (hown : w1.ownsRow 0 e size v' m ys)
    (hg : w.grownBy w1 v.ownBlock) (hv : v'.ownBlock = v.ownBlock ∨ v'.ownBlock = some w.heap.size) : Adv (· = i) w G w1 (newTo w G i) ∧ Row e size w1 (newTo w G i) i v' m ys := by
  refine ⟨Adv.ofGrown hg h.own, hown, fun b e => ?_⟩
  rcases hv with x | x
  · rw [x] at e; rw [newTo_old (h.row.lt b e).2]; exact h.own b e
  · rw [x] at e; simp at e; exact newTo_new (by omega)

theorem run_append_nothing {P : Program} (w : World) (t ty e : TypeId) (i : TypeInfo) (ht : P.underlying t = some (.slice e)) (hi : P.info? e = some i) (va : Option Addr) (n vc c : Nat) (h : n ≤ vc) :
    (Builtin.append_ #[t, t] ty #[.slice va n vc, .slice none 0 c]).run P w = .ok (.slice va n vc) w := by
  cases va <;> simp [Builtin.append_, run_underlying ht, sizeOf, typeInfo, hi, Builtin.lenOf, Builtin.firstCells, h, storeCells]

/-- append of whatever is read. -/
theorem wpList_append_reads {P : Program} {w : World} {ops : Array Oper} {rest : List Oper} {o : Oper} {a : Act} {Q : Exit → Act → World → Prop} (hgd : o.guard = none) (s x : Operand) (t : TypeId)
    (ho : o.op = .call { callee := .builtin .append, args := #[s, x], argTypes := #[t, t] })
    (e : TypeId) (ti : TypeInfo) (z : Value) (size bytes : Nat) (ht : P.underlying t = some (.slice e)) (hi : P.info? e = some ti) (hz : ti.zero = some z)
    (hsize : ti.size = size) (hby : ti.bytes = bytes) (hzs : z.cells.size = size) (hsz : 0 < size)
    (G : Nat → Nat) (i : Nat) (va : Option Addr) (n vc : Nat) (xs : List Value) (hs : a.eval s = .slice va n vc) (hrow : Row e size w G i (.slice va n vc) n xs)
    (xa : Option Addr) (m c : Nat) (news : List Value) (hx : a.eval x = .slice xa m c) (hl : news.length = m * size) (hnews : Reads w xa news) (h1 : ∀ u ∈ news, u.oneCell' = true)
    (h63 : n + m ≤ maxLen) (hbytes : (n + m) * bytes ≤ 140737488355328)
    (h : ∀ va' vc' w' G', Row e size w' G' i (.slice va' (n + m) vc') (n + m) (xs ++ news) → Adv (· = i) w G w' G' → wpList P ops Q rest (a.put o.dst (.slice va' (n + m) vc')) w') :
    wpList P ops Q (o :: rest) a w := by
  by_cases hm : m = 0 ∧ xa = none
  · obtain ⟨rfl, rfl⟩ := hm
    obtain rfl : news = [] := List.eq_nil_of_length_eq_zero (by simpa using hl)
    refine wpList_plain hgd fun K hK => ?_
    have hnc : n ≤ vc := by
      obtain ⟨a', c', e1, _, h2, _⟩ := hrow.slice
      cases e1; exact h2
    have hr := run_append_nothing (P := P) w t o.type e ti ht hi va n vc c hnc
    unfold Oper.wp execOp
    simp only [ho, resolve, invoke, builtin, Sem.run_bind, Sem.run_pure, Result.andThen_ok, List.map_toArray, List.map_cons, List.map_nil, hs, hx, hr]
    refine hK _ _ ?_
    have h2 := h va vc w G (by simpa using hrow) (Adv.refl _ _ _)
    simpa using h2
  · obtain ⟨ad, rfl, hn2⟩ : ∃ ad, xa = some ad ∧ ∀ j u, news[j]? = some u → w.cell? (ad.add j) = some u := by
      rcases hnews with rfl | ⟨b, o, rfl, hr⟩
      · cases xa with
        | none =>
          exfalso
          apply hm
          refine ⟨?_, rfl⟩
          rcases Nat.eq_zero_or_pos m with h | h
          · exact h
          · exfalso
            have : 0 < m * size := Nat.mul_pos h hsz
            simp at hl; omega
        | some ad => exact ⟨ad, rfl, fun j u hu => by simp at hu⟩
      · exact ⟨_, rfl, Reads.add hr⟩
    refine wpList_append_own2 hgd s x t ho e ti z size bytes ht hi hz hsize hby hzs hsz va n vc xs hs hrow.row ad m c news hx hl hn2 h1 h63 hbytes fun va' vc' w' h2 h3 h4 => ?_
    obtain ⟨h5, h6⟩ := hrow.appended h2 h3 h4
    exact h va' vc' w' _ h6 h5
#print axioms wpList_append_reads
end Go.Proofs.YtdnalhjdmlkbmaaDoor
namespace Go.Proofs.YtdnalhjdmlkbmaaDoor
open Go.RowKit
set_option linter.unusedVariables false

/-- Block K is a desk over these three. -/
def Desk (w : World) (G : Nat → Nat) (K D R : Nat) (M : Option Addr) : Prop :=
  w.heap[K]? = some (.cells #[.pointer (some ⟨D, 0, none⟩), .pointer (some ⟨R, 0, none⟩), .pointer M] 123 (0, 0)) ∧ G K = 0
theorem Desk.adv {S : Nat → Prop} {w w' : World} {G G' : Nat → Nat} {K D R : Nat} {M : Option Addr} (h : Desk w G K D R M) (ha : Adv S w G w' G') (hs : ¬ S 0) : Desk w' G' K D R M := by
  have hl : K < w.heap.size := (Array.getElem?_eq_some_iff.1 h.1).1
  exact ⟨(ha.keep K hl (by rw [h.2]; exact hs)).trans h.1, (ha.own K hl).trans h.2⟩
theorem Desk.lt {w : World} {G : Nat → Nat} {K D R : Nat} {M : Option Addr} (h : Desk w G K D R M) : K < w.heap.size := (Array.getElem?_eq_some_iff.1 h.1).1
theorem Desk.setCell {w : World} {G : Nat → Nat} {K D R : Nat} {M : Option Addr} (h : Desk w G K D R M) {p : Addr} (hp : p.block ≠ K) (u : Value) : Desk (w.setCell p u) G K D R M :=
  ⟨(Below.heap_setCell _ _ _ _ (fun e => hp e.symm)).trans h.1, h.2⟩
theorem Desk.d {w : World} {G : Nat → Nat} {K D R : Nat} {M : Option Addr} (h : Desk w G K D R M) : w.cell? ⟨K, 0, none⟩ = some (.pointer (some ⟨D, 0, none⟩)) := block_cell h.1 0 _ rfl
theorem Desk.r {w : World} {G : Nat → Nat} {K D R : Nat} {M : Option Addr} (h : Desk w G K D R M) : w.cell? ⟨K, 1, none⟩ = some (.pointer (some ⟨R, 0, none⟩)) := block_cell h.1 1 _ rfl
theorem Desk.m {w : World} {G : Nat → Nat} {K D R : Nat} {M : Option Addr} (h : Desk w G K D R M) : w.cell? ⟨K, 2, none⟩ = some (.pointer M) := block_cell h.1 2 _ rfl

/-- The row of taken: what is still to come is 0. -/
theorem taken_set (t : List Int) (m : Nat) (x : Int) (hx : t[m]? = some x) : (cellsU (List.replicate (m + 1) 0 ++ t.drop (m + 1))).set m (.int .u16 x) = cellsU (List.replicate m 0 ++ t.drop m) := by
  have hlt : m < t.length := (List.getElem?_eq_some_iff.1 hx).1
  have hd : t.drop m = x :: t.drop (m + 1) := by
    rw [List.drop_eq_getElem_cons hlt]
    congr 1
    have := (List.getElem?_eq_some_iff.1 hx).2
    exact this
  rw [hd]
  apply List.ext_getElem?
  intro j
  simp only [cellsU, List.map_append, List.map_replicate, List.map_cons, List.getElem?_set, List.length_append, List.length_replicate, List.length_map, List.length_drop]
  rcases Nat.lt_trichotomy j m with h | h | h
  · rw [if_neg (by omega), List.getElem?_append_left (by simp; omega), List.getElem?_append_left (by simp; omega), List.getElem?_replicate, List.getElem?_replicate, if_pos (by omega), if_pos h]
  · subst h
    rw [if_pos rfl, if_pos (by omega), List.getElem?_append_right (by simp)]
    simp
  · rw [if_neg (by omega), List.getElem?_append_right (by simp; omega), List.getElem?_append_right (by simp; omega)]
    simp only [List.length_replicate]
    rw [show j - m = (j - (m + 1)) + 1 from by omega, List.getElem?_cons_succ]

set_option maxRecDepth 100000 in
set_option maxHeartbeats 1000000 in
theorem taken_any (G : Nat → Nat) (i D K R : Nat) (M : Option Addr) (base t : List Int) (n : Nat) (hn : t.length = n) (h0 : 0 < n) (h4 : n ≤ 100) (hi : i ≠ 0) (w : World) (hp : PU w G i D (base ++ t)) (hk : Desk w G K D R M) :
    Calls Tryd.prog 105 #[.pointer (some ⟨K, 0, none⟩), .int .i64 n] w fun e w' =>
      ∃ b G', e = .returned (.slice (some ⟨b, 0, none⟩) n n) ∧ Adv (· = i) w G w' G' ∧ PU w' G' i D base ∧ Row 41 1 w' G' 0 (.slice (some ⟨b, 0, none⟩) n n) n (cellsU t) := by
  have hmk := run_makeU w n (by omega)
  have hKl := hk.lt
  have HN := Lib.hid hn
  have HA0 := Lib.hid ((Adv.refl (· = i) w G).alloc (.cells (cellsU (List.replicate n 0)).toArray 41) 0)
  have hAf := (Adv.refl (fun _ => False) w G).alloc (.cells (cellsU (List.replicate n 0)).toArray 41) 0
  have HP := Lib.hid (hp.adv hAf id)
  have HK := Lib.hid (hk.adv hAf id)
  have HR := Lib.hid (Row.new w G 41 1 0 n (cellsU (List.replicate n 0)) (by unfold maxLen; omega) (by simp [cellsU]))
  clear hn hp hk hAf
  go_enter Tryd.func105, Tryd.ntmps105
  go_wp2_with fail
  go_loopw [11] (fun v wr => ∃ j : Nat, j ≤ n ∧ v = .int .i64 j ∧ ∃ Gr, Adv (· = i) w G wr Gr ∧ PU wr Gr i D (base ++ t.take (n - j)) ∧ Desk wr Gr K D R M ∧ Row 41 1 wr Gr 0 (.slice (some ⟨w.heap.size, 0, none⟩) n n) n (cellsU (List.replicate (n - j) 0 ++ t.drop (n - j)))) (fun v _ => n - (intOf v).toNat)
  case atStart => exact ⟨0, Nat.zero_le _, rfl, _, HA0.out, by rw [List.take_of_length_le (by rw [HN.out]; omega)]; exact HP.out, HK.out, by rw [List.drop_of_length_le (by rw [HN.out]; omega), List.append_nil]; exact HR.out⟩
  case round =>
    obtain ⟨j, hj, rfl, Gr, h1, h2, h3, h4⟩ := hrel
    by_cases hlt : j < n
    · obtain ⟨x, hx⟩ : ∃ x, t[n - 1 - j]? = some x := ⟨t[n - 1 - j]'(by rw [HN.out]; omega), by simp⟩
      have htk : base ++ t.take (n - j) = (base ++ t.take (n - 1 - j)) ++ [x] := by
        rw [List.append_assoc]; congr 1
        rw [show n - j = n - 1 - j + 1 from by omega, List.take_add_one, hx]; rfl
      rw [htk] at h2
      have hset := taken_set t (n - 1 - j) x hx
      rw [show n - 1 - j + 1 = n - j from by omega] at hset
      have hD := h3.d
      have HX := Lib.hid hset
      have H1 := Lib.hid h1
      have H2 := Lib.hid h2
      have H3 := Lib.hid h3
      have H4 := Lib.hid h4
      clear hx htk hset h1 h2 h3 h4
      go_wp2_with fail
      refine (popPU Gr i D (base ++ t.take (n - 1 - j)) x _ H2.out).mono ?_
      rintro e w1 ⟨rfl, ha, hp1⟩
      have hR1 := H4.out.adv ha (by omega)
      obtain ⟨hg, hG, hf, hc⟩ := hR1.at h0
      have hlen : n - 1 - j < (cellsU (List.replicate (n - j) 0 ++ t.drop (n - j))).length := by rw [hR1.nlen]; omega
      have hc1 := hc (n - 1 - j) _ (List.getElem?_eq_getElem hlen)
      have hf1 := hf (n - 1 - j)
      have HS := Lib.hid (hR1.store (n - 1 - j) hlen (.int .u16 x))
      have HP1 := Lib.hid hp1
      have HA1 := Lib.hid (H1.out.trans ha)
      have HK1 := Lib.hid (H3.out.adv ha (by omega))
      clear hc hf ha hp1 hR1 hG
      go_wp2
      go_roundw
      case rel =>
        refine ⟨j + 1, by omega, by go_num, Gr, HA1.out.setNew (Nat.le_refl _) _, ?_, HK1.out.setCell (fun e => by simp at e; omega) _, ?_⟩
        · rw [show n - (j + 1) = n - 1 - j from by omega]; exact HP1.out.adv HS.out.1 (by omega)
        · rw [show n - (j + 1) = n - 1 - j from by omega, ← HX.out]; exact HS.out.2
      case measure => simp [intOf]; omega
    · have hjn : j = n := by omega
      have HJ := Lib.hid hjn
      have HB := Lib.hid (And.intro h1 (And.intro h2 (And.intro h3 h4)))
      clear hjn h1 h2 h3 h4
      go_wp2
      go_ret
      obtain ⟨h1, h2, h3, h4⟩ := HB.out
      rw [HJ.out, Nat.sub_self, List.take_zero, List.append_nil] at h2
      rw [HJ.out, Nat.sub_self, List.drop_zero, List.replicate_zero, List.nil_append] at h4
      exact ⟨w.heap.size, Gr, rfl, h1, h2, h4⟩

/-- What a shuffle puts: the cells at these places. -/
def cellsI (ps : List Nat) : List Value := ps.map fun (p : Nat) => Value.int .i64 (p : Int)
def picks (t : List Int) (ps : List Nat) : List Int := ps.map fun p => t.getD p 0
set_option maxRecDepth 100000 in
set_option maxHeartbeats 1000000 in
theorem shuffle_any (G : Nat → Nat) (i D K R : Nat) (M : Option Addr) (base t : List Int) (n : Nat) (hn : t.length = n) (h0 : 0 < n) (h4 : n ≤ 100) (ps : List Nat) (hps : ∀ p ∈ ps, p < n) (hroom : base.length + ps.length ≤ 256) (hi : i ≠ 0)
    (B1 B2 : Nat) (la : Option Addr) (lc : Nat) (w : World) (hp : PU w G i D (base ++ t)) (hk : Desk w G K D R M)
    (hB1 : w.cell? ⟨B1, 0, none⟩ = some (.int .i64 n)) (_hG1 : G B1 = 0) (hB2 : w.cell? ⟨B2, 0, none⟩ = some (.slice la ps.length lc)) (hG2 : G B2 = 0)
    (hla : Reads w la (cellsI ps)) (hGl : ∀ ad, la = some ad → G ad.block = 0 ∧ ad.block < w.heap.size) :
    Calls Tryd.prog 104 #[.pointer (some ⟨K, 0, none⟩), .pointer (some ⟨B1, 0, none⟩), .pointer (some ⟨B2, 0, none⟩)] w fun e w' =>
      e = .returned (.tuple #[]) ∧ ∃ G', Adv (· = i) w G w' G' ∧ PU w' G' i D (base ++ picks t ps) := by
  have HP := Lib.hid hp
  have HK := Lib.hid hk
  have HN := Lib.hid hn
  have HLA := Lib.hid hla
  have HGL := Lib.hid hGl
  have HPS := Lib.hid hps
  clear hp hk hn hla hGl hps
  go_enter Tryd.func104, Tryd.ntmps104
  go_wp2_with fail
  refine (taken_any G i D K R M base t n HN.out h0 h4 hi _ HP.out HK.out).mono ?_
  rintro e w1 ⟨b, G1, rfl, ha, hp1, hr1⟩
  have hB2' := ha.cell_some (p := ⟨B2, 0, none⟩) hB2 (by rw [hG2]; omega)
  have HA := Lib.hid ha
  have HP1 := Lib.hid hp1
  have HR1 := Lib.hid hr1
  have HK1 := Lib.hid (HK.out.adv ha (by omega))
  have HL1 := Lib.hid (HLA.out.adv ha (fun ad e => by rw [(HGL.out ad e).1]; omega))
  clear ha hp1 hr1
  go_wp2_with fail
  go_loopw [12] (fun v wr => ∃ j : Nat, j ≤ ps.length ∧ v = .int .i64 j ∧ ∃ Gr, Adv (· = i) w1 G1 wr Gr ∧ PU wr Gr i D (base ++ picks t (ps.take j))) (fun v _ => ps.length - (intOf v).toNat)
  case atStart => exact ⟨0, Nat.zero_le _, rfl, G1, Adv.refl _ _ _, by simpa [picks] using HP1.out⟩
  case round =>
    obtain ⟨j, hj, rfl, Gr, h1, h2⟩ := hrel
    by_cases hlt : j < ps.length
    · obtain ⟨p, hpj⟩ : ∃ p, ps[j]? = some p := ⟨ps[j], by simp [hlt]⟩
      have hpn := HPS.out p (List.mem_of_getElem? hpj)
      have hcj : (cellsI ps)[j]? = some (.int .i64 p) := by simp [cellsI, hpj]
      obtain ⟨bl, ol, hla, hcl, hbl⟩ := (HL1.out.adv h1 (fun ad e => by
        have := HGL.out ad e
        rw [HA.out.own _ this.2, this.1]; omega)).some (by intro e; rw [e] at hcj; simp at hcj)
      have hcl1 := hcl j _ hcj
      have hrow := HR1.out.adv h1 (by omega)
      obtain ⟨hg, hG, hf, hc⟩ := hrow.at h0
      obtain ⟨x, hx⟩ : ∃ x, t[p]? = some x := ⟨t[p]'(by rw [HN.out]; exact hpn), by simp⟩
      have hcx := hc p _ (cellsU_at t p x hx)
      have hD := (HK1.out.adv h1 (by omega)).d
      have hKz := (HK1.out.adv h1 (by omega)).lt
      have hpk : picks t (ps.take (j + 1)) = picks t (ps.take j) ++ [x] := by
        rw [List.take_add_one, hpj]; simp [picks, hx]
      have HPK := Lib.hid hpk
      have H1 := Lib.hid h1
      have H2 := Lib.hid h2
      clear h1 h2 hpk hcl hc hf hcj hpj hx hG hrow
      rw [hla]
      go_wp2_with fail
      have HZ := Lib.hid (show Reads (wr.alloc (.cells #[.int .u16 x] 41)).drew (some ⟨wr.heap.size, 0, none⟩) (cellsU [x]) from Reads.new wr [.int .u16 x] 41)
      have HL := Lib.hid (show (base ++ picks t (ps.take j)).length + 1 ≤ 256 from by simp [picks]; omega)
      go_region_with (go_at_call 30; refine (pushPU (own1 wr Gr 0) i D (base ++ picks t (ps.take j)) [x] _ 1 1 _ (H2.out.alloc (.cells #[.int .u16 x] 41) 0).drew rfl HL.out HZ.out).mono ?_; rintro e w2 ⟨rfl, G2, ha2, hp2⟩)
      all_goals
        have HA2 := Lib.hid (H1.out.trans (((Adv.refl (· = i) wr Gr).alloc (.cells #[.int .u16 x] 41) 0).drew.trans ha2))
        clear ha2
        go_wp2
        go_roundw
        case rel => exact ⟨j + 1, by omega, by go_num, G2, HA2.out, by rw [HPK.out, ← List.append_assoc]; exact hp2⟩
        case measure => simp [intOf]; omega
    · have hjn : j = ps.length := by omega
      have HJ := Lib.hid hjn
      have HB := Lib.hid (And.intro h1 h2)
      clear hjn h1 h2
      go_wp2
      go_end0
      rw [HJ.out, List.take_length] at HB
      exact ⟨rfl, Gr, HA.out.trans HB.out.1, HB.out.2⟩
end Go.Proofs.YtdnalhjdmlkbmaaDoor
namespace Go.Proofs.YtdnalhjdmlkbmaaDoor
open Go.RowKit

def u8s (l : List Int) : List Value := l.map (.int .u8)
noncomputable abbrev bankZ : Array Value := Tryd.zeroCells158
noncomputable abbrev memZ : Array Value := Tryd.zeroCells135
set_option maxRecDepth 1000000 in
theorem bankZ_list : Tryd.zeroCells158.toList = u8s (List.replicate 16384 0) := by kernel_rfl
set_option maxRecDepth 1000000 in
theorem memZ_list : Tryd.zeroCells135.toList = [.map none] ++ u8s (List.replicate 19456 0) ++ [.int .u8 0, .int .u8 0, .int .u8 0, .int .u16 0, .int .u16 0, .int .i64 0, .slice none 0 0] := by kernel_rfl
end Go.Proofs.YtdnalhjdmlkbmaaDoor
namespace Go.Proofs.YtdnalhjdmlkbmaaDoor
open Go.RowKit

/-- Block B is a map with keys of kind q that holds these pairs, in the order in which they came. -/
def MapI (q : IntKind) (w : World) (B : Nat) (l : List (Int × Value)) : Prop :=
  ∃ es clk, w.heap[B]? = some (.map es clk) ∧ es.toList.map (fun e => (e.key, e.val)) = l.map (fun p => (Value.int q p.1, p.2)) ∧ MapKept.Stamped es clk
theorem MapI.lt {q : IntKind} {w : World} {B : Nat} {l : List (Int × Value)} (h : MapI q w B l) : B < w.heap.size := by
  obtain ⟨es, clk, h, _⟩ := h
  exact (Array.getElem?_eq_some_iff.1 h).1
theorem MapI.of_block {q : IntKind} {w w' : World} {B : Nat} {l : List (Int × Value)} (h : MapI q w B l) (hb : w'.heap[B]? = w.heap[B]?) : MapI q w' B l := by
  obtain ⟨es, clk, h1, h2⟩ := h
  exact ⟨es, clk, hb.trans h1, h2⟩
theorem MapI.made (q : IntKind) (w : World) : MapI q (w.alloc (.map #[] 0)) w.heap.size [] := ⟨#[], 0, heap_alloc_new w _, rfl, MapKept.stamped_empty 0⟩

/-- The value of a key; none. -/
def valI : List (Int × Value) → Int → Option Value
  | [], _ => none
  | p :: l, k => if p.1 = k then some p.2 else valI l k
theorem findNow_I (q : IntKind) (k : Int) : ∀ (es : List MapEntry) (l : List (Int × Value)) (i : Nat), es.map (fun e => (e.key, e.val)) = l.map (fun p => (Value.int q p.1, p.2)) →
    (valI l k = none → Instr.findNow (.int q) (.int q k) es i = some none) ∧ (∀ v, valI l k = some v → ∃ j, Instr.findNow (.int q) (.int q k) es i = some (some (j, v)))
  | [], [], i, _ => ⟨fun _ => rfl, fun v h => by cases h⟩
  | [], _ :: _, _, h => by simp at h
  | _ :: _, [], _, h => by simp at h
  | e :: es, p :: l, i, h => by
    simp only [List.map_cons, List.cons.injEq, Prod.mk.injEq] at h
    obtain ⟨⟨hk, hv⟩, ht⟩ := h
    obtain ⟨h1, h2⟩ := findNow_I q k es l (i + 1) ht
    unfold valI Instr.findNow
    rw [hk, ← hv]
    simp only [Instr.sameNow, if_true]
    by_cases he : p.1 = k
    · subst he
      simp
    · have hne : (k == p.1) = false := by simp; exact fun h => he h.symm
      rw [if_neg he, hne]
      exact ⟨h1, h2⟩
theorem valI_apart {k : Int} : ∀ {l : List (Int × Value)}, valI l k = none → ∀ p ∈ l, p.1 ≠ k
  | [], _, p, hp => by cases hp
  | a :: l, h, p, hp => by
    unfold valI at h
    by_cases e : a.1 = k
    · rw [if_pos e] at h; cases h
    · rw [if_neg e] at h
      rcases List.mem_cons.1 hp with rfl | hp
      · exact e
      · exact valI_apart h p hp
theorem keys_apart {q : IntKind} {k : Int} {es : List MapEntry} {l : List (Int × Value)} (hl : es.map (fun e => (e.key, e.val)) = l.map (fun p => (Value.int q p.1, p.2))) (hv : valI l k = none) : ∀ x ∈ es, x.key ≠ Value.int q k := by
  intro x hx e
  have h1 : (x.key, x.val) ∈ es.map (fun e => (e.key, e.val)) := List.mem_map.2 ⟨x, hx, rfl⟩
  rw [hl] at h1
  obtain ⟨p, hp, h2⟩ := List.mem_map.1 h1
  have h3 : Value.int q p.1 = x.key := congrArg (·.1) h2
  rw [e] at h3
  cases h3
  exact valI_apart hv p hp rfl
theorem checkKey_I {P : Program} {kt : TypeId} {q : IntKind} (hk : P.underlying kt = some (.int q)) (w : World) (x : Int) (em : Bool) : (Instr.checkKey em 10000 kt (.int q x)).run P w = .ok () w :=
  MapKept.run_checkKey hk (k := .int q x) (by simp [MapKept.IsKey]) em 9999
/-- v, ok := m[k]. -/
theorem lookup_I {P : Program} {t kt e : TypeId} {q : IntKind} (ht : P.underlying t = some (.map kt e)) (hk : P.underlying kt = some (.int q)) {w : World} {B : Nat} {l : List (Int × Value)} (h : MapI q w B l) (k : Int) (v : Value) (hv : valI l k = some v) :
    (Instr.lookup t (.map (some B)) (.int q k) true).run P w = .ok (.tuple #[v, .bool true]) w := by
  obtain ⟨es, clk, hb, hl, hst⟩ := h
  obtain ⟨j, hj⟩ := (findNow_I q k es.toList l 0 hl).2 v hv
  simp [Instr.lookup, run_underlying ht, MapKept.run_getObj_map hb, checkKey_I hk, MapKept.run_findKey hk hj, Result.andThen]
theorem lookup_I_no {P : Program} {t kt e : TypeId} {q : IntKind} (ht : P.underlying t = some (.map kt e)) (hk : P.underlying kt = some (.int q)) {w : World} {z : Value} (hz : (zeroValue e).run P w = .ok z w) {B : Nat} {l : List (Int × Value)} (h : MapI q w B l) (k : Int) (hv : valI l k = none) :
    (Instr.lookup t (.map (some B)) (.int q k) true).run P w = .ok (.tuple #[z, .bool false]) w := by
  obtain ⟨es, clk, hb, hl, hst⟩ := h
  have hj := (findNow_I q k es.toList l 0 hl).1 hv
  simp [Instr.lookup, run_underlying ht, MapKept.run_getObj_map hb, checkKey_I hk, MapKept.run_findKey hk hj, Result.andThen, hz]
/-- m[k] = v, at a new key. -/
theorem update_I {P : Program} {t kt e : TypeId} {q : IntKind} (ht : P.underlying t = some (.map kt e)) (hk : P.underlying kt = some (.int q)) {w : World} {B : Nat} {l : List (Int × Value)} (h : MapI q w B l) (k : Int) (v : Value) (hv : valI l k = none) :
    ∃ o, (Instr.mapUpdate t (.map (some B)) (.int q k) v).run P w = .ok () (w.putObj B o) ∧ MapI q (w.putObj B o) B (l ++ [(k, v)]) := by
  have hlt := h.lt
  obtain ⟨es, clk, hb, hl, hst⟩ := h
  have hj := (findNow_I q k es.toList l 0 hl).1 hv
  refine ⟨.map (es.push ⟨.int q k, v, clk⟩) (clk + 1), ?_, es.push ⟨.int q k, v, clk⟩, clk + 1, World.putObj_heap_same hlt, ?_, MapKept.stamped_push hst (keys_apart hl hv)⟩
  · simp [Instr.mapUpdate, run_underlying ht, MapKept.run_getObj_map hb, checkKey_I hk, MapKept.run_findKey hk hj, MapKept.run_setObj_map _ hb, Result.andThen, World.putObj]
  · simp [hl]
end Go.Proofs.YtdnalhjdmlkbmaaDoor
