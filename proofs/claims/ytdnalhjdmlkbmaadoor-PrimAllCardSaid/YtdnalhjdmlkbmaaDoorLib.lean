/- Words and laws of no program: who owns a block, what a call may have changed, a stack of cells behind a pointer. -/
import Derived.WalkKit
import Derived.WalkSpells
import Derived.WalkLawsBesides
import Derived.Lib.Hide
namespace Go.Proofs.YtdnalhjdmlkbmaaDoor
open Go.RowKit

/-- What is left of a code from a region on. -/
def codeTail (id : Nat) : Code → Option Code
  | .seq a b => match codeTail id a with
    | some c => some (.seq c b)
    | none => codeTail id b
  | .region i ops d => if i = id then some (.region i ops d) else none
  | _ => none

/-- What is left of a code behind a region. -/
def codeAfter (id : Nat) : Code → Option (Option Code)
  | .seq a b => match codeAfter id a with
    | some none => some (some b)
    | some (some c) => some (some (.seq c b))
    | none => codeAfter id b
  | .region i _ _ => if i = id then some none else none
  | _ => none

/-- What is read of a block that is known. -/
theorem block_cell {w : World} {b : Nat} {C : Array Value} {T : TypeId} (h : w.heap[b]? = some (.cells C T (0, 0))) (j : Nat) (v : Value) (hv : C[j]? = some v) : w.cell? ⟨b, j, none⟩ = some v := by
  simp [World.cell?, h, hv]
theorem block_free {w : World} {b : Nat} {C : Array Value} {T : TypeId} (h : w.heap[b]? = some (.cells C T (0, 0))) (j : Nat) : w.frozen? ⟨b, j, none⟩ = false := by
  simp [World.frozen?, h]
/-- A new block's number may be spelled otherwise. -/
theorem heap_at (w : World) (o : Obj) (b : Nat) (h : b = w.heap.size) : (w.alloc o).heap[b]? = some o := by subst h; exact heap_alloc_new w o
theorem heap_past (w : World) (o : Obj) (b : Nat) (h : b < w.heap.size) : (w.alloc o).heap[b]? = w.heap[b]? := Below.heap_alloc w o b h
/-- 'G b' tells who owns block b. 'Adv S w G w' G'': from w to w' only blocks whose owner is in S may have changed; old blocks keep their owner. -/
structure Adv (S : Nat → Prop) (w : World) (G : Nat → Nat) (w' : World) (G' : Nat → Nat) : Prop where
  os : w'.os = w.os
  tape : w'.tape = w.tape
  output : w'.output = w.output
  size : w.heap.size ≤ w'.heap.size
  own : ∀ b, b < w.heap.size → G' b = G b
  keep : ∀ b, b < w.heap.size → ¬ S (G b) → w'.heap[b]? = w.heap[b]?

theorem Adv.refl (S : Nat → Prop) (w : World) (G : Nat → Nat) : Adv S w G w G := ⟨rfl, rfl, rfl, Nat.le_refl _, fun _ _ => rfl, fun _ _ _ => rfl⟩
theorem Adv.trans {S : Nat → Prop} {a b c : World} {G H K : Nat → Nat} (h : Adv S a G b H) (k : Adv S b H c K) : Adv S a G c K :=
  ⟨k.os.trans h.os, k.tape.trans h.tape, k.output.trans h.output, Nat.le_trans h.size k.size, fun i hi => (k.own i (Nat.lt_of_lt_of_le hi h.size)).trans (h.own i hi),
    fun i hi hs => (k.keep i (Nat.lt_of_lt_of_le hi h.size) (by rw [h.own i hi]; exact hs)).trans (h.keep i hi hs)⟩
theorem Adv.mono {S T : Nat → Prop} {w w' : World} {G G' : Nat → Nat} (h : Adv S w G w' G') (hs : ∀ i, S i → T i) : Adv T w G w' G' :=
  ⟨h.os, h.tape, h.output, h.size, h.own, fun b hb ht => h.keep b hb (fun x => ht (hs _ x))⟩
theorem Adv.drew {S : Nat → Prop} {w w' : World} {G G' : Nat → Nat} (h : Adv S w G w' G') : Adv S w G w'.drew G' := ⟨h.os, h.tape, h.output, h.size, h.own, h.keep⟩
theorem Adv.drewN {S : Nat → Prop} {w w' : World} {G G' : Nat → Nat} (h : Adv S w G w' G') (n : Nat) : Adv S w G (w'.drewN n) G' := by
  induction n with
  | zero => exact h
  | succ n ih => exact ⟨h.os, h.tape, h.output, h.size, h.own, h.keep⟩
/-- The owners behind one new block, which is given to i. -/
def own1 (w : World) (G : Nat → Nat) (i : Nat) : Nat → Nat := fun b => if b = w.heap.size then i else G b
theorem own1_new (w : World) (G : Nat → Nat) (i : Nat) : own1 w G i w.heap.size = i := if_pos rfl
theorem own1_old {w : World} {G : Nat → Nat} {i b : Nat} (h : b < w.heap.size) : own1 w G i b = G b := if_neg (by omega)
/-- A new block; it may be given to whomever. -/
theorem Adv.alloc {S : Nat → Prop} {w w' : World} {G G' : Nat → Nat} (h : Adv S w G w' G') (o : Obj) (i : Nat) : Adv S w G (w'.alloc o) (own1 w' G' i) := by
  refine ⟨h.os, h.tape, h.output, by have := h.size; simp; omega, fun b hb => ?_, fun b hb hs => ?_⟩
  · have := h.size
    rw [own1_old (by omega)]; exact h.own b hb
  · rw [Below.heap_alloc _ _ _ (by have := h.size; omega)]; exact h.keep b hb hs
theorem Adv.setCell {S : Nat → Prop} {w w' : World} {G G' : Nat → Nat} (h : Adv S w G w' G') {p : Addr} (hp : S (G' p.block)) (u : Value) : Adv S w G (w'.setCell p u) G' := by
  refine ⟨h.os, h.tape, h.output, by have := h.size; simpa [World.setCell] using this, h.own, fun b hb hs => ?_⟩
  rw [Below.heap_setCell _ _ _ _ (by rintro rfl; exact hs (by rw [← h.own _ hb]; exact hp))]
  exact h.keep b hb hs
/-- A cell of a block that was made since. -/
theorem Adv.setNew {S : Nat → Prop} {w w' : World} {G G' : Nat → Nat} (h : Adv S w G w' G') {p : Addr} (hp : w.heap.size ≤ p.block) (u : Value) : Adv S w G (w'.setCell p u) G' := by
  refine ⟨h.os, h.tape, h.output, by have := h.size; simpa [World.setCell] using this, h.own, fun b hb hs => ?_⟩
  rw [Below.heap_setCell _ _ _ _ (by rintro rfl; omega)]
  exact h.keep b hb hs
theorem Adv.cell {S : Nat → Prop} {w w' : World} {G G' : Nat → Nat} (h : Adv S w G w' G') {p : Addr} (hp : p.block < w.heap.size) (hs : ¬ S (G p.block)) : w'.cell? p = w.cell? p :=
  World.cell?_of_block (h.keep p.block hp hs)
theorem Adv.cell_some {S : Nat → Prop} {w w' : World} {G G' : Nat → Nat} (h : Adv S w G w' G') {p : Addr} {v : Value} (hv : w.cell? p = some v) (hs : ¬ S (G p.block)) : w'.cell? p = some v :=
  (h.cell (World.block_lt_of_cell? w p hv) hs).trans hv
theorem Adv.below {S : Nat → Prop} {w w' : World} {G G' : Nat → Nat} (h : Adv S w G w' G') {B : Nat} (hB : B ≤ w.heap.size) (hG : ∀ b, b < B → ¬ S (G b)) : Below B w w' :=
  ⟨h.os, h.tape, h.output, h.size, fun k hk => h.keep k (Nat.lt_of_lt_of_le hk hB) (hG k hk)⟩

/-- What an owned row is, with its block's owner. -/
def Value.ownedBy (G : Nat → Nat) (i : Nat) (v : Value) : Prop := ∀ b, v.ownBlock = some b → G b = i

/-- A stack of cells behind a pointer: block D holds one cell, a slice; the slice owns its cells. -/
structure Pile (e T size : Nat) (w : World) (G : Nat → Nat) (i D : Nat) (v : Value) (n : Nat) (xs : List Value) : Prop where
  head : w.heap[D]? = some (.cells #[v] T (0, 0))
  hown : G D = i
  row : w.ownsRow 0 e size v n xs
  rown : Value.ownedBy G i v
  ne : v.ownBlock ≠ some D

theorem Pile.lt {e T size : Nat} {w : World} {G : Nat → Nat} {i D : Nat} {v : Value} {n : Nat} {xs : List Value} (h : Pile e T size w G i D v n xs) : D < w.heap.size := (Array.getElem?_eq_some_iff.1 h.head).1
theorem Pile.cell {e T size : Nat} {w : World} {G : Nat → Nat} {i D : Nat} {v : Value} {n : Nat} {xs : List Value} (h : Pile e T size w G i D v n xs) : w.cell? ⟨D, 0, none⟩ = some v := by
  have := h.head
  simp [World.cell?, this]
theorem Pile.frozen {e T size : Nat} {w : World} {G : Nat → Nat} {i D : Nat} {v : Value} {n : Nat} {xs : List Value} (h : Pile e T size w G i D v n xs) : w.frozen? ⟨D, 0, none⟩ = false := by
  have := h.head
  simp [World.frozen?, this]
theorem ownsRow_of_block {w w' : World} {base e size : Nat} {v : Value} {n : Nat} {xs : List Value} (h : w.ownsRow base e size v n xs) (hb : ∀ b, v.ownBlock = some b → w'.heap[b]? = w.heap[b]?) : w'.ownsRow base e size v n xs := by
  refine ⟨h.1, ?_⟩
  rcases h.2 with hn | ⟨g, cap, cur, rfl, hbg, hg, rest⟩
  · exact .inl hn
  · exact .inr ⟨g, cap, cur, rfl, hbg, by rw [hb g rfl]; exact hg, rest⟩
/-- What another has done leaves a pile as it was. -/
theorem Pile.adv {e T size : Nat} {w w' : World} {G G' : Nat → Nat} {i D : Nat} {v : Value} {n : Nat} {xs : List Value} {S : Nat → Prop} (h : Pile e T size w G i D v n xs) (ha : Adv S w G w' G') (hs : ¬ S i) : Pile e T size w' G' i D v n xs := by
  have hl := h.lt
  have hb : ∀ b, v.ownBlock = some b → b < w.heap.size := fun b e => (h.row.lt b e).2
  refine ⟨?_, ?_, ?_, ?_, h.ne⟩
  · rw [ha.keep D hl (by rw [h.hown]; exact hs)]; exact h.head
  · rw [ha.own D hl]; exact h.hown
  · exact ownsRow_of_block h.row fun b e => ha.keep b (hb b e) (by rw [h.rown b e]; exact hs)
  · intro b e; rw [ha.own b (hb b e)]; exact h.rown b e
theorem Pile.alloc {e T size : Nat} {w : World} {G : Nat → Nat} {i D : Nat} {v : Value} {n : Nat} {xs : List Value} (h : Pile e T size w G i D v n xs) (o : Obj) (k : Nat) : Pile e T size (w.alloc o) (own1 w G k) i D v n xs :=
  h.adv (S := fun _ => False) ((Adv.refl _ w G).alloc o k) id
theorem Pile.nlen {e T size : Nat} {w : World} {G : Nat → Nat} {i D : Nat} {v : Value} {n : Nat} {xs : List Value} (h : Pile e T size w G i D v n xs) : xs.length = n * size := h.row.1

/-- append's result lies where the row lay, or in the newest block. -/
theorem run_append_own2 {P : Program} (w : World) (t ty e : TypeId) (i : TypeInfo) (z : Value) (size bytes : Nat) (ht : P.underlying t = some (.slice e)) (hi : P.info? e = some i) (hz : i.zero = some z)
    (hsize : i.size = size) (hby : i.bytes = bytes) (hzs : z.cells.size = size) (hsz : 0 < size)
    (v : Value) (n : Nat) (xs : List Value) (hown : w.ownsRow 0 e size v n xs)
    (a : Addr) (m c : Nat) (news : List Value) (hl : news.length = m * size) (hnews : ∀ j u, news[j]? = some u → w.cell? (a.add j) = some u) (h1 : ∀ u ∈ news, u.oneCell' = true)
    (h63 : n + m ≤ maxLen) (hbytes : (n + m) * bytes ≤ 140737488355328) :
    ∃ v' w', (Builtin.append_ #[t, t] ty #[v, .slice (some a) m c]).run P w = .ok v' w' ∧ w'.ownsRow 0 e size v' (n + m) (xs ++ news) ∧ w.grownBy w' v.ownBlock ∧
      (v' = .slice none 0 0 ↔ v = .slice none 0 0 ∧ m = 0) ∧ (v'.ownBlock = v.ownBlock ∨ v'.ownBlock = some w.heap.size) := by
  obtain ⟨v', w', hr, h2, h3, h4⟩ := run_append_own (P := P) w 0 t ty e i z size bytes ht hi hz hsize hby hzs hsz v n xs hown a m c news hl hnews h1 h63 hbytes (Nat.zero_le _)
  refine ⟨v', w', hr, h2, h3, h4, ?_⟩
  subst hsize
  subst hby
  have hsmall : n + m ≤ 9223372036854775807 := by simp only [maxLen] at h63; omega
  rcases hown.2 with ⟨rfl, rfl⟩ | ⟨g, cap, cur, rfl, hbg, hg, hnc, hcm, hcs, htake⟩
  · by_cases hm : m = 0
    · subst hm
      rw [h4.2 ⟨rfl, rfl⟩]; exact .inl rfl
    · have hr' := run_append_nil (P := P) w t ty e i z ht hi hz a m c news hl hnews (by omega) (by omega) (by have hb := hbytes; simp only [Nat.zero_add] at hb; omega)
      rw [hr] at hr'
      simp only [Result.ok.injEq] at hr'
      rw [hr'.1]; exact .inr rfl
  · by_cases hroom : n + m ≤ cap
    · have hfit : n * i.size + news.length ≤ cur.size := by rw [hl, hcs, ← Nat.add_mul]; exact Nat.mul_le_mul_right _ hroom
      have hr' := run_append_room (P := P) w t ty e i ht hi g n cap cur hg a m c news hl hnews h1 hroom hfit
      rw [hr] at hr'
      simp only [Result.ok.injEq] at hr'
      rw [hr'.1]; exact .inl rfl
    · have holds : ∀ j u, xs[j]? = some u → w.cell? ((⟨g, 0, none⟩ : Addr).add j) = some u := hown.cells (g := g) rfl
      have hr' := run_append_grow (P := P) w t ty e i z ht hi hz ⟨g, 0, none⟩ n cap xs hown.1 holds a m c news hl hnews (by omega) (by omega) (growslice_fits (by omega) hbytes)
      rw [hr] at hr'
      simp only [Result.ok.injEq] at hr'
      rw [hr'.1]; exact .inr rfl

theorem wpList_append_own2 {P : Program} {w : World} {ops : Array Oper} {rest : List Oper} {o : Oper} {a : Act} {Q : Exit → Act → World → Prop} (hgd : o.guard = none) (s x : Operand) (t : TypeId)
    (ho : o.op = .call { callee := .builtin .append, args := #[s, x], argTypes := #[t, t] })
    (e : TypeId) (i : TypeInfo) (z : Value) (size bytes : Nat) (ht : P.underlying t = some (.slice e)) (hi : P.info? e = some i) (hz : i.zero = some z)
    (hsize : i.size = size) (hby : i.bytes = bytes) (hzs : z.cells.size = size) (hsz : 0 < size)
    (va : Option Addr) (n vc : Nat) (xs : List Value) (hs : a.eval s = .slice va n vc) (hown : w.ownsRow 0 e size (.slice va n vc) n xs)
    (ad : Addr) (m c : Nat) (news : List Value) (hx : a.eval x = .slice (some ad) m c) (hl : news.length = m * size) (hnews : ∀ j u, news[j]? = some u → w.cell? (ad.add j) = some u) (h1 : ∀ u ∈ news, u.oneCell' = true)
    (h63 : n + m ≤ maxLen) (hbytes : (n + m) * bytes ≤ 140737488355328)
    (h : ∀ va' vc' w', w'.ownsRow 0 e size (.slice va' (n + m) vc') (n + m) (xs ++ news) → w.grownBy w' (Value.slice va n vc).ownBlock →
      ((Value.slice va' (n + m) vc').ownBlock = (Value.slice va n vc).ownBlock ∨ (Value.slice va' (n + m) vc').ownBlock = some w.heap.size) → wpList P ops Q rest (a.put o.dst (.slice va' (n + m) vc')) w') :
    wpList P ops Q (o :: rest) a w := by
  refine wpList_plain hgd fun K hK => ?_
  obtain ⟨v', w', hr, h2, h3, h4, h5⟩ := run_append_own2 (P := P) w t o.type e i z size bytes ht hi hz hsize hby hzs hsz (.slice va n vc) n xs hown ad m c news hl hnews h1 h63 hbytes
  obtain ⟨va', vc', rfl⟩ : ∃ va' vc', v' = .slice va' (n + m) vc' := by
    rcases h2.2 with ⟨rfl, e⟩ | ⟨g, cap, cur, rfl, _⟩
    · exact ⟨none, 0, by rw [e]⟩
    · exact ⟨_, cap, rfl⟩
  unfold Oper.wp execOp
  simp only [ho, resolve, invoke, builtin, Sem.run_bind, Sem.run_pure, Result.andThen_ok, List.map_toArray, List.map_cons, List.map_nil, hs, hx, hr]
  exact hK _ _ (h va' vc' w' h2 h3 h5)

/-- The owners behind an append: what is new is i's. -/
def newTo (w : World) (G : Nat → Nat) (i : Nat) : Nat → Nat := fun b => if b < w.heap.size then G b else i
theorem newTo_old {w : World} {G : Nat → Nat} {i b : Nat} (h : b < w.heap.size) : newTo w G i b = G b := if_pos h
theorem newTo_new {w : World} {G : Nat → Nat} {i b : Nat} (h : w.heap.size ≤ b) : newTo w G i b = i := if_neg (by omega)
theorem Adv.ofGrown {w w' : World} {G : Nat → Nat} {i : Nat} {v : Value} (hg : w.grownBy w' v.ownBlock) (hv : Value.ownedBy G i v) : Adv (· = i) w G w' (newTo w G i) :=
  ⟨hg.os, hg.tape, hg.output, hg.size, fun _ hb => newTo_old hb, fun b hb hs => hg.block b hb fun e => hs (hv b e.symm)⟩
theorem Pile.slice {e T size : Nat} {w : World} {G : Nat → Nat} {i D : Nat} {v : Value} {n : Nat} {xs : List Value} (h : Pile e T size w G i D v n xs) : ∃ a cap, v = .slice a n cap := by
  rcases h.row.2 with ⟨rfl, rfl⟩ | ⟨g, cap, cur, rfl, _⟩
  · exact ⟨none, 0, rfl⟩
  · exact ⟨some ⟨g, 0, none⟩, cap, rfl⟩
/-- A pile whose slice was appended to: the slice is stored back. -/
theorem Pile.appended {e T size : Nat} {w w1 : World} {G : Nat → Nat} {i D : Nat} {v v' : Value} {n m : Nat} {xs ys : List Value} (h : Pile e T size w G i D v n xs) (hown : w1.ownsRow 0 e size v' m ys)
    (hg : w.grownBy w1 v.ownBlock) (hv : v'.ownBlock = v.ownBlock ∨ v'.ownBlock = some w.heap.size) :
    Adv (· = i) w G (w1.setCell ⟨D, 0, none⟩ v') (newTo w G i) ∧ Pile e T size (w1.setCell ⟨D, 0, none⟩ v') (newTo w G i) i D v' m ys := by
  have hl := h.lt
  have hD : w1.heap[D]? = some (.cells #[v] T (0, 0)) := by rw [hg.block D hl (fun e => h.ne e.symm)]; exact h.head
  have hne : v'.ownBlock ≠ some D := by
    rcases hv with e | e
    · rw [e]; exact h.ne
    · rw [e]; intro x; simp at x; omega
  refine ⟨(Adv.ofGrown hg h.rown).setCell (p := ⟨D, 0, none⟩) (by show newTo w G i D = i; rw [newTo_old hl]; exact h.hown) v', ?_, by rw [newTo_old hl]; exact h.hown, ?_, ?_, hne⟩
  · simp only [World.setCell, Array.getElem?_modify, hD]; simp
  · exact ownsRow_of_block hown fun b e => Below.heap_setCell _ _ _ _ (fun x => hne (by rw [e]; exact congrArg some x))
  · intro b e
    rcases hv with x | x
    · rw [x] at e; rw [newTo_old (h.row.lt b e).2]; exact h.rown b e
    · rw [x] at e; simp at e; exact newTo_new (by omega)

/-- The last cell of a pile of one-cell elements. -/
theorem Pile.last {e T : Nat} {w : World} {G : Nat → Nat} {i D : Nat} {a : Option Addr} {cap m : Nat} {x : Value} {ys : List Value} (h : Pile e T 1 w G i D (.slice a (m + 1) cap) (m + 1) (ys ++ [x])) :
    ∃ g, a = some ⟨g, 0, none⟩ ∧ cap ≤ maxLen ∧ m + 1 ≤ cap ∧ w.cell? ⟨g, m, none⟩ = some x := by
  obtain ⟨g, cap', cur, e1, hbg, hg, hnc, hcm, hcs, htake⟩ := h.row.2.resolve_left (by rintro ⟨_, h⟩; omega)
  obtain ⟨rfl, _, rfl⟩ : a = some ⟨g, 0, none⟩ ∧ m + 1 = m + 1 ∧ cap = cap' := by simpa using e1
  have hlen : ys.length = m := by have := h.nlen; simp at this; omega
  have hcell := h.row.cells (g := g) rfl m x (by rw [← hlen]; simp)
  refine ⟨g, rfl, hcm, hnc, ?_⟩
  rw [← hcell, Addr.add_lit, Nat.zero_add]
theorem Pile.cut {e T size : Nat} {w : World} {G : Nat → Nat} {i D : Nat} {a : Option Addr} {cap n m : Nat} {xs : List Value} (h : Pile e T size w G i D (.slice a n cap) n xs) (hm : m ≤ n) :
    Adv (· = i) w G (w.setCell ⟨D, 0, none⟩ (.slice a m cap)) G ∧ (0 < m ∨ a.isSome = true → Pile e T size (w.setCell ⟨D, 0, none⟩ (.slice a m cap)) G i D (.slice a m cap) m (xs.take (m * size))) := by
  have hl := h.lt
  refine ⟨(Adv.refl _ w G).setCell (p := ⟨D, 0, none⟩) h.hown _, fun hpos => ⟨?_, h.hown, ?_, ?_, ?_⟩⟩
  · simp only [World.setCell, Array.getElem?_modify, h.head]; simp
  · have hlen := h.nlen
    have hmn : m * size ≤ n * size := Nat.mul_le_mul_right _ hm
    obtain ⟨g, cap', cur, e1, hbg, hg, hnc, hcm, hcs, htake⟩ := h.row.2.resolve_left (by rintro ⟨h1, h2⟩; cases h1; simp at hpos; omega)
    obtain ⟨rfl, _, rfl⟩ : a = some ⟨g, 0, none⟩ ∧ n = n ∧ cap = cap' := by simpa using e1
    have hgD : g ≠ D := fun x => h.ne (by simp [Value.ownBlock, x])
    refine ⟨by rw [List.length_take]; omega, .inr ⟨g, cap, cur, rfl, hbg, ?_, by omega, hcm, hcs, ?_⟩⟩
    · rw [Below.heap_setCell _ _ _ _ hgD]; exact hg
    · rw [← htake, List.take_take]; congr 1; omega
  · intro b e
    cases a with
    | none => cases e
    | some _ => exact h.rown b e
  · intro e
    cases a with
    | none => cases e
    | some _ => exact h.ne e
theorem Pile.popped {e T : Nat} {w : World} {G : Nat → Nat} {i D : Nat} {a : Option Addr} {cap m : Nat} {x : Value} {ys : List Value} (h : Pile e T 1 w G i D (.slice a (m + 1) cap) (m + 1) (ys ++ [x])) :
    Adv (· = i) w G (w.setCell ⟨D, 0, none⟩ (.slice a m cap)) G ∧ Pile e T 1 (w.setCell ⟨D, 0, none⟩ (.slice a m cap)) G i D (.slice a m cap) m ys := by
  have hlen : ys.length = m := by have := h.nlen; simp at this; omega
  obtain ⟨g, rfl, _⟩ := h.last
  obtain ⟨h1, h2⟩ := h.cut (m := m) (by omega)
  refine ⟨h1, ?_⟩
  have h3 := h2 (.inr rfl)
  rwa [Nat.mul_one, List.take_left' hlen] at h3
/-- One cell of a pile's row is written. -/
theorem Pile.store {e T size : Nat} {w : World} {G : Nat → Nat} {i D g : Nat} {cap n : Nat} {xs : List Value} (h : Pile e T size w G i D (.slice (some ⟨g, 0, none⟩) n cap) n xs) (j : Nat) (hj : j < xs.length) (u : Value) :
    Adv (· = i) w G (w.setCell ⟨g, j, none⟩ u) G ∧ Pile e T size (w.setCell ⟨g, j, none⟩ u) G i D (.slice (some ⟨g, 0, none⟩) n cap) n (xs.set j u) := by
  have hlen := h.nlen
  have hpos : 0 < n := by rcases Nat.eq_zero_or_pos n with h0 | h0; · rw [h0, Nat.zero_mul] at hlen; omega
                          · exact h0
  obtain ⟨g', cap', cur, e1, hbg, hg, hnc, hcm, hcs, htake⟩ := h.row.2.resolve_left (by rintro ⟨h1, h2⟩; omega)
  obtain ⟨rfl, _, rfl⟩ : g = g' ∧ n = n ∧ cap = cap' := by simpa using e1
  have hgD : g ≠ D := fun x => h.ne (by simp [Value.ownBlock, x])
  refine ⟨(Adv.refl _ w G).setCell (p := ⟨g, j, none⟩) (h.rown g rfl) _, ?_, h.hown, ⟨by simpa using hlen, .inr ⟨g, cap, cur.setIfInBounds j u, rfl, hbg, ?_, hnc, hcm, by simpa using hcs, ?_⟩⟩, h.rown, h.ne⟩
  · rw [Below.heap_setCell _ _ _ _ (Ne.symm hgD)]; exact h.head
  · simp only [World.setCell, Array.getElem?_modify, hg]; simp
  · rw [← htake, Array.toList_setIfInBounds, List.take_set]
/-- The cells behind a slice's address, as far as there are any. -/
def Reads (w : World) (a : Option Addr) (xs : List Value) : Prop := xs = [] ∨ ∃ b o, a = some ⟨b, o, none⟩ ∧ ∀ j u, xs[j]? = some u → w.cell? ⟨b, o + j, none⟩ = some u
theorem Reads.some {w : World} {a : Option Addr} {xs : List Value} (h : Reads w a xs) (hne : xs ≠ []) : ∃ b o, a = .some ⟨b, o, none⟩ ∧ (∀ j u, xs[j]? = .some u → w.cell? ⟨b, o + j, none⟩ = .some u) ∧ b < w.heap.size := by
  rcases h with h | ⟨b, o, e, h⟩
  · exact absurd h hne
  · refine ⟨b, o, e, h, ?_⟩
    cases xs with
    | nil => exact absurd rfl hne
    | cons x xs => exact World.block_lt_of_cell? w _ (h 0 x rfl)
theorem Reads.add {w : World} {b o : Nat} {xs : List Value} (h : ∀ j u, xs[j]? = .some u → w.cell? ⟨b, o + j, none⟩ = .some u) : ∀ j u, xs[j]? = .some u → w.cell? ((⟨b, o, none⟩ : Addr).add j) = .some u :=
  fun j u hu => by rw [Addr.add_lit]; exact h j u hu
theorem Reads.adv {w w' : World} {G G' : Nat → Nat} {S : Nat → Prop} {a : Option Addr} {xs : List Value} (h : Reads w a xs) (ha : Adv S w G w' G') (hs : ∀ ad, a = .some ad → ¬ S (G ad.block)) : Reads w' a xs := by
  rcases h with rfl | ⟨b, o, rfl, h⟩
  · exact .inl rfl
  · exact .inr ⟨b, o, rfl, fun j u hu => ha.cell_some (h j u hu) (hs ⟨b, o, none⟩ rfl)⟩
theorem Pile.reads {e T size : Nat} {w : World} {G : Nat → Nat} {i D : Nat} {a : Option Addr} {n cap : Nat} {xs : List Value} (h : Pile e T size w G i D (.slice a n cap) n xs) : Reads w a xs ∧ ∀ ad, a = .some ad → ad.block < w.heap.size ∧ G ad.block = i := by
  rcases h.row.2 with ⟨e, h0⟩ | ⟨g, cap, cur, e, _⟩
  · have hl := h.nlen
    rw [h0, Nat.zero_mul] at hl
    cases e
    exact ⟨.inl (List.eq_nil_of_length_eq_zero hl), fun _ h => by cases h⟩
  · cases e
    refine ⟨.inr ⟨g, 0, rfl, fun j u hu => ?_⟩, fun ad e => by cases e; exact ⟨(h.row.lt g rfl).2, h.rown g rfl⟩⟩
    have := h.row.cells (g := g) rfl j u hu
    rwa [Addr.add_lit] at this
/-- A new stack without cells. -/
theorem Pile.made (w : World) (G : Nat → Nat) (e T size i : Nat) : Pile e T size (w.alloc (.cells #[.slice none 0 0] T)) (own1 w G i) i w.heap.size (.slice none 0 0) 0 [] :=
  ⟨heap_alloc_new w _, own1_new _ _ _, World.ownsRow_nil _ _ _ _, (fun b e => by cases e), (fun e => by cases e)⟩
/-- The cells of a new block. -/
theorem Reads.new (w : World) (xs : List Value) (e : TypeId) : Reads (w.alloc (.cells xs.toArray e)) (.some ⟨w.heap.size, 0, none⟩) xs :=
  .inr ⟨w.heap.size, 0, rfl, fun j u hu => by rw [cell_of_row _ w.heap.size (0 + j) xs.toArray e (0, 0) (heap_alloc_new w _)]; simpa using hu⟩
theorem Reads.alloc {w : World} {a : Option Addr} {xs : List Value} (h : Reads w a xs) (o : Obj) : Reads (w.alloc o) a xs :=
  h.adv (G := fun _ => 0) (S := fun _ => False) ((Adv.refl _ w _).alloc o 0) (fun _ _ => id)
/-- Owners are named anew. -/
theorem Pile.relabel {e T size : Nat} {w : World} {G H : Nat → Nat} {i i' D : Nat} {v : Value} {n : Nat} {xs : List Value} (h : Pile e T size w G i D v n xs) (hH : ∀ b, b < w.heap.size → G b = i → H b = i') : Pile e T size w H i' D v n xs :=
  ⟨h.head, hH D h.lt h.hown, h.row, fun b e => hH b (h.row.lt b e).2 (h.rown b e), h.ne⟩
theorem Adv.relabel {S : Nat → Prop} {w w' : World} {G G' H H' : Nat → Nat} (h : Adv S w G w' G') (hn : ∀ b, b < w.heap.size → ¬ S (G b)) (hH : ∀ b, b < w.heap.size → H' b = H b) : Adv (fun _ => False) w H w' H' :=
  ⟨h.os, h.tape, h.output, h.size, hH, fun b hb _ => h.keep b hb (hn b hb)⟩
/-- Old blocks keep their owners; of the new ones 1 becomes i, 2 becomes j. -/
def named (w : World) (G G0 : Nat → Nat) (i j : Nat) : Nat → Nat := fun b => if b < w.heap.size then G b else if G0 b = 1 then i else if G0 b = 2 then j else 0
theorem named_old {w : World} {G G0 : Nat → Nat} {i j b : Nat} (h : b < w.heap.size) : named w G G0 i j b = G b := if_pos h
theorem named_1 {S : Nat → Prop} {w w' : World} {G G0 : Nat → Nat} {i j : Nat} (h : Adv S w (fun _ => 0) w' G0) : ∀ b, b < w'.heap.size → G0 b = 1 → named w G G0 i j b = i := by
  intro b _ h1
  unfold named
  rw [if_neg (fun hb => by have := h.own b hb; omega), if_pos h1]
theorem named_2 {S : Nat → Prop} {w w' : World} {G G0 : Nat → Nat} {i j : Nat} (h : Adv S w (fun _ => 0) w' G0) : ∀ b, b < w'.heap.size → G0 b = 2 → named w G G0 i j b = j := by
  intro b _ h1
  unfold named
  rw [if_neg (fun hb => by have := h.own b hb; omega), if_neg (by omega), if_pos h1]
/-- copy, whatever the elements' size. -/
theorem run_copy_size {P : Program} (w : World) (dT sT ty elem : TypeId) (i : TypeInfo) (g o dLen dCap : Nat) (a : Addr) (sLen sCap : Nat) (cur : Array Value) (t : TypeId) (cs : List Value)
    (hu : P.underlying dT = some (.slice elem)) (hi : P.info? elem = some i)
    (hg : w.heap[g]? = some (.cells cur t (0, 0))) (hn : cs.length = Nat.min sLen dLen * i.size)
    (hsrc : ∀ j v, cs[j]? = some v → w.cell? (a.add j) = some v) (hfit : o + cs.length ≤ cur.size) (h1 : ∀ v ∈ cs, v.oneCell' = true) :
    (Builtin.copy_ #[dT, sT] ty #[.slice (some ⟨g, o, none⟩) dLen dCap, .slice (some a) sLen sCap]).run P w =
      .ok (goInt (Nat.min sLen dLen)) (w.setRow g (cur.toList.take o ++ cs ++ cur.toList.drop (o + cs.length)).toArray) := by
  have hl := run_loadCells_list (P := P) w a cs hsrc
  have hst := run_storeCells_at P g o t cs 0 cur w hg (by simpa using hfit) h1
  simp [Builtin.copy_, run_underlying hu, Builtin.lenOf, Builtin.firstCells, sizeOf, typeInfo, hi, ← hn, hl, hst]
theorem setRow_alloc (w : World) (cur cs : Array Value) (e : TypeId) (g : Nat) (h : g = w.heap.size) : (w.alloc (.cells cur e)).setRow g cs = w.alloc (.cells cs e) := by
  subst h
  have e : ((w.alloc (.cells cur e)).setRow w.heap.size cs).heap = (w.alloc (.cells cs e)).heap := by
    apply Array.ext_getElem?
    intro j
    by_cases hj : j = w.heap.size
    · subst hj
      rw [setRow_heap _ _ cur cs e (0, 0) (heap_alloc_new w _)]
      exact (heap_alloc_new w _).symm
    · rw [setRow_other _ _ _ _ hj]
      simp only [World.alloc, Array.getElem?_push, if_neg hj]
  have h2 : ∀ a b : World, a.heap = b.heap → a.tape = b.tape → a.drawn = b.drawn → a.os = b.os → a.output = b.output → a = b := by
    intro a b h1 h2 h3 h4 h5
    cases a; cases b; simp_all
  exact h2 _ _ e rfl rfl rfl rfl
theorem wpList_copy_new {P : Program} {w : World} {ops : Array Oper} {rest : List Oper} {o : Oper} {a : Act} {Q : Exit → Act → World → Prop} (hgd : o.guard = none) (d s : Operand) (dT sT : TypeId)
    (ho : o.op = .call { callee := .builtin .copy, args := #[d, s], argTypes := #[dT, sT] }) (elem : TypeId) (i : TypeInfo) (hu : P.underlying dT = some (.slice elem)) (hi : P.info? elem = some i)
    (n dCap : Nat) (ad : Addr) (sCap : Nat) (hd : a.eval d = .slice (some ⟨w.heap.size, 0, none⟩) n dCap) (hs : a.eval s = .slice (some ad) n sCap)
    (cur : Array Value) (cs : List Value) (hn : cs.length = n * i.size) (hc : cur.size = cs.length)
    (hsrc : ∀ j v, cs[j]? = some v → w.cell? (ad.add j) = some v) (hb : ad.block < w.heap.size) (h1 : ∀ v ∈ cs, v.oneCell' = true)
    (h : wpList P ops Q rest (a.put o.dst (goInt n)) (w.alloc (.cells cs.toArray elem))) : wpList P ops Q (o :: rest) a (w.alloc (.cells cur elem)) := by
  refine wpList_plain hgd fun K hK => ?_
  have hsrc' : ∀ j v, cs[j]? = some v → (w.alloc (.cells cur elem)).cell? (ad.add j) = some v := fun j v hj => by
    have h2 := hsrc j v hj
    rw [← h2]
    exact World.cell?_of_block (Below.heap_alloc w _ _ (by unfold Addr.add; split <;> exact hb))
  have hrun := run_copy_size (P := P) (w.alloc (.cells cur elem)) dT sT o.type elem i w.heap.size 0 n dCap ad n sCap cur elem cs hu hi (heap_alloc_new w _) (by simpa using hn) hsrc' (by omega) h1
  have he : (cur.toList.take 0 ++ cs ++ cur.toList.drop (0 + cs.length)).toArray = cs.toArray := by
    have hcl : cur.toList.length = cs.length := by simpa using hc
    simp [← hcl]
  rw [he, setRow_alloc w cur cs.toArray elem _ rfl] at hrun
  unfold Oper.wp
  simp [execOp, ho, resolve, invoke, builtin, hd, hs, hrun, Result.andThen]
  exact hK _ _ (by simpa using h)

#print axioms wpList_copy_new
#print axioms wpList_append_own2
#print axioms Pile.adv
end Go.Proofs.YtdnalhjdmlkbmaaDoor
