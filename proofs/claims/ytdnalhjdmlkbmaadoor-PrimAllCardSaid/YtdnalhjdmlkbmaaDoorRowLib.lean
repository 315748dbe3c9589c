/- Rows that somebody owns, without a pointer to them; append of whatever is read. -/
import Derived.Test.YtdnalhjdmlkbmaaDoorLib
namespace Go.Proofs.YtdnalhjdmlkbmaaDoor
open Go.RowKit

/-- A slice that owns its cells, which begin a block of i's (or it is nil). -/
structure Row (e size : Nat) (w : World) (G : Nat → Nat) (i : Nat) (v : Value) (n : Nat) (xs : List Value) : Prop where
  row : w.ownsRow 0 e size v n xs
  own : Value.ownedBy G i v
theorem Row.adv {e size : Nat} {w w' : World} {G G' : Nat → Nat} {i : Nat} {v : Value} {n : Nat} {xs : List Value} {S : Nat → Prop} (h : Row e size w G i v n xs) (ha : Adv S w G w' G') (hs : ¬ S i) : Row e size w' G' i v n xs := by
  have hb : ∀ b, v.ownBlock = some b → b < w.heap.size := fun b e => (h.row.lt b e).2
  exact ⟨ownsRow_of_block h.row fun b e => ha.keep b (hb b e) (by rw [h.own b e]; exact hs), fun b e => by rw [ha.own b (hb b e)]; exact h.own b e⟩
theorem Row.nil (w : World) (G : Nat → Nat) (e size i : Nat) : Row e size w G i (.slice none 0 0) 0 [] := ⟨World.ownsRow_nil _ _ _ _, fun b e => by cases e⟩
theorem Row.nlen {e size : Nat} {w : World} {G : Nat → Nat} {i : Nat} {v : Value} {n : Nat} {xs : List Value} (h : Row e size w G i v n xs) : xs.length = n * size := h.row.1
/-- A new row that is full. -/
theorem Row.new (w : World) (G : Nat → Nat) (e size i n : Nat) (xs : List Value) (hn : n ≤ maxLen) (hx : xs.length = n * size) : Row e size (w.alloc (.cells xs.toArray e)) (own1 w G i) i (.slice (some ⟨w.heap.size, 0, none⟩) n n) n xs :=
  ⟨⟨hx, .inr ⟨w.heap.size, n, xs.toArray, rfl, Nat.zero_le _, heap_alloc_new w _, Nat.le_refl _, hn, by simpa using hx, by simp [← hx]⟩⟩, fun b e => by cases e; exact own1_new _ _ _⟩
theorem Row.slice {e size : Nat} {w : World} {G : Nat → Nat} {i : Nat} {v : Value} {n : Nat} {xs : List Value} (h : Row e size w G i v n xs) : ∃ a c, v = .slice a n c ∧ c ≤ maxLen ∧ n ≤ c ∧ (0 < n → ∃ g, a = some ⟨g, 0, none⟩) := by
  rcases h.row.2 with ⟨rfl, rfl⟩ | ⟨g, cap, cur, rfl, _, _, h1, h2, _⟩
  · exact ⟨none, 0, rfl, Nat.zero_le _, Nat.le_refl _, fun h => by omega⟩
  · exact ⟨_, cap, rfl, h2, h1, fun _ => ⟨g, rfl⟩⟩
theorem Row.reads {e size : Nat} {w : World} {G : Nat → Nat} {i : Nat} {a : Option Addr} {n c : Nat} {xs : List Value} (h : Row e size w G i (.slice a n c) n xs) : Reads w a xs := by
  rcases h.row.2 with ⟨e, h0⟩ | ⟨g, cap, cur, e, _⟩
  · have hl := h.nlen
    rw [h0, Nat.zero_mul] at hl
    exact .inl (List.eq_nil_of_length_eq_zero hl)
  · cases e
    refine .inr ⟨g, 0, rfl, fun j u hu => ?_⟩
    have := h.row.cells (g := g) rfl j u hu
    rwa [Addr.add_lit] at this
theorem Row.at {e size : Nat} {w : World} {G : Nat → Nat} {i g : Nat} {n c : Nat} {xs : List Value} (h : Row e size w G i (.slice (some ⟨g, 0, none⟩) n c) n xs) (hn : 0 < n) : g < w.heap.size ∧ G g = i ∧ (∀ j, w.frozen? ⟨g, j, none⟩ = false) ∧ (∀ j u, xs[j]? = some u → w.cell? ⟨g, j, none⟩ = some u) := by
  rcases h.row.2 with ⟨e, h0⟩ | ⟨g', cap, cur, e, _, hg, _⟩
  · omega
  · cases e
    refine ⟨(h.row.lt g rfl).2, h.own g rfl, fun j => by simp [World.frozen?, hg], fun j u hu => ?_⟩
    have := h.row.cells (g := g) rfl j u hu
    rwa [Addr.add_lit, Nat.zero_add] at this
/-- One cell is written. -/
theorem Row.store {e size : Nat} {w : World} {G : Nat → Nat} {i g : Nat} {c n : Nat} {xs : List Value} (h : Row e size w G i (.slice (some ⟨g, 0, none⟩) n c) n xs) (j : Nat) (hj : j < xs.length) (u : Value) :
    Adv (· = i) w G (w.setCell ⟨g, j, none⟩ u) G ∧ Row e size (w.setCell ⟨g, j, none⟩ u) G i (.slice (some ⟨g, 0, none⟩) n c) n (xs.set j u) := by
  have hlen := h.nlen
  have hpos : 0 < n := by rcases Nat.eq_zero_or_pos n with h0 | h0
                          · rw [h0, Nat.zero_mul] at hlen; omega
                          · exact h0
  obtain ⟨g', cap', cur, e1, hbg, hg, hnc, hcm, hcs, htake⟩ := h.row.2.resolve_left (by rintro ⟨h1, h2⟩; omega)
  obtain ⟨rfl, _, rfl⟩ : g = g' ∧ n = n ∧ c = cap' := by simpa using e1
  refine ⟨(Adv.refl _ w G).setCell (p := ⟨g, j, none⟩) (h.own g rfl) _, ⟨⟨by simpa using hlen, .inr ⟨g, c, cur.setIfInBounds j u, rfl, hbg, ?_, hnc, hcm, by simpa using hcs, ?_⟩⟩, h.own⟩⟩
  · simp only [World.setCell, Array.getElem?_modify, hg]; simp
  · rw [← htake, Array.toList_setIfInBounds, List.take_set]
theorem Row.appended {e size : Nat} {w w1 : World} {G : Nat → Nat} {i : Nat} {v v' : Value} {n m : Nat} {xs ys : List Value} (h : Row e size w G i v n xs) (hown : w1.ownsRow 0 e size v' m ys)
    (hg : w.grownBy w1 v.ownBlock) (hv : v'.ownBlock = v.ownBlock ∨ v'.ownBlock = some w.heap.size) : Adv (· = i) w G w1 (newTo w G i) ∧ Row e size w1 (newTo w G i) i v' m ys := by
  refine ⟨Adv.ofGrown hg h.own, hown, fun b e => ?_⟩
  rcases hv with x | x
  · rw [x] at e; rw [newTo_old (h.row.lt b e).2]; exact h.own b e
  · rw [x] at e; simp at e; exact newTo_new (by omega)

theorem run_append_nothing {P : Program} (w : World) (t ty e : TypeId) (i : TypeInfo) (ht : P.underlying t = some (.slice e)) (hi : P.info? e = some i) (va : Option Addr) (n vc c : Nat) (h : n ≤ vc) :
    (Builtin.append_ #[t, t] ty #[.slice va n vc, .slice none 0 c]).run P w = .ok (.slice va n vc) w := by
  cases va <;> simp [Builtin.append_, run_underlying ht, sizeOf, typeInfo, hi, Builtin.lenOf, Builtin.firstCells, h, storeCells]

/-- append of whatever is read. -/
theorem wpList_append_reads {P : Program} {w : World} {ops : Array Oper} {rest : List Oper} {o : Oper} {a : Act} {Q : Exit → Act → World → Prop} (hgd : o.guard = none) (s x : Operand) (t : TypeId)
    (ho : o.op = .call { callee := .builtin .append, args := #[s, x], argTypes := #[t, t] })
    (e : TypeId) (ti : TypeInfo) (z : Value) (size bytes : Nat) (ht : P.underlying t = some (.slice e)) (hi : P.info? e = some ti) (hz : ti.zero = some z)
    (hsize : ti.size = size) (hby : ti.bytes = bytes) (hzs : z.cells.size = size) (hsz : 0 < size)
    (G : Nat → Nat) (i : Nat) (va : Option Addr) (n vc : Nat) (xs : List Value) (hs : a.eval s = .slice va n vc) (hrow : Row e size w G i (.slice va n vc) n xs)
    (xa : Option Addr) (m c : Nat) (news : List Value) (hx : a.eval x = .slice xa m c) (hl : news.length = m * size) (hnews : Reads w xa news) (h1 : ∀ u ∈ news, u.oneCell' = true)
    (h63 : n + m ≤ maxLen) (hbytes : (n + m) * bytes ≤ 140737488355328)
    (h : ∀ va' vc' w' G', Row e size w' G' i (.slice va' (n + m) vc') (n + m) (xs ++ news) → Adv (· = i) w G w' G' → wpList P ops Q rest (a.put o.dst (.slice va' (n + m) vc')) w') :
    wpList P ops Q (o :: rest) a w := by
  by_cases hm : m = 0 ∧ xa = none
  · obtain ⟨rfl, rfl⟩ := hm
    obtain rfl : news = [] := List.eq_nil_of_length_eq_zero (by simpa using hl)
    refine wpList_plain hgd fun K hK => ?_
    have hnc : n ≤ vc := by
      obtain ⟨a', c', e1, _, h2, _⟩ := hrow.slice
      cases e1; exact h2
    have hr := run_append_nothing (P := P) w t o.type e ti ht hi va n vc c hnc
    unfold Oper.wp execOp
    simp only [ho, resolve, invoke, builtin, Sem.run_bind, Sem.run_pure, Result.andThen_ok, List.map_toArray, List.map_cons, List.map_nil, hs, hx, hr]
    refine hK _ _ ?_
    have h2 := h va vc w G (by simpa using hrow) (Adv.refl _ _ _)
    simpa using h2
  · obtain ⟨ad, rfl, hn2⟩ : ∃ ad, xa = some ad ∧ ∀ j u, news[j]? = some u → w.cell? (ad.add j) = some u := by
      rcases hnews with rfl | ⟨b, o, rfl, hr⟩
      · cases xa with
        | none =>
          exfalso
          apply hm
          refine ⟨?_, rfl⟩
          rcases Nat.eq_zero_or_pos m with h | h
          · exact h
          · exfalso
            have : 0 < m * size := Nat.mul_pos h hsz
            simp at hl; omega
        | some ad => exact ⟨ad, rfl, fun j u hu => by simp at hu⟩
      · exact ⟨_, rfl, Reads.add hr⟩
    refine wpList_append_own2 hgd s x t ho e ti z size bytes ht hi hz hsize hby hzs hsz va n vc xs hs hrow.row ad m c news hx hl hn2 h1 h63 hbytes fun va' vc' w' h2 h3 h4 => ?_
    obtain ⟨h5, h6⟩ := hrow.appended h2 h3 h4
    exact h va' vc' w' _ h6 h5
#print axioms wpList_append_reads
end Go.Proofs.YtdnalhjdmlkbmaaDoor
