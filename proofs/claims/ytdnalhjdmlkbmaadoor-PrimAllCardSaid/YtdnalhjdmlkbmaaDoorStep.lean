/- append to a row, as one step of a region that draws its order. -/
import Derived.Test.YtdnalhjdmlkbmaaDoorRowLib
import Derived.Deep.RegionLaw
namespace Go.Proofs.YtdnalhjdmlkbmaaDoor
open Go.RowKit

theorem new_cells (w : World) (xs : List Value) (e : TypeId) : ∀ j u, xs[j]? = some u → (w.alloc (.cells xs.toArray e)).cell? ((⟨w.heap.size, 0, none⟩ : Addr).add j) = some u := by
  intro j u hu
  rw [Addr.add_lit, cell_of_row _ w.heap.size (0 + j) xs.toArray e (0, 0) (heap_alloc_new w _)]
  simpa using hu
theorem step_append_row {P : Program} {ops : Array Oper} {o : Oper} {a : Act} {w : World} {K : Act → World → Prop} {Q : Exit → Act → World → Prop} {E : Prop}
    (hg : o.guard = none) (s x : Operand) (t : TypeId) (hop : o.op = Op.call { callee := Callee.builtin Builtin.append, args := #[s, x], argTypes := #[t, t] })
    (e : TypeId) (i : TypeInfo) (z : Value) (size bytes : Nat) (h1 : P.underlying t = some (.slice e)) (h2 : P.info? e = some i) (h3 : i.zero = some z) (h4 : i.size = size) (h5 : i.bytes = bytes) (h6 : z.cells.size = size) (h7 : 0 < size)
    (G : Nat → Nat) (q : Nat) (va : Option Addr) (n vc : Nat) (xs : List Value) (hs : a.eval s = .slice va n vc) (hrow : Row e size w G q (.slice va n vc) n xs)
    (ad : Addr) (m c : Nat) (news : List Value) (hx : a.eval x = .slice (some ad) m c) (hn : news.length = m * size) (hc : ∀ j u, news[j]? = some u → w.cell? (ad.add j) = some u) (h1c : ∀ u ∈ news, u.oneCell' = true)
    (b1 : n + m ≤ maxLen) (b2 : (n + m) * bytes ≤ 140737488355328)
    (hK : ∀ va' vc' w' G', Row e size w' G' q (.slice va' (n + m) vc') (n + m) (xs ++ news) → Adv (· = q) w G w' G' → K (a.put o.dst (.slice va' (n + m) vc')) w') :
    if Region.wanted o (yielded ops a.tmps) = true then Oper.wp P o a w K Q else E := by
  have hw : Region.wanted o (yielded ops a.tmps) = true := by simp [Region.wanted, hg]
  rw [if_pos hw]
  obtain ⟨v', w', hr, r1, r2, _, r4⟩ := run_append_own2 (P := P) w t o.type e i z size bytes h1 h2 h3 h4 h5 h6 h7 (.slice va n vc) n xs hrow.row ad m c news hn hc h1c b1 b2
  obtain ⟨va', vc', rfl⟩ : ∃ va' vc', v' = .slice va' (n + m) vc' := by
    rcases r1.2 with ⟨rfl, e⟩ | ⟨g, cap, cur, rfl, _⟩
    · exact ⟨none, 0, by rw [e]⟩
    · exact ⟨_, cap, rfl⟩
  obtain ⟨r5, r6⟩ := hrow.appended r1 r2 r4
  unfold Oper.wp
  simp [execOp, hop, resolve, invoke, builtin, hs, hx, hr, Result.andThen]
  exact hK _ _ _ _ r6 r5
end Go.Proofs.YtdnalhjdmlkbmaaDoor
