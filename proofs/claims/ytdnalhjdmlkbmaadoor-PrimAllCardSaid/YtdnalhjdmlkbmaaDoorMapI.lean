/- Maps with integer keys, told as lists of pairs: look-up and update at the operation. -/
import Derived.Test.YtdnalhjdmlkbmaaDoorLib
import Derived.MapKept
import Derived.ChangeMaps4
import Derived.RangeFuncRecord
namespace Go.Proofs.YtdnalhjdmlkbmaaDoor
open Go.RowKit

/-- Block B is a map with keys of kind q that holds these pairs, in the order in which they came. -/
def MapI (q : IntKind) (w : World) (B : Nat) (l : List (Int × Value)) : Prop :=
  ∃ es clk, w.heap[B]? = some (.map es clk) ∧ es.toList.map (fun e => (e.key, e.val)) = l.map (fun p => (Value.int q p.1, p.2))
theorem MapI.lt {q : IntKind} {w : World} {B : Nat} {l : List (Int × Value)} (h : MapI q w B l) : B < w.heap.size := by
  obtain ⟨es, clk, h, _⟩ := h
  exact (Array.getElem?_eq_some_iff.1 h).1
theorem MapI.of_block {q : IntKind} {w w' : World} {B : Nat} {l : List (Int × Value)} (h : MapI q w B l) (hb : w'.heap[B]? = w.heap[B]?) : MapI q w' B l := by
  obtain ⟨es, clk, h1, h2⟩ := h
  exact ⟨es, clk, hb.trans h1, h2⟩
theorem MapI.made (q : IntKind) (w : World) : MapI q (w.alloc (.map #[] 0)) w.heap.size [] := ⟨#[], 0, heap_alloc_new w _, rfl⟩

/-- The value of a key; none. -/
def valI : List (Int × Value) → Int → Option Value
  | [], _ => none
  | p :: l, k => if p.1 = k then some p.2 else valI l k
theorem findNow_I (q : IntKind) (k : Int) : ∀ (es : List MapEntry) (l : List (Int × Value)) (i : Nat), es.map (fun e => (e.key, e.val)) = l.map (fun p => (Value.int q p.1, p.2)) →
    (valI l k = none → Instr.findNow (.int q) (.int q k) es i = some none) ∧ (∀ v, valI l k = some v → ∃ j, Instr.findNow (.int q) (.int q k) es i = some (some (j, v)))
  | [], [], i, _ => ⟨fun _ => rfl, fun v h => by cases h⟩
  | [], _ :: _, _, h => by simp at h
  | _ :: _, [], _, h => by simp at h
  | e :: es, p :: l, i, h => by
    simp only [List.map_cons, List.cons.injEq, Prod.mk.injEq] at h
    obtain ⟨⟨hk, hv⟩, ht⟩ := h
    obtain ⟨h1, h2⟩ := findNow_I q k es l (i + 1) ht
    unfold valI Instr.findNow
    rw [hk, ← hv]
    simp only [Instr.sameNow, if_true]
    by_cases he : p.1 = k
    · subst he
      simp
    · have hne : (k == p.1) = false := by simp; exact fun h => he h.symm
      rw [if_neg he, hne]
      exact ⟨h1, h2⟩
theorem checkKey_I {P : Program} {kt : TypeId} {q : IntKind} (hk : P.underlying kt = some (.int q)) (w : World) (x : Int) (em : Bool) : (Instr.checkKey em 10000 kt (.int q x)).run P w = .ok () w :=
  MapKept.run_checkKey hk (k := .int q x) (by simp [MapKept.IsKey]) em 9999
/-- v, ok := m[k]. -/
theorem lookup_I {P : Program} {t kt e : TypeId} {q : IntKind} (ht : P.underlying t = some (.map kt e)) (hk : P.underlying kt = some (.int q)) {w : World} {B : Nat} {l : List (Int × Value)} (h : MapI q w B l) (k : Int) (v : Value) (hv : valI l k = some v) :
    (Instr.lookup t (.map (some B)) (.int q k) true).run P w = .ok (.tuple #[v, .bool true]) w := by
  obtain ⟨es, clk, hb, hl⟩ := h
  obtain ⟨j, hj⟩ := (findNow_I q k es.toList l 0 hl).2 v hv
  simp [Instr.lookup, run_underlying ht, MapKept.run_getObj_map hb, checkKey_I hk, MapKept.run_findKey hk hj, Result.andThen]
theorem lookup_I_no {P : Program} {t kt e : TypeId} {q : IntKind} (ht : P.underlying t = some (.map kt e)) (hk : P.underlying kt = some (.int q)) {w : World} {z : Value} (hz : (zeroValue e).run P w = .ok z w) {B : Nat} {l : List (Int × Value)} (h : MapI q w B l) (k : Int) (hv : valI l k = none) :
    (Instr.lookup t (.map (some B)) (.int q k) true).run P w = .ok (.tuple #[z, .bool false]) w := by
  obtain ⟨es, clk, hb, hl⟩ := h
  have hj := (findNow_I q k es.toList l 0 hl).1 hv
  simp [Instr.lookup, run_underlying ht, MapKept.run_getObj_map hb, checkKey_I hk, MapKept.run_findKey hk hj, Result.andThen, hz]
/-- m[k] = v, at a new key. -/
theorem update_I {P : Program} {t kt e : TypeId} {q : IntKind} (ht : P.underlying t = some (.map kt e)) (hk : P.underlying kt = some (.int q)) {w : World} {B : Nat} {l : List (Int × Value)} (h : MapI q w B l) (k : Int) (v : Value) (hv : valI l k = none) :
    ∃ o, (Instr.mapUpdate t (.map (some B)) (.int q k) v).run P w = .ok () (w.putObj B o) ∧ MapI q (w.putObj B o) B (l ++ [(k, v)]) := by
  have hlt := h.lt
  obtain ⟨es, clk, hb, hl⟩ := h
  have hj := (findNow_I q k es.toList l 0 hl).1 hv
  refine ⟨.map (es.push ⟨.int q k, v, clk⟩) (clk + 1), ?_, es.push ⟨.int q k, v, clk⟩, clk + 1, World.putObj_heap_same hlt, ?_⟩
  · simp [Instr.mapUpdate, run_underlying ht, MapKept.run_getObj_map hb, checkKey_I hk, MapKept.run_findKey hk hj, MapKept.run_setObj_map _ hb, Result.andThen, World.putObj]
  · simp [hl]
end Go.Proofs.YtdnalhjdmlkbmaaDoor
