/- What is known of an argument that can be read as data: by its type; The arguments of the statements on stacks, as lists; Stacks' cells that come in as arguments, with their ranges; PrimNone, its arguments opened. -/
import Derived.ProofKit
import Derived.SizedLaws
import Derived.Deep.Slices
import Derived.OpenShut
import Derived.ChangeMaps5
import Derived.Test.YtdnalhjdmlkbmaaGreatDoorPrimNoneU1
import Derived.Test.YtdnalhjdmlkbmaaGreatDoorPrimNoneU2
import Derived.Test.YtdnalhjdmlkbmaaGreatDoorPrimNoneU3
import Derived.Test.YtdnalhjdmlkbmaaGreatDoorPrimNoneU4
import Derived.Test.YtdnalhjdmlkbmaaGreatDoorPrimNoneU5
import Derived.Test.YtdnalhjdmlkbmaaGreatDoorPrimNoneU6
set_option linter.unusedVariables false
set_option linter.unusedSimpArgs false
set_option linter.unnecessarySimpa false
namespace Go.Proofs.YtdnalhjdmlkbmaaGreatDoor
open Go.RowKit Go.ChangeShapes Go.WideShapes

/-- Cells that read as data of type t have the form K, and what they hold is within the reach. -/
def Opens (P : Program) (t : TypeId) {α : Type} (K : World → α → List Value → Prop) : Prop :=
  ∀ {H : Type} (enc : TypeId × Value → H) (w : World) (fuel : Nat) (cs : List Value) (x : DataW H × List MemPlace), DataW.trod enc P w 0 (fun _ => true) true fuel t cs = some x →
    (∀ n ∈ DataW.weights P t x.1, n ≤ reachBytes) → ∃ a, K w a cs

def kInt (k : IntKind) : World → Int → List Value → Prop := fun _ n cs => cs = [.int k n] ∧ (Lit.int k n).wf = true
def kBool : World → Bool → List Value → Prop := fun _ b cs => cs = [.bool b]
def kString : World → ByteArray → List Value → Prop := fun _ s cs => cs = [.string s] ∧ s.size ≤ 140737488351232
/-- A slice: its elements, each of 'size' cells; its capacity is within the reach. -/
def kSlice {α : Type} (size bytes : Nat) (K : World → α → List Value → Prop) : World → List α → List Value → Prop := fun w l cs =>
  ∃ a c, cs = [.slice a l.length c] ∧ l.length ≤ c ∧ c * bytes ≤ 140737488351232 ∧
    (l = [] ∨ ∃ b o, a = some ⟨b, o, none⟩ ∧ ∀ i x, l[i]? = some x → ∃ cs', K w x cs' ∧ cs'.length = size ∧ ∀ j u, cs'[j]? = some u → w.cell? ⟨b, o + i * size + j, none⟩ = some u)

theorem opens_int {P : Program} {t : TypeId} {k : IntKind} (ht : P.underlying t = some (.int k)) : Opens P t (kInt k) := by
  intro H enc w fuel cs x h _
  obtain ⟨n, rfl, _, hw⟩ := DataW.trod_int ht h
  exact ⟨n, rfl, hw⟩
theorem opens_bool {P : Program} {t : TypeId} (ht : P.underlying t = some .bool) : Opens P t kBool := by
  intro H enc w fuel cs x h _
  obtain ⟨n, rfl, _⟩ := DataW.trod_bool ht h
  exact ⟨n, rfl⟩
theorem opens_string {P : Program} {t : TypeId} (ht : P.underlying t = some .string) : Opens P t kString := by
  intro H enc w fuel cs x h hr
  obtain ⟨s, rfl, rfl, _⟩ := DataW.trod_string ht h
  refine ⟨s, rfl, ?_⟩
  have := hr s.data.toList.length (by simp [DataW.weights])
  simpa [reachBytes] using this

theorem weights_all {H : Type} {P : Program} {e : TypeId} : ∀ {l : List (DataW H)} {d : DataW H}, d ∈ l → ∀ n ∈ d.weights P e, n ∈ DataW.weightsAll P e l
  | [], d, hd, _, _ => by simp at hd
  | y :: l, d, hd, n, hn => by
    rcases List.mem_cons.1 hd with rfl | h
    · simp [DataW.weightsAll, hn]
    · simp [DataW.weightsAll, weights_all h n hn]

/-- From each place to a list. -/
theorem list_of {α : Type} {p : Nat → α → Prop} : ∀ (n : Nat), (∀ i, i < n → ∃ y, p i y) → ∃ l : List α, l.length = n ∧ ∀ i x, l[i]? = some x → p i x
  | 0, _ => ⟨[], rfl, fun i x hi => by simp at hi⟩
  | m + 1, each => by
    obtain ⟨l, h1, h2⟩ := list_of m (fun i hi => each i (by omega))
    obtain ⟨y, hy⟩ := each m (by omega)
    refine ⟨l ++ [y], by simp [h1], fun i x hi => ?_⟩
    by_cases him : i < l.length
    · exact h2 i x (by rwa [List.getElem?_append_left him] at hi)
    · rw [List.getElem?_append_right (by omega)] at hi
      obtain ⟨rfl, rfl⟩ : i = m ∧ x = y := by
        rw [List.getElem?_singleton] at hi
        split at hi
        · exact ⟨by omega, by simpa using hi.symm⟩
        · cases hi
      exact hy
theorem opens_slice {P : Program} {t e : TypeId} {α : Type} {K : World → α → List Value → Prop} {size bytes : Nat} (ht : P.underlying t = some (.slice e)) (hc : P.cellsOf e = size) (hs : 0 < size) (hb : P.bytesOf e = bytes) (hK : Opens P e K) :
    Opens P t (kSlice size bytes K) := by
  intro H enc w fuel cs x h hr
  rcases DataW.trod_slice ht h with ⟨rfl, rfl⟩ | ⟨a, len, cap, elems, rest, n, _, rfl, rfl, _, hl, _, hlen, hel, hsp, _⟩
  · exact ⟨[], none, 0, rfl, Nat.le_refl _, by omega, .inl rfl⟩
  · obtain ⟨hrl, _⟩ := hsp rfl
    have hcap : cap * bytes ≤ 140737488351232 := by
      have := hr ((elems.map (·.1)).length + (rest.map (·.1)).length |> (· * P.bytesOf e)) (by simp [DataW.weights, ht])
      simp only [List.length_map, hlen, hrl, hb, reachBytes] at this
      rwa [show len + (cap - len) = cap from by omega] at this
    have each : ∀ i, i < len → ∃ y, ∃ cs', K w y cs' ∧ cs'.length = size ∧ ∀ j u, cs'[j]? = some u → w.cell? (a.add (i * size + j)) = some u := by
      intro i hi
      have h1 := hel i hi
      obtain ⟨ei, hei⟩ : ∃ ei, elems[i]? = some ei := ⟨elems[i]'(by omega), by simp⟩
      rw [hei, hc] at h1
      cases hcs : w.cells? 0 (a.add (i * size)) size with
      | none => rw [hcs] at h1; simp at h1
      | some cs' =>
        rw [hcs] at h1
        simp only [Option.bind_some] at h1
        obtain ⟨_, hcl, hcell⟩ := World.cells?_some hcs
        obtain ⟨y, hy⟩ := hK enc w n cs' ei h1 (fun m hm => hr m (by
          simp only [DataW.weights, ht, List.mem_cons, List.mem_append]
          exact .inr (.inl (weights_all (List.mem_map.2 ⟨ei, List.mem_of_getElem? hei, rfl⟩) m hm))))
        refine ⟨y, cs', hy, hcl, fun j u hj => ?_⟩
        have hjl : j < size := by rw [← hcl]; exact (List.getElem?_eq_some_iff.1 hj).1
        have := hcell j hjl
        rw [Go.Deep.add_add] at this
        rw [this]; exact hj
    rcases Nat.eq_zero_or_pos len with h0 | hpos
    · exact ⟨[], some a, cap, by rw [h0]; rfl, by simp, hcap, .inl rfl⟩
    · have hsp0 : ∃ b o, a = ⟨b, o, none⟩ := by
        obtain ⟨y, cs', _, hcl, hcell⟩ := each 0 hpos
        obtain ⟨u, hu⟩ : ∃ u, cs'[0]? = some u := ⟨cs'[0]'(by omega), by simp⟩
        have h2 := hcell 0 u hu
        simp only [Nat.zero_mul, Nat.add_zero, Addr.add_zero'] at h2
        obtain ⟨b, o, sp⟩ := a
        cases sp with
        | none => exact ⟨b, o, rfl⟩
        | some _ => simp only [World.cell?] at h2; split at h2 <;> simp at h2
      obtain ⟨b, o, rfl⟩ := hsp0
      obtain ⟨l, h1, h2⟩ := list_of len each
      refine ⟨l, some ⟨b, o, none⟩, cap, by rw [h1], by omega, hcap, .inr ⟨b, o, rfl, fun i x hi => ?_⟩⟩
      obtain ⟨cs', ha, hb', hc'⟩ := h2 i x hi
      refine ⟨cs', ha, hb', fun j u hj => ?_⟩
      have := hc' j u hj
      rwa [Addr.add_lit, ← Nat.add_assoc] at this

/-- A struct of two fields; of five. -/
theorem opens_struct2 {P : Program} {t : TypeId} {f0 f1 : Field} {α β : Type} {K0 : World → α → List Value → Prop} {K1 : World → β → List Value → Prop} (ht : P.underlying t = some (.struct #[f0, f1]))
    (h0 : Opens P f0.type K0) (h1 : Opens P f1.type K1) : Opens P t (fun w (x : α × β) cs => cs.length = P.cellsOf t ∧ K0 w x.1 ((cs.drop f0.offset).take (P.cellsOf f0.type)) ∧ K1 w x.2 ((cs.drop f1.offset).take (P.cellsOf f1.type))) := by
  intro H enc w fuel cs x h hr
  obtain ⟨xs, n, _, rfl, hl, hlen, hf⟩ := DataW.trod_struct ht h
  match xs, hlen with
  | [y0, y1], _ =>
    have g0 := hf 0 f0 rfl
    have g1 := hf 1 f1 rfl
    have e : DataW.weights P t (.agg ([y0, y1].map (·.1))) = y0.1.weights P f0.type ++ (y1.1.weights P f1.type ++ []) := by simp [DataW.weights, ht, DataW.weightsEach]
    obtain ⟨a, ha⟩ := h0 enc w n _ y0 g0 (fun m hm => hr m (by rw [e]; simp [hm]))
    obtain ⟨b, hb⟩ := h1 enc w n _ y1 g1 (fun m hm => hr m (by rw [e]; simp [hm]))
    exact ⟨(a, b), hl, ha, hb⟩
theorem opens_struct5 {P : Program} {t : TypeId} {f0 f1 f2 f3 f4 : Field} {α β γ δ ε : Type} {K0 : World → α → List Value → Prop} {K1 : World → β → List Value → Prop} {K2 : World → γ → List Value → Prop} {K3 : World → δ → List Value → Prop} {K4 : World → ε → List Value → Prop}
    (ht : P.underlying t = some (.struct #[f0, f1, f2, f3, f4])) (h0 : Opens P f0.type K0) (h1 : Opens P f1.type K1) (h2 : Opens P f2.type K2) (h3 : Opens P f3.type K3) (h4 : Opens P f4.type K4) :
    Opens P t (fun w (x : α × β × γ × δ × ε) cs => cs.length = P.cellsOf t ∧ K0 w x.1 ((cs.drop f0.offset).take (P.cellsOf f0.type)) ∧ K1 w x.2.1 ((cs.drop f1.offset).take (P.cellsOf f1.type)) ∧
      K2 w x.2.2.1 ((cs.drop f2.offset).take (P.cellsOf f2.type)) ∧ K3 w x.2.2.2.1 ((cs.drop f3.offset).take (P.cellsOf f3.type)) ∧ K4 w x.2.2.2.2 ((cs.drop f4.offset).take (P.cellsOf f4.type))) := by
  intro H enc w fuel cs x h hr
  obtain ⟨xs, n, _, rfl, hl, hlen, hf⟩ := DataW.trod_struct ht h
  match xs, hlen with
  | [y0, y1, y2, y3, y4], _ =>
    have e : DataW.weights P t (.agg ([y0, y1, y2, y3, y4].map (·.1))) = y0.1.weights P f0.type ++ (y1.1.weights P f1.type ++ (y2.1.weights P f2.type ++ (y3.1.weights P f3.type ++ (y4.1.weights P f4.type ++ [])))) := by simp [DataW.weights, ht, DataW.weightsEach]
    obtain ⟨a, ha⟩ := h0 enc w n _ y0 (hf 0 f0 rfl) (fun m hm => hr m (by rw [e]; simp [hm]))
    obtain ⟨b, hb⟩ := h1 enc w n _ y1 (hf 1 f1 rfl) (fun m hm => hr m (by rw [e]; simp [hm]))
    obtain ⟨c, hc⟩ := h2 enc w n _ y2 (hf 2 f2 rfl) (fun m hm => hr m (by rw [e]; simp [hm]))
    obtain ⟨d, hd⟩ := h3 enc w n _ y3 (hf 3 f3 rfl) (fun m hm => hr m (by rw [e]; simp [hm]))
    obtain ⟨f, hf⟩ := h4 enc w n _ y4 (hf 4 f4 rfl) (fun m hm => hr m (by rw [e]; simp [hm]))
    exact ⟨(a, b, c, d, f), hl, ha, hb, hc, hd, hf⟩

/-- An argument: its value's cells have the form K. -/
theorem opens_arg {P : Program} {H : Type} {enc : TypeId × Value → H} {w : World} {ts : List TypeId} {ds : List (DataW H)} (hsz : (DataW.weightsEach P ts ds).all (· ≤ reachBytes) = true) {j : Nat} {t : TypeId} {d : DataW H} {v : Value} {p : List MemPlace}
    {α : Type} {K : World → α → List Value → Prop} (hK : Opens P t K) (h : DataW.Trod enc P w 0 (fun _ => true) true t v d p) (htj : ts[j]? = some t) (hdj : ds[j]? = some d) : ∃ a, K w a v.cells.toList := by
  obtain ⟨fuel, hf⟩ := h
  exact hK enc w fuel _ _ hf (fun n hn => by simpa using List.all_eq_true.1 hsz n (DataW.weights_mem_each htj hdj n hn))
#print axioms opens_slice
end Go.Proofs.YtdnalhjdmlkbmaaGreatDoor
namespace Go.Proofs.YtdnalhjdmlkbmaaGreatDoor
open Go.RowKit Go.ChangeShapes Go.WideShapes

theorem Tryz.cells31 : Tryz.prog.cellsOf 31 = 1 := by kernel_rfl
theorem Tryz.bytes31 : Tryz.prog.bytesOf 31 = 2 := by kernel_rfl
theorem Tryz.cells111 : Tryz.prog.cellsOf 111 = 2 := by kernel_rfl
theorem Tryz.bytes111 : Tryz.prog.bytesOf 111 = 16 := by kernel_rfl
theorem Tryz.cells3 : Tryz.prog.cellsOf 3 = 1 := by kernel_rfl

theorem opens22 : Opens Tryz.prog 22 (kSlice 1 2 (kInt .u16)) := opens_slice Tryz.underlying22 Tryz.cells31 (by omega) Tryz.bytes31 (opens_int Tryz.underlying31)
theorem kU {w : World} {l : List Int} {cs : List Value} (h : kSlice 1 2 (kInt .u16) w l cs) : ∃ a c, cs = [.slice a l.length c] ∧ l.length ≤ c ∧ c ≤ 70368744175616 ∧ Reads w a (cellsU l) := by
  obtain ⟨a, c, rfl, h1, h2, h3⟩ := h
  refine ⟨a, c, rfl, h1, by omega, ?_⟩
  rcases h3 with rfl | ⟨b, o, rfl, h3⟩
  · exact .inl rfl
  · refine .inr ⟨b, o, rfl, fun j u hu => ?_⟩
    simp only [cellsU, List.getElem?_map, Option.map_eq_some_iff] at hu
    obtain ⟨x, hx, rfl⟩ := hu
    obtain ⟨cs', ⟨rfl, _⟩, _, hc⟩ := h3 j x hx
    have := hc 0 _ rfl
    simpa using this
/-- The cells of an api.Cell. -/
def kCell : World → Int × Int → List Value → Prop := fun _ c cs => cs = [.int .i64 c.1, .int .u16 c.2]
theorem opens43 : Opens Tryz.prog 111 kCell := by
  intro H enc w fuel cs x h hr
  obtain ⟨a, h1, h2, h3⟩ := opens_struct2 Tryz.underlying111 (opens_int Tryz.underlying3) (opens_int Tryz.underlying31) enc w fuel cs x h hr
  rw [Tryz.cells111] at h1
  rw [Tryz.cells3] at h2
  rw [Tryz.cells31] at h3
  match cs, h1 with
  | [c0, c1], _ =>
    have e0 := h2.1
    have e1 := h3.1
    simp at e0 e1
    exact ⟨a, by rw [e0, e1]; rfl⟩
theorem opens36 : Opens Tryz.prog 23 (kSlice 2 16 kCell) := opens_slice Tryz.underlying23 Tryz.cells111 (by omega) Tryz.bytes111 opens43
theorem cellsR_get (l : List (Int × Int)) : ∀ (j : Nat) (u : Value), (cellsR l)[j]? = some u → ∃ (i : Nat) (d : Nat) (c : Int × Int), j = i * 2 + d ∧ l[i]? = some c ∧ [Value.int .i64 c.1, .int .u16 c.2][d]? = some u := by
  induction l with
  | nil => intro j u h; simp [cellsR] at h
  | cons c l ih =>
    intro j u h
    simp only [cellsR, List.flatMap_cons] at h ih
    match j with
    | 0 => exact ⟨0, 0, c, rfl, rfl, h⟩
    | 1 => exact ⟨0, 1, c, rfl, rfl, h⟩
    | j + 2 =>
      obtain ⟨i, d, c', h1, h2, h3⟩ := ih j u h
      exact ⟨i + 1, d, c', by omega, h2, h3⟩
theorem kR {w : World} {l : List (Int × Int)} {cs : List Value} (h : kSlice 2 16 kCell w l cs) : ∃ a c, cs = [.slice a l.length c] ∧ l.length ≤ c ∧ c ≤ 8796093021952 ∧ Reads w a (cellsR l) := by
  obtain ⟨a, c, rfl, h1, h2, h3⟩ := h
  refine ⟨a, c, rfl, h1, by omega, ?_⟩
  rcases h3 with rfl | ⟨b, o, rfl, h3⟩
  · exact .inl rfl
  · refine .inr ⟨b, o, rfl, fun j u hu => ?_⟩
    obtain ⟨i, d, x, rfl, hx, hd⟩ := cellsR_get l j u hu
    obtain ⟨cs', rfl, _, hc⟩ := h3 i x hx
    have := hc d _ hd
    rwa [← Nat.add_assoc]
theorem slice_of {a a' : Option Addr} {n n' c c' : Nat} (h : (Value.slice a n c).cells.toList = [.slice a' n' c']) : Value.slice a n c = .slice a' n' c' := by simpa [Value.cells] using h
end Go.Proofs.YtdnalhjdmlkbmaaGreatDoor
namespace Go.Proofs.YtdnalhjdmlkbmaaGreatDoor
open Go.RowKit Go.ChangeShapes Go.WideShapes
set_option linter.unusedVariables false
theorem wf_i64_of {n : Int} (h : (Lit.int .i64 n).wf = true) : -9223372036854775808 ≤ n ∧ n ≤ 9223372036854775807 := by
  simp [Lit.wf, IntKind.min, IntKind.max, IntKind.signed, IntKind.bits] at h
  omega
theorem kUW {w : World} {l : List Int} {cs : List Value} (h : kSlice 1 2 (kInt .u16) w l cs) : ∃ a c, cs = [.slice a l.length c] ∧ l.length ≤ c ∧ c ≤ 70368744175616 ∧ Reads w a (cellsU l) ∧ D16 l := by
  obtain ⟨a, c, h1, h2, h3, h4⟩ := kU h
  refine ⟨a, c, h1, h2, h3, h4, fun x hx => ?_⟩
  obtain ⟨b, d, _, _, _, h5⟩ := h
  rcases h5 with rfl | ⟨b, o, rfl, h5⟩
  · cases hx
  · obtain ⟨j, hj⟩ := List.getElem?_of_mem hx
    obtain ⟨cs', ⟨_, hw⟩, _⟩ := h5 j x hj
    exact wf_u16_of hw
/-- The cells of an api.Cell, with their ranges. -/
def kCellW : World → Int × Int → List Value → Prop := fun _ c cs => cs = [.int .i64 c.1, .int .u16 c.2] ∧ (Lit.int .i64 c.1).wf = true ∧ (Lit.int .u16 c.2).wf = true
theorem opensCellW : Opens Tryz.prog 111 kCellW := by
  intro H enc w fuel cs x h hr
  obtain ⟨a, h1, h2, h3⟩ := opens_struct2 Tryz.underlying111 (opens_int Tryz.underlying3) (opens_int Tryz.underlying31) enc w fuel cs x h hr
  have w2 := h2.2
  have w3 := h3.2
  rw [Tryz.cells111] at h1
  rw [Tryz.cells3] at h2
  rw [Tryz.cells31] at h3
  match cs, h1 with
  | [c0, c1], _ =>
    have e0 := h2.1
    have e1 := h3.1
    simp at e0 e1
    exact ⟨a, by rw [e0, e1], w2, w3⟩
theorem opensCellsW : Opens Tryz.prog 23 (kSlice 2 16 kCellW) := opens_slice Tryz.underlying23 Tryz.cells111 (by omega) Tryz.bytes111 opensCellW
theorem kRW {w : World} {l : List (Int × Int)} {cs : List Value} (h : kSlice 2 16 kCellW w l cs) : ∃ a c, cs = [.slice a l.length c] ∧ l.length ≤ c ∧ c ≤ 8796093021952 ∧ Reads w a (cellsR l) ∧ R16 l ∧ (∀ x ∈ l, -9223372036854775808 ≤ x.1 ∧ x.1 ≤ 9223372036854775807) := by
  obtain ⟨a, c, rfl, h1, h2, h3⟩ := h
  have hall : ∀ x ∈ l, (Lit.int .i64 x.1).wf = true ∧ (Lit.int .u16 x.2).wf = true := by
    intro x hx
    rcases h3 with rfl | ⟨b, o, rfl, h3⟩
    · cases hx
    · obtain ⟨j, hj⟩ := List.getElem?_of_mem hx
      obtain ⟨cs', ⟨_, hw⟩, _⟩ := h3 j x hj
      exact hw
  refine ⟨a, c, rfl, h1, by omega, ?_, fun x hx => wf_u16_of (hall x hx).2, fun x hx => wf_i64_of (hall x hx).1⟩
  rcases h3 with rfl | ⟨b, o, rfl, h3⟩
  · exact .inl rfl
  · refine .inr ⟨b, o, rfl, fun j u hu => ?_⟩
    obtain ⟨i, d, x, rfl, hx, hd⟩ := cellsR_get l j u hu
    obtain ⟨cs', ⟨rfl, _⟩, _, hc⟩ := h3 i x hx
    have := hc d _ hd
    rwa [← Nat.add_assoc]
end Go.Proofs.YtdnalhjdmlkbmaaGreatDoor
namespace Go.Proofs.YtdnalhjdmlkbmaaGreatDoor.primNone
open Go.RowKit Go.ChangeShapes Go.WideShapes
set_option linter.unusedVariables false
set_option maxRecDepth 100000 in
theorem primNone_open {H : Type} {enc : TypeId × Value → H} (W : World) (base : Nat) (v0 : Value) (d0 : DataW H) (p0 : List MemPlace) (h0 : DataW.Trod enc Tryz.prog W 0 (fun _ => true) true 3 v0 d0 p0) (o0 : Value.okWide Tryz.prog W .any base 3 v0)
    (v1 : Value) (d1 : DataW H) (p1 : List MemPlace) (h1 : DataW.Trod enc Tryz.prog W 0 (fun _ => true) true 22 v1 d1 p1) (o1 : Value.okWide Tryz.prog W .any base 22 v1)
    (v2 : Value) (d2 : DataW H) (p2 : List MemPlace) (h2 : DataW.Trod enc Tryz.prog W 0 (fun _ => true) true 23 v2 d2 p2) (o2 : Value.okWide Tryz.prog W .any base 23 v2)
    (hsz : (DataW.weightsEach Tryz.prog ([3, 22, 23] ++ []) ([d0, d1, d2] ++ [])).all (· ≤ reachBytes) = true) (hL : laidMetH Tryz.prog laid4 W) :
    Calls Tryz.prog 5 #[v0, v1, v2] W fun e w' => e = .returned (.bool true) ∧ Below W.heap.size W w' := by
  obtain ⟨xs, hx⟩ := opens_arg hsz (j := 1) opens22 h1 rfl rfl
  obtain ⟨ys, hy⟩ := opens_arg hsz (j := 2) opensCellsW h2 rfl rfl
  obtain ⟨a, n, c, rfl⟩ := okWide_slice Tryz.underlying22 o1
  obtain ⟨b, m, c2, rfl⟩ := okWide_slice Tryz.underlying23 o2
  obtain ⟨z, rfl, _, _, hz⟩ := open_int Tryz.underlying3 o0 h0
  obtain ⟨a', c', f1, g1, b1, r1, x1⟩ := kUW hx
  obtain ⟨b', c2', f2, g2, b2, r2, x2, x3⟩ := kRW hy
  rw [slice_of f1, slice_of f2]
  refine (none_any z a' xs.length c' xs b' ys.length c2' ys W (of_laid hL) rfl r1 g1 (by omega) rfl r2 g2 (by omega) x3 x1 x2).mono ?_
  rintro e w' ⟨rfl, G', ha⟩
  exact ⟨rfl, ha.below (Nat.le_refl _) fun _ _ => id⟩
end Go.Proofs.YtdnalhjdmlkbmaaGreatDoor.primNone
