/- What is known of an argument that can be read as data: by its type. -/
import Derived.Test.YtgpimonjdhbdmaaLib
import Derived.ProofKit
import Derived.SizedLaws
import Derived.Deep.Slices
namespace Go.Proofs.Ytgpimonjdhbdmaa
open Go.RowKit Go.ChangeShapes Go.WideShapes

/-- Cells that read as data of type t have the form K, and what they hold is within the reach. -/
def Opens (P : Program) (t : TypeId) {α : Type} (K : World → α → List Value → Prop) : Prop :=
  ∀ {H : Type} (enc : TypeId × Value → H) (w : World) (fuel : Nat) (cs : List Value) (x : DataW H × List MemPlace), DataW.trod enc P w 0 (fun _ => true) true fuel t cs = some x →
    (∀ n ∈ DataW.weights P t x.1, n ≤ reachBytes) → ∃ a, K w a cs

def kInt (k : IntKind) : World → Int → List Value → Prop := fun _ n cs => cs = [.int k n] ∧ (Lit.int k n).wf = true
def kBool : World → Bool → List Value → Prop := fun _ b cs => cs = [.bool b]
def kString : World → ByteArray → List Value → Prop := fun _ s cs => cs = [.string s] ∧ s.size ≤ 140737488351232
/-- A slice: its elements, each of 'size' cells; its capacity is within the reach. -/
def kSlice {α : Type} (size bytes : Nat) (K : World → α → List Value → Prop) : World → List α → List Value → Prop := fun w l cs =>
  ∃ a c, cs = [.slice a l.length c] ∧ l.length ≤ c ∧ c * bytes ≤ 140737488351232 ∧
    (l = [] ∨ ∃ b o, a = some ⟨b, o, none⟩ ∧ ∀ i x, l[i]? = some x → ∃ cs', K w x cs' ∧ cs'.length = size ∧ ∀ j u, cs'[j]? = some u → w.cell? ⟨b, o + i * size + j, none⟩ = some u)

theorem opens_int {P : Program} {t : TypeId} {k : IntKind} (ht : P.underlying t = some (.int k)) : Opens P t (kInt k) := by
  intro H enc w fuel cs x h _
  obtain ⟨n, rfl, _, hw⟩ := DataW.trod_int ht h
  exact ⟨n, rfl, hw⟩
theorem opens_bool {P : Program} {t : TypeId} (ht : P.underlying t = some .bool) : Opens P t kBool := by
  intro H enc w fuel cs x h _
  obtain ⟨n, rfl, _⟩ := DataW.trod_bool ht h
  exact ⟨n, rfl⟩
theorem opens_string {P : Program} {t : TypeId} (ht : P.underlying t = some .string) : Opens P t kString := by
  intro H enc w fuel cs x h hr
  obtain ⟨s, rfl, rfl, _⟩ := DataW.trod_string ht h
  refine ⟨s, rfl, ?_⟩
  have := hr s.data.toList.length (by simp [DataW.weights])
  simpa [reachBytes] using this

theorem weights_all {H : Type} {P : Program} {e : TypeId} : ∀ {l : List (DataW H)} {d : DataW H}, d ∈ l → ∀ n ∈ d.weights P e, n ∈ DataW.weightsAll P e l
  | [], d, hd, _, _ => by simp at hd
  | y :: l, d, hd, n, hn => by
    rcases List.mem_cons.1 hd with rfl | h
    · simp [DataW.weightsAll, hn]
    · simp [DataW.weightsAll, weights_all h n hn]

/-- From each place to a list. -/
theorem list_of {α : Type} {p : Nat → α → Prop} : ∀ (n : Nat), (∀ i, i < n → ∃ y, p i y) → ∃ l : List α, l.length = n ∧ ∀ i x, l[i]? = some x → p i x
  | 0, _ => ⟨[], rfl, fun i x hi => by simp at hi⟩
  | m + 1, each => by
    obtain ⟨l, h1, h2⟩ := list_of m (fun i hi => each i (by omega))
    obtain ⟨y, hy⟩ := each m (by omega)
    refine ⟨l ++ [y], by simp [h1], fun i x hi => ?_⟩
    by_cases him : i < l.length
    · exact h2 i x (by rwa [List.getElem?_append_left him] at hi)
    · rw [List.getElem?_append_right (by omega)] at hi
      obtain ⟨rfl, rfl⟩ : i = m ∧ x = y := by
        rw [List.getElem?_singleton] at hi
        split at hi
        · exact ⟨by omega, by simpa using hi.symm⟩
        · cases hi
      exact hy
theorem opens_slice {P : Program} {t e : TypeId} {α : Type} {K : World → α → List Value → Prop} {size bytes : Nat} (ht : P.underlying t = some (.slice e)) (hc : P.cellsOf e = size) (hs : 0 < size) (hb : P.bytesOf e = bytes) (hK : Opens P e K) :
    Opens P t (kSlice size bytes K) := by
  intro H enc w fuel cs x h hr
  rcases DataW.trod_slice ht h with ⟨rfl, rfl⟩ | ⟨a, len, cap, elems, rest, n, _, rfl, rfl, _, hl, _, hlen, hel, hsp, _⟩
  · exact ⟨[], none, 0, rfl, Nat.le_refl _, by omega, .inl rfl⟩
  · obtain ⟨hrl, _⟩ := hsp rfl
    have hcap : cap * bytes ≤ 140737488351232 := by
      have := hr ((elems.map (·.1)).length + (rest.map (·.1)).length |> (· * P.bytesOf e)) (by simp [DataW.weights, ht])
      simp only [List.length_map, hlen, hrl, hb, reachBytes] at this
      rwa [show len + (cap - len) = cap from by omega] at this
    have each : ∀ i, i < len → ∃ y, ∃ cs', K w y cs' ∧ cs'.length = size ∧ ∀ j u, cs'[j]? = some u → w.cell? (a.add (i * size + j)) = some u := by
      intro i hi
      have h1 := hel i hi
      obtain ⟨ei, hei⟩ : ∃ ei, elems[i]? = some ei := ⟨elems[i]'(by omega), by simp⟩
      rw [hei, hc] at h1
      cases hcs : w.cells? 0 (a.add (i * size)) size with
      | none => rw [hcs] at h1; simp at h1
      | some cs' =>
        rw [hcs] at h1
        simp only [Option.bind_some] at h1
        obtain ⟨_, hcl, hcell⟩ := World.cells?_some hcs
        obtain ⟨y, hy⟩ := hK enc w n cs' ei h1 (fun m hm => hr m (by
          simp only [DataW.weights, ht, List.mem_cons, List.mem_append]
          exact .inr (.inl (weights_all (List.mem_map.2 ⟨ei, List.mem_of_getElem? hei, rfl⟩) m hm))))
        refine ⟨y, cs', hy, hcl, fun j u hj => ?_⟩
        have hjl : j < size := by rw [← hcl]; exact (List.getElem?_eq_some_iff.1 hj).1
        have := hcell j hjl
        rw [Go.Deep.add_add] at this
        rw [this]; exact hj
    rcases Nat.eq_zero_or_pos len with h0 | hpos
    · exact ⟨[], some a, cap, by rw [h0]; rfl, by simp, hcap, .inl rfl⟩
    · have hsp0 : ∃ b o, a = ⟨b, o, none⟩ := by
        obtain ⟨y, cs', _, hcl, hcell⟩ := each 0 hpos
        obtain ⟨u, hu⟩ : ∃ u, cs'[0]? = some u := ⟨cs'[0]'(by omega), by simp⟩
        have h2 := hcell 0 u hu
        simp only [Nat.zero_mul, Nat.add_zero, Addr.add_zero'] at h2
        obtain ⟨b, o, sp⟩ := a
        cases sp with
        | none => exact ⟨b, o, rfl⟩
        | some _ => simp only [World.cell?] at h2; split at h2 <;> simp at h2
      obtain ⟨b, o, rfl⟩ := hsp0
      obtain ⟨l, h1, h2⟩ := list_of len each
      refine ⟨l, some ⟨b, o, none⟩, cap, by rw [h1], by omega, hcap, .inr ⟨b, o, rfl, fun i x hi => ?_⟩⟩
      obtain ⟨cs', ha, hb', hc'⟩ := h2 i x hi
      refine ⟨cs', ha, hb', fun j u hj => ?_⟩
      have := hc' j u hj
      rwa [Addr.add_lit, ← Nat.add_assoc] at this

/-- A struct of two fields; of five. -/
theorem opens_struct2 {P : Program} {t : TypeId} {f0 f1 : Field} {α β : Type} {K0 : World → α → List Value → Prop} {K1 : World → β → List Value → Prop} (ht : P.underlying t = some (.struct #[f0, f1]))
    (h0 : Opens P f0.type K0) (h1 : Opens P f1.type K1) : Opens P t (fun w (x : α × β) cs => cs.length = P.cellsOf t ∧ K0 w x.1 ((cs.drop f0.offset).take (P.cellsOf f0.type)) ∧ K1 w x.2 ((cs.drop f1.offset).take (P.cellsOf f1.type))) := by
  intro H enc w fuel cs x h hr
  obtain ⟨xs, n, _, rfl, hl, hlen, hf⟩ := DataW.trod_struct ht h
  match xs, hlen with
  | [y0, y1], _ =>
    have g0 := hf 0 f0 rfl
    have g1 := hf 1 f1 rfl
    have e : DataW.weights P t (.agg ([y0, y1].map (·.1))) = y0.1.weights P f0.type ++ (y1.1.weights P f1.type ++ []) := by simp [DataW.weights, ht, DataW.weightsEach]
    obtain ⟨a, ha⟩ := h0 enc w n _ y0 g0 (fun m hm => hr m (by rw [e]; simp [hm]))
    obtain ⟨b, hb⟩ := h1 enc w n _ y1 g1 (fun m hm => hr m (by rw [e]; simp [hm]))
    exact ⟨(a, b), hl, ha, hb⟩
theorem opens_struct5 {P : Program} {t : TypeId} {f0 f1 f2 f3 f4 : Field} {α β γ δ ε : Type} {K0 : World → α → List Value → Prop} {K1 : World → β → List Value → Prop} {K2 : World → γ → List Value → Prop} {K3 : World → δ → List Value → Prop} {K4 : World → ε → List Value → Prop}
    (ht : P.underlying t = some (.struct #[f0, f1, f2, f3, f4])) (h0 : Opens P f0.type K0) (h1 : Opens P f1.type K1) (h2 : Opens P f2.type K2) (h3 : Opens P f3.type K3) (h4 : Opens P f4.type K4) :
    Opens P t (fun w (x : α × β × γ × δ × ε) cs => cs.length = P.cellsOf t ∧ K0 w x.1 ((cs.drop f0.offset).take (P.cellsOf f0.type)) ∧ K1 w x.2.1 ((cs.drop f1.offset).take (P.cellsOf f1.type)) ∧
      K2 w x.2.2.1 ((cs.drop f2.offset).take (P.cellsOf f2.type)) ∧ K3 w x.2.2.2.1 ((cs.drop f3.offset).take (P.cellsOf f3.type)) ∧ K4 w x.2.2.2.2 ((cs.drop f4.offset).take (P.cellsOf f4.type))) := by
  intro H enc w fuel cs x h hr
  obtain ⟨xs, n, _, rfl, hl, hlen, hf⟩ := DataW.trod_struct ht h
  match xs, hlen with
  | [y0, y1, y2, y3, y4], _ =>
    have e : DataW.weights P t (.agg ([y0, y1, y2, y3, y4].map (·.1))) = y0.1.weights P f0.type ++ (y1.1.weights P f1.type ++ (y2.1.weights P f2.type ++ (y3.1.weights P f3.type ++ (y4.1.weights P f4.type ++ [])))) := by simp [DataW.weights, ht, DataW.weightsEach]
    obtain ⟨a, ha⟩ := h0 enc w n _ y0 (hf 0 f0 rfl) (fun m hm => hr m (by rw [e]; simp [hm]))
    obtain ⟨b, hb⟩ := h1 enc w n _ y1 (hf 1 f1 rfl) (fun m hm => hr m (by rw [e]; simp [hm]))
    obtain ⟨c, hc⟩ := h2 enc w n _ y2 (hf 2 f2 rfl) (fun m hm => hr m (by rw [e]; simp [hm]))
    obtain ⟨d, hd⟩ := h3 enc w n _ y3 (hf 3 f3 rfl) (fun m hm => hr m (by rw [e]; simp [hm]))
    obtain ⟨f, hf⟩ := h4 enc w n _ y4 (hf 4 f4 rfl) (fun m hm => hr m (by rw [e]; simp [hm]))
    exact ⟨(a, b, c, d, f), hl, ha, hb, hc, hd, hf⟩

/-- An argument: its value's cells have the form K. -/
theorem opens_arg {P : Program} {H : Type} {enc : TypeId × Value → H} {w : World} {ts : List TypeId} {ds : List (DataW H)} (hsz : (DataW.weightsEach P ts ds).all (· ≤ reachBytes) = true) {j : Nat} {t : TypeId} {d : DataW H} {v : Value} {p : List MemPlace}
    {α : Type} {K : World → α → List Value → Prop} (hK : Opens P t K) (h : DataW.Trod enc P w 0 (fun _ => true) true t v d p) (htj : ts[j]? = some t) (hdj : ds[j]? = some d) : ∃ a, K w a v.cells.toList := by
  obtain ⟨fuel, hf⟩ := h
  exact hK enc w fuel _ _ hf (fun n hn => by simpa using List.all_eq_true.1 hsz n (DataW.weights_mem_each htj hdj n hn))
#print axioms opens_slice
end Go.Proofs.Ytgpimonjdhbdmaa
