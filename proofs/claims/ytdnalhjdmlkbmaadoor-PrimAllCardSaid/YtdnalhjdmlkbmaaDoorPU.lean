/- The two stacks as lists of numbers: contracts in one form. -/
import Derived.Test.YtdnalhjdmlkbmaaDoorStacks
namespace Go.Proofs.YtdnalhjdmlkbmaaDoor
open Go.RowKit

def cellsU (l : List Int) : List Value := l.map (.int .u16)
theorem cellsU_length (l : List Int) : (cellsU l).length = l.length := List.length_map _
theorem cellsU_append (l m : List Int) : cellsU (l ++ m) = cellsU l ++ cellsU m := List.map_append
theorem cellsU_one (l : List Int) : ∀ u ∈ cellsU l, u.oneCell' = true := by
  intro u hu
  simp only [cellsU, List.mem_map] at hu
  obtain ⟨x, _, rfl⟩ := hu; rfl
theorem cellsU_at (l : List Int) (k : Nat) (x : Int) (h : l[k]? = some x) : (cellsU l)[k]? = some (.int .u16 x) := by simp [cellsU, h]
theorem Reads.atU {w : World} {a : Option Addr} {l : List Int} (h : Reads w a (cellsU l)) (k : Nat) (x : Int) (hk : l[k]? = .some x) : ∃ b o, a = .some ⟨b, o, none⟩ ∧ w.cell? ⟨b, o + k, none⟩ = .some (.int .u16 x) ∧ b < w.heap.size := by
  have h1 := cellsU_at l k x hk
  obtain ⟨b, o, rfl, h, hb⟩ := h.some (by intro e; rw [e] at h1; simp at h1)
  exact ⟨b, o, rfl, h _ _ h1, hb⟩

theorem Reads.takeU {w : World} {a : Option Addr} {l : List Int} (h : Reads w a (cellsU l)) (n : Nat) : Reads w a (cellsU (l.take n)) := by
  by_cases he : cellsU (l.take n) = []
  · exact .inl he
  · obtain ⟨b, o, rfl, hr, _⟩ := h.some (fun e => he (by simp only [cellsU, List.map_eq_nil_iff] at e ⊢; rw [e]; simp))
    refine .inr ⟨b, o, rfl, fun j u hu => hr j u ?_⟩
    simp only [cellsU, List.map_take] at hu ⊢
    rw [List.getElem?_take] at hu
    split at hu
    · exact hu
    · cases hu
theorem needF_nat (n : Int) (p q : Int) : needF n p q = needF n p.toNat q.toNat := by
  unfold needF
  rw [show max ((p.toNat : Int)) 0 = max p 0 from by omega, show max ((q.toNat : Int)) 0 = max q 0 from by omega]
theorem madeU (n : Nat) : madeCells (Value.int .u16 0).cells n = (cellsU (List.replicate n 0)).toArray := by
  apply Array.ext
  · simp [madeCells, cellsU]
  · intro i h1 h2
    simp [madeCells, cellsU, Value.cells, Nat.mod_one]
theorem run_makeU (w : World) (n : Nat) (hn : n ≤ 100000000000000) : (Instr.makeSlice 42 (.int .i64 n) (.int .i64 n)).run Tryd.prog w = .ok (.slice (some ⟨w.heap.size, 0, none⟩) n n) (w.alloc (.cells (cellsU (List.replicate n 0)).toArray 41)) := by
  obtain ⟨i0, hi, hz0, hz1, hz2⟩ := info_parts Tryd.info41
  have h := run_make (P := Tryd.prog) w 42 41 i0 (.int .u16 0) Tryd.underlying42 hi hz0 .i64 .i64 n n (by omega) (by omega) (by rw [hz2]; omega) (by omega)
  rwa [hz1, Int.toNat_natCast, Nat.mul_one, madeU] at h
/-- A data stack that holds these numbers; a return stack that holds these cells. -/
def PU (w : World) (G : Nat → Nat) (i D : Nat) (l : List Int) : Prop := ∃ v, Pile 41 140 1 w G i D v l.length (cellsU l)
def PR (w : World) (G : Nat → Nat) (i D : Nat) (l : List (Int × Int)) : Prop := ∃ v, Pile 59 144 2 w G i D v l.length (cellsR l)
theorem PU.adv {w w' : World} {G G' : Nat → Nat} {i D : Nat} {l : List Int} {S : Nat → Prop} (h : PU w G i D l) (ha : Adv S w G w' G') (hs : ¬ S i) : PU w' G' i D l := h.imp fun _ h => h.adv ha hs
theorem PR.adv {w w' : World} {G G' : Nat → Nat} {i D : Nat} {l : List (Int × Int)} {S : Nat → Prop} (h : PR w G i D l) (ha : Adv S w G w' G') (hs : ¬ S i) : PR w' G' i D l := h.imp fun _ h => h.adv ha hs
theorem PU.drewN {w : World} {G : Nat → Nat} {i D : Nat} {l : List Int} (h : PU w G i D l) (d : Nat) : PU (w.drewN d) G i D l := h.imp fun _ h => h.drewN d
theorem PR.drewN {w : World} {G : Nat → Nat} {i D : Nat} {l : List (Int × Int)} (h : PR w G i D l) (d : Nat) : PR (w.drewN d) G i D l := h.imp fun _ h => h.drewN d
theorem PU.drew {w : World} {G : Nat → Nat} {i D : Nat} {l : List Int} (h : PU w G i D l) : PU w.drew G i D l := h.drewN 1
theorem PR.drew {w : World} {G : Nat → Nat} {i D : Nat} {l : List (Int × Int)} (h : PR w G i D l) : PR w.drew G i D l := h.drewN 1
theorem PU.alloc {w : World} {G : Nat → Nat} {i D : Nat} {l : List Int} (h : PU w G i D l) (o : Obj) (k : Nat) : PU (w.alloc o) (own1 w G k) i D l := h.imp fun _ h => h.alloc o k
theorem PR.alloc {w : World} {G : Nat → Nat} {i D : Nat} {l : List (Int × Int)} (h : PR w G i D l) (o : Obj) (k : Nat) : PR (w.alloc o) (own1 w G k) i D l := h.imp fun _ h => h.alloc o k
theorem PU.lt {w : World} {G : Nat → Nat} {i D : Nat} {l : List Int} (h : PU w G i D l) : D < w.heap.size := h.elim fun _ h => h.lt
theorem PR.lt {w : World} {G : Nat → Nat} {i D : Nat} {l : List (Int × Int)} (h : PR w G i D l) : D < w.heap.size := h.elim fun _ h => h.lt

theorem lenPU (G : Nat → Nat) (i D : Nat) (l : List Int) (w : World) (hp : PU w G i D l) : Calls Tryd.prog 23 #[.pointer (some ⟨D, 0, none⟩)] w fun e w' => e = .returned (.int .i64 l.length) ∧ w = w' := by
  obtain ⟨v, h⟩ := hp
  obtain ⟨a, c, rfl⟩ := h.slice
  exact lenU_any D a _ c w h.cell
theorem needPU (G : Nat → Nat) (i D : Nat) (l : List Int) (p q : Int) (w : World) (hp : PU w G i D l) (hn : l.length ≤ 100000) (h1 : p ≤ 9223372036854775807) (h2 : q ≤ 9223372036854775807) :
    Calls Tryd.prog 55 #[.pointer (some ⟨D, 0, none⟩), .int .i64 p, .int .i64 q] w fun e w' => e = .returned (.int .i64 (needF l.length p q)) ∧ w = w' := by
  obtain ⟨v, h⟩ := hp
  obtain ⟨a, c, rfl⟩ := h.slice
  exact needU_any D a _ c p q w h.cell hn h1 h2
theorem popPU (G : Nat → Nat) (i D : Nat) (l : List Int) (x : Int) (w : World) (hp : PU w G i D (l ++ [x])) :
    Calls Tryd.prog 24 #[.pointer (some ⟨D, 0, none⟩)] w fun e w' => e = .returned (.int .u16 x) ∧ Adv (· = i) w G w' G ∧ PU w' G i D l := by
  obtain ⟨v, h⟩ := hp
  obtain ⟨a, c, rfl⟩ := h.slice
  rw [List.length_append, cellsU_append] at h
  exact (popU_some 140 G i D a l.length c (cellsU l) x w h).mono fun e w' h => ⟨h.1, h.2.1, _, h.2.2⟩
theorem popPU_nil (G : Nat → Nat) (i D : Nat) (w : World) (hp : PU w G i D []) : Calls Tryd.prog 24 #[.pointer (some ⟨D, 0, none⟩)] w fun e w' => e = .returned (.int .u16 0) ∧ w = w' := by
  obtain ⟨v, h⟩ := hp
  obtain ⟨a, c, rfl⟩ := h.slice
  exact popU_none D a c w h.cell
theorem pushPU (G : Nat → Nat) (i D : Nat) (l m : List Int) (xa : Option Addr) (n c : Nat) (w : World) (hp : PU w G i D l) (hn : m.length = n) (hroom : l.length + n ≤ 256) (hr : Reads w xa (cellsU m)) :
    Calls Tryd.prog 30 #[.pointer (some ⟨D, 0, none⟩), .slice xa n c] w fun e w' => e = .returned (.int .i64 0) ∧ ∃ G', Adv (· = i) w G w' G' ∧ PU w' G' i D (l ++ m) := by
  obtain ⟨v, h⟩ := hp
  refine (pushU_ok 140 G i D v l.length (cellsU l) xa n c (cellsU m) w h hroom (by rw [cellsU_length, hn]) hr (cellsU_one m)).mono fun e w' h => ?_
  obtain ⟨h1, G', v', h2, h3⟩ := h
  exact ⟨h1, G', h2, v', by rw [List.length_append, cellsU_append, hn]; exact h3⟩
theorem pushPU_no (G : Nat → Nat) (i D : Nat) (l : List Int) (xa : Option Addr) (n c : Nat) (w : World) (hp : PU w G i D l) (hl : l.length ≤ 256) (hn : n ≤ 9223372036854775807) (hfull : 256 < l.length + n) :
    Calls Tryd.prog 30 #[.pointer (some ⟨D, 0, none⟩), .slice xa n c] w fun e w' => e = .returned (.int .i64 2) ∧ w = w' := by
  obtain ⟨v, h⟩ := hp
  exact pushU_no 140 G i D v l.length (cellsU l) xa n c w h hl hn hfull
/-- Cells: of no cells nil; else new memory. -/
theorem cellsPU_nil (G : Nat → Nat) (i D : Nat) (w : World) (hp : PU w G i D []) : Calls Tryd.prog 26 #[.pointer (some ⟨D, 0, none⟩)] w fun e w' => e = .returned (.slice none 0 0) ∧ w = w' := by
  obtain ⟨v, h⟩ := hp
  obtain ⟨a, c, rfl⟩ := h.slice
  exact cellsU_none D a c w h.cell
theorem cellsPU (G : Nat → Nat) (i D : Nat) (l : List Int) (w : World) (hp : PU w G i D l) (h0 : l ≠ []) (h1 : l.length ≤ 1000) :
    Calls Tryd.prog 26 #[.pointer (some ⟨D, 0, none⟩)] w fun e w' => e = .returned (.slice (some ⟨w.heap.size, 0, none⟩) l.length l.length) ∧ w' = w.alloc (.cells (cellsU l).toArray 41) := by
  obtain ⟨v, h⟩ := hp
  obtain ⟨a, c, rfl⟩ := h.slice
  obtain ⟨b, o, rfl, hr, hb⟩ := h.reads.1.some (by intro e; exact h0 (by simpa [cellsU] using e))
  exact cellsU_some D _ l.length c (cellsU l) w (List.length_pos_iff.2 h0) h1 (cellsU_length l) (cellsU_one l) h.cell (Reads.add hr) hb

theorem lenPR (G : Nat → Nat) (i D : Nat) (l : List (Int × Int)) (w : World) (hp : PR w G i D l) : Calls Tryd.prog 28 #[.pointer (some ⟨D, 0, none⟩)] w fun e w' => e = .returned (.int .i64 l.length) ∧ w = w' := by
  obtain ⟨v, h⟩ := hp
  obtain ⟨a, c, rfl⟩ := h.slice
  exact lenR_any D a _ c w h.cell
theorem atPR (G : Nat → Nat) (i D : Nat) (l : List (Int × Int)) (n kind : Int) (w : World) (hp : PR w G i D l) (hm : l.length ≤ 100000) :
    Calls Tryd.prog 80 #[.pointer (some ⟨D, 0, none⟩), .int .i64 n, .int .i64 kind] w fun e w' => e = .returned (.tuple #[.int .u16 (atV l n kind), .int .i64 (atE l n kind)]) ∧ ∃ d, w' = w.drewN d := by
  obtain ⟨v, h⟩ := hp
  obtain ⟨a, c, rfl⟩ := h.slice
  exact atR_any 144 G i D a l.length c l n kind w h hm
theorem popPR_not (G : Nat → Nat) (i D : Nat) (l : List (Int × Int)) (kind : Int) (w : World) (hp : PR w G i D l) (hm : l.length ≤ 100000) (hne : (atE l 0 kind == 0) = false) :
    Calls Tryd.prog 84 #[.pointer (some ⟨D, 0, none⟩), .int .i64 kind] w fun e w' => e = .returned (.tuple #[.int .u16 (atV l 0 kind), .int .i64 (atE l 0 kind)]) ∧ ∃ d, w' = w.drewN d := by
  obtain ⟨v, h⟩ := hp
  obtain ⟨a, c, rfl⟩ := h.slice
  exact popR_not 144 G i D a l.length c l kind w h hm hne
theorem popPR (G : Nat → Nat) (i D : Nat) (l : List (Int × Int)) (c : Int × Int) (w : World) (hp : PR w G i D (l ++ [c])) (hm : l.length < 100000) :
    Calls Tryd.prog 84 #[.pointer (some ⟨D, 0, none⟩), .int .i64 c.1] w fun e w' => e = .returned (.tuple #[.int .u16 c.2, .int .i64 0]) ∧ ∃ G', Adv (· = i) w G w' G' ∧ PR w' G' i D l := by
  obtain ⟨v, h⟩ := hp
  obtain ⟨a, cap, rfl⟩ := h.slice
  rw [List.length_append] at h
  refine (popR_is 144 G i D a l.length cap l c w rfl h hm).mono fun e w' h => ?_
  obtain ⟨h1, G', h2, h3⟩ := h
  exact ⟨h1, G', h2, _, h3⟩
theorem setPR_nil (G : Nat → Nat) (i D : Nat) (x : Int) (w : World) (hp : PR w G i D []) : Calls Tryd.prog 94 #[.pointer (some ⟨D, 0, none⟩), .int .u16 x] w fun e w' => e = .returned (.tuple #[]) ∧ w = w' := by
  obtain ⟨v, h⟩ := hp
  obtain ⟨a, c, rfl⟩ := h.slice
  exact setR_none D a c x w h.cell
theorem setPR (G : Nat → Nat) (i D : Nat) (l : List (Int × Int)) (c : Int × Int) (x : Int) (w : World) (hp : PR w G i D (l ++ [c])) (hm : l.length < 100000) :
    Calls Tryd.prog 94 #[.pointer (some ⟨D, 0, none⟩), .int .u16 x] w fun e w' => e = .returned (.tuple #[]) ∧ Adv (· = i) w G w' G ∧ PR w' G i D (l ++ [(c.1, x)]) := by
  obtain ⟨v, h⟩ := hp
  obtain ⟨a, cap, rfl⟩ := h.slice
  rw [List.length_append] at h
  refine (setR_some 144 G i D a l.length cap l c x rfl hm w h).mono fun e w' h => ⟨h.1, h.2.1, _, by rw [List.length_append]; exact h.2.2⟩
theorem pushPR (G : Nat → Nat) (i D : Nat) (l m : List (Int × Int)) (xa : Option Addr) (n c : Nat) (w : World) (hp : PR w G i D l) (hn : m.length = n) (hroom : l.length + n ≤ 128) (hr : Reads w xa (cellsR m)) :
    Calls Tryd.prog 76 #[.pointer (some ⟨D, 0, none⟩), .slice xa n c] w fun e w' => e = .returned (.int .i64 0) ∧ ∃ G', Adv (· = i) w G w' G' ∧ PR w' G' i D (l ++ m) := by
  obtain ⟨v, h⟩ := hp
  refine (pushR_ok 144 G i D v l.length (cellsR l) xa n c (cellsR m) w h hroom (by rw [cellsR_length, hn]) hr (cellsR_one m)).mono fun e w' h => ?_
  obtain ⟨h1, G', v', h2, h3⟩ := h
  exact ⟨h1, G', h2, v', by rw [List.length_append, cellsR_append, hn]; exact h3⟩
theorem pushPR_no (G : Nat → Nat) (i D : Nat) (l : List (Int × Int)) (xa : Option Addr) (n c : Nat) (w : World) (hp : PR w G i D l) (hl : l.length ≤ 128) (hn : n ≤ 9223372036854775807) (hfull : 128 < l.length + n) :
    Calls Tryd.prog 76 #[.pointer (some ⟨D, 0, none⟩), .slice xa n c] w fun e w' => e = .returned (.int .i64 4) ∧ w = w' := by
  obtain ⟨v, h⟩ := hp
  exact pushR_no 144 G i D v l.length (cellsR l) xa n c w h hl hn hfull
theorem cellsPR_nil (G : Nat → Nat) (i D : Nat) (w : World) (hp : PR w G i D []) : Calls Tryd.prog 22 #[.pointer (some ⟨D, 0, none⟩)] w fun e w' => e = .returned (.slice none 0 0) ∧ w = w' := by
  obtain ⟨v, h⟩ := hp
  obtain ⟨a, c, rfl⟩ := h.slice
  exact cellsOR_none D a c w h.cell
theorem cellsPR (G : Nat → Nat) (i D : Nat) (l : List (Int × Int)) (w : World) (hp : PR w G i D l) (h0 : l ≠ []) (h1 : l.length ≤ 1000) :
    Calls Tryd.prog 22 #[.pointer (some ⟨D, 0, none⟩)] w fun e w' => e = .returned (.slice (some ⟨w.heap.size, 0, none⟩) l.length l.length) ∧ w' = w.alloc (.cells (cellsR l).toArray 59) := by
  obtain ⟨v, h⟩ := hp
  obtain ⟨a, c, rfl⟩ := h.slice
  obtain ⟨b, o, rfl, hr, hb⟩ := h.reads.1.some (by intro e; have := congrArg List.length e; rw [cellsR_length] at this; exact h0 (List.eq_nil_of_length_eq_zero (by simp only [List.length_nil] at this; omega)))
  exact cellsOR_some D _ l.length c (cellsR l) w (List.length_pos_iff.2 h0) h1 (cellsR_length l) (cellsR_one l) h.cell (Reads.add hr) hb

/-- Stacks. -/
theorem stacksP (G : Nat → Nat) (i j : Nat) (xa : Option Addr) (m c : Nat) (xs : List Int) (ya : Option Addr) (k c2 : Nat) (l : List (Int × Int)) (w : World) (hl : xs.length = m) (hm : m ≤ 256) (hx : Reads w xa (cellsU xs))
    (hlk : l.length = k) (hk : k ≤ 128) (hy : Reads w ya (cellsR l)) (hgood : ∀ c ∈ l, 1 ≤ c.1 ∧ c.1 ≤ 4) :
    Calls Tryd.prog 51 #[.slice xa m c, .slice ya k c2] w fun e w' => ∃ D R G', e = .returned (.tuple #[.pointer (some ⟨D, 0, none⟩), .pointer (some ⟨R, 0, none⟩), .int .i64 0]) ∧ Adv (fun _ => False) w G w' G' ∧ PU w' G' i D xs ∧ PR w' G' j R l := by
  refine (stacks_ok G i j xa m c (cellsU xs) ya k c2 l w hm (by rw [cellsU_length, hl]) hx (cellsU_one xs) hk hlk hy hgood).mono ?_
  rintro e w' ⟨D, R, G', vd, vr, rfl, ha, hD, hR⟩
  exact ⟨D, R, G', rfl, ha, ⟨vd, by rw [hl]; exact hD⟩, vr, by rw [hlk]; exact hR⟩
theorem stacksP_no (G : Nat → Nat) (xa : Option Addr) (m c : Nat) (xs : List Int) (ya : Option Addr) (k c2 : Nat) (l : List (Int × Int)) (w : World) (hl : xs.length = m) (hm : m ≤ 9223372036854775807) (hx : Reads w xa (cellsU xs))
    (hlk : l.length = k) (hk : k ≤ 9223372036854775807) (hy : Reads w ya (cellsR l)) (hno : 256 < m ∨ 128 < k ∨ ∃ c ∈ l, ¬ (1 ≤ c.1 ∧ c.1 ≤ 4)) :
    Calls Tryd.prog 51 #[.slice xa m c, .slice ya k c2] w fun e w' => e = .returned (.tuple #[.pointer none, .pointer none, .int .i64 2]) ∧ ∃ G', Adv (fun _ => False) w G w' G' := by
  by_cases h1 : 256 < m
  · exact stacks_noU G xa m c _ w hm h1
  · by_cases h2 : 128 < k
    · exact stacks_noR G xa m c (cellsU xs) ya k c2 w (by omega) (by rw [cellsU_length, hl]) hx (cellsU_one xs) hk h2
    · rcases hno with h | h | h
      · exact absurd h h1
      · exact absurd h h2
      · exact stacks_bad G xa m c (cellsU xs) ya k c2 l w (by omega) (by rw [cellsU_length, hl]) hx (cellsU_one xs) (by omega) hlk hy h
end Go.Proofs.YtdnalhjdmlkbmaaDoor
