/- The program's memory as a record of lists. -/
import Derived.Test.YtdnalhjdmlkbmaaDoorMemZ
import Derived.Test.YtdnalhjdmlkbmaaDoorMapI
import Derived.Test.YtdnalhjdmlkbmaaDoorRowLib
namespace Go.Proofs.YtdnalhjdmlkbmaaDoor
open Go.RowKit

/-- All that a memory holds. -/
structure MemS where
  banks : List (Int × List Int)
  ram : List Int
  screen : List Int
  chosen : Int
  pad : Int
  volume : Int
  pitch : Int
  time : Int
  cycle : Int
  tones : List (Int × Int × Int)
def tonesC (l : List (Int × Int × Int)) : List Value := l.flatMap fun t => [.int .i64 t.1, .int .u16 t.2.1, .int .u8 t.2.2]
def headC (B : Nat) (M : MemS) (tv : Value) : List Value :=
  [.map (some B)] ++ u8s M.ram ++ u8s M.screen ++ [.int .u8 M.chosen, .int .u8 M.pad, .int .u8 M.volume, .int .u16 M.pitch, .int .u16 M.time, .int .i64 M.cycle, tv]
def bankL (M : MemS) (bs : List Nat) : List (Int × Value) := List.zipWith (fun p b => (p.1, Value.pointer (some ⟨b, 0, none⟩))) M.banks bs
/-- Block D is the program's memory M: its map is block B, its banks' bytes lie in the blocks bs, its tones are tv. -/
structure PMx (w : World) (G : Nat → Nat) (i D B : Nat) (bs : List Nat) (tv : Value) (M : MemS) : Prop where
  head : ∃ C, w.heap[D]? = some (.cells C 135 (0, 0)) ∧ C.toList = headC B M tv
  hown : G D = i
  map : MapI .u8 w B (bankL M bs)
  mown : G B = i
  blen : bs.length = M.banks.length
  bank : ∀ (k : Nat) (p : Int × List Int) (b : Nat), M.banks[k]? = some p → bs[k]? = some b → (∃ C, w.heap[b]? = some (.cells C 158 (0, 0)) ∧ C.toList = u8s p.2) ∧ G b = i
  tones : Row 68 3 w G i tv M.tones.length (tonesC M.tones)
  nodup : bs.Nodup
  ne : D ∉ bs
  net : tv.ownBlock ≠ some D
  neb : ∀ b, b ∈ bs → tv.ownBlock ≠ some b
def PM (w : World) (G : Nat → Nat) (i D : Nat) (M : MemS) : Prop := ∃ B bs tv, PMx w G i D B bs tv M
theorem PMx.lt {w : World} {G : Nat → Nat} {i D B : Nat} {bs : List Nat} {tv : Value} {M : MemS} (h : PMx w G i D B bs tv M) : D < w.heap.size := by
  obtain ⟨C, h, _⟩ := h.head
  exact (Array.getElem?_eq_some_iff.1 h).1
theorem PMx.adv {w w' : World} {G G' : Nat → Nat} {i D B : Nat} {bs : List Nat} {tv : Value} {M : MemS} {S : Nat → Prop} (h : PMx w G i D B bs tv M) (ha : Adv S w G w' G') (hs : ¬ S i) : PMx w' G' i D B bs tv M := by
  refine ⟨?_, (ha.own _ h.lt).trans h.hown, h.map.of_block (ha.keep B h.map.lt (by rw [h.mown]; exact hs)), (ha.own _ h.map.lt).trans h.mown, h.blen, ?_, h.tones.adv ha hs, h.nodup, h.ne, h.net, h.neb⟩
  · obtain ⟨C, h1, h2⟩ := h.head
    exact ⟨C, (ha.keep D h.lt (by rw [h.hown]; exact hs)).trans h1, h2⟩
  · intro k p b hp hb
    obtain ⟨⟨C, h1, h2⟩, h3⟩ := h.bank k p b hp hb
    have hl : b < w.heap.size := (Array.getElem?_eq_some_iff.1 h1).1
    exact ⟨⟨C, (ha.keep b hl (by rw [h3]; exact hs)).trans h1, h2⟩, (ha.own b hl).trans h3⟩
theorem PM.adv {w w' : World} {G G' : Nat → Nat} {i D : Nat} {M : MemS} {S : Nat → Prop} (h : PM w G i D M) (ha : Adv S w G w' G') (hs : ¬ S i) : PM w' G' i D M := by
  obtain ⟨B, bs, tv, h⟩ := h
  exact ⟨B, bs, tv, h.adv ha hs⟩
/-- A new memory with banks of these bytes. -/
def newM (l : List (Int × List Int)) : MemS :=
  { banks := l.map fun p => (p.1, p.2 ++ List.replicate (16384 - p.2.length) 0), ram := List.replicate 16384 0, screen := List.replicate 3072 0, chosen := 0, pad := 0, volume := 0, pitch := 0, time := 0, cycle := 0, tones := [] }
theorem u8s_append (l m : List Int) : u8s (l ++ m) = u8s l ++ u8s m := List.map_append
theorem u8s_length (l : List Int) : (u8s l).length = l.length := List.length_map _
theorem u8s_one (l : List Int) : ∀ u ∈ u8s l, u.oneCell' = true := by
  intro u hu
  simp only [u8s, List.mem_map] at hu
  obtain ⟨x, _, rfl⟩ := hu; rfl
theorem u8s_at (l : List Int) (k : Nat) (x : Int) (h : l[k]? = some x) : (u8s l)[k]? = some (.int .u8 x) := by simp [u8s, h]
theorem head_set (B : Nat) (l m : List Int) (r : List Value) : ([Value.map none] ++ u8s (l ++ m) ++ r).set 0 (.map (some B)) = [.map (some B)] ++ u8s l ++ u8s m ++ r := by
  simp [u8s]
theorem head_new (B : Nat) : ([Value.map none] ++ u8s (List.replicate (16384 + 3072) 0) ++ ([.int .u8 0, .int .u8 0, .int .u8 0, .int .u16 0, .int .u16 0, .int .i64 0, .slice none 0 0] : List Value)).set 0 (.map (some B)) = headC B (newM []) (.slice none 0 0) := by
  rw [← List.replicate_append_replicate, head_set]
  rfl
theorem memZ_head (B : Nat) : (Tryd.zeroCells135.setIfInBounds 0 (.map (some B))).toList = headC B (newM []) (.slice none 0 0) := by
  rw [Array.toList_setIfInBounds, memZ_list]
  exact head_new B
/-- A memory without banks, just made. -/
theorem PMx.made (w : World) (G : Nat → Nat) (i : Nat) :
    PMx ((w.alloc (.map #[] 0)).alloc (.cells (Tryd.zeroCells135.setIfInBounds 0 (.map (some w.heap.size))) 135)) (own1 (w.alloc (.map #[] 0)) (own1 w G i) i) i (w.heap.size + 1) w.heap.size [] (.slice none 0 0) (newM []) := by
  refine ⟨⟨_, heap_at _ _ _ (by simp), memZ_head _⟩, by simp [own1], ?_, by simp [own1], rfl, (fun k p b h => by rw [show (newM []).banks = [] from rfl] at h; cases h), ⟨World.ownsRow_nil _ _ _ _, fun b e => by cases e⟩, List.nodup_nil, List.not_mem_nil, (fun e => by cases e), fun b h => by simp at h⟩
  exact (MapI.made .u8 w).of_block (heap_past _ _ _ (by simp))
/-- Slices of banks as they come in. -/
def BankIn (w : World) (la : Option Addr) (l : List (Int × List Int)) : Prop :=
  ∀ (k : Nat) (p : Int × List Int), l[k]? = some p → ∃ b o da dc, la = some ⟨b, o, none⟩ ∧ w.cell? ⟨b, o + k * 2, none⟩ = some (.int .i64 p.1) ∧ w.cell? ⟨b, o + k * 2 + 1, none⟩ = some (.slice da p.2.length dc) ∧ Reads w da (u8s p.2)
end Go.Proofs.YtdnalhjdmlkbmaaDoor
