/- The program's memory as a record of lists; The cells of a program's memory, one by one; Load; Cell; Store; Store into a bank; append to a row, as one step of a region that draws its order; Store at the port that plays; Store, at every address; SetCell; SetCell; Plot, Play, Choose, Pad; The arithmetic of cells; Bytes and cells are within their ranges; two bytes make a cell; mem.New; mem.New; wispref04: full, MayBanks; wispref04.New: it makes a memory (what is in it is not told here); wisplaw06.born, of cells of the data stack alone: the program's side; A desk over the two stacks and a memory, all at once; what each call leaves of it. -/
import Derived.Deep.DeepCutAuto
import Derived.Deep.RegionLaw
import Derived.Outline
import Derived.Deep.QuietTactic
import Derived.BigQuiet
import Derived.Deep.RegionHeld3
import Derived.RegionTactic
import Derived.Test.YtdnalhjdmlkbmaaDoorVmAsOneU1
set_option linter.unusedVariables false
set_option linter.unusedSimpArgs false
set_option linter.unnecessarySimpa false
namespace Go.Proofs.YtdnalhjdmlkbmaaDoor
open Go.RowKit

/-- All that a memory holds. -/
structure MemS where
  banks : List (Int × List Int)
  ram : List Int
  screen : List Int
  chosen : Int
  pad : Int
  volume : Int
  pitch : Int
  time : Int
  cycle : Int
  tones : List (Int × Int × Int)
def tonesC (l : List (Int × Int × Int)) : List Value := l.flatMap fun t => [.int .i64 t.1, .int .u16 t.2.1, .int .u8 t.2.2]
def headC (B : Nat) (M : MemS) (tv : Value) : List Value :=
  [.map (some B)] ++ u8s M.ram ++ u8s M.screen ++ [.int .u8 M.chosen, .int .u8 M.pad, .int .u8 M.volume, .int .u16 M.pitch, .int .u16 M.time, .int .i64 M.cycle, tv]
def bankL (M : MemS) (bs : List Nat) : List (Int × Value) := List.zipWith (fun p b => (p.1, Value.pointer (some ⟨b, 0, none⟩))) M.banks bs
/-- Block D is the program's memory M: its map is block B, its banks' bytes lie in the blocks bs, its tones are tv. -/
structure PMx (w : World) (G : Nat → Nat) (i D B : Nat) (bs : List Nat) (tv : Value) (M : MemS) : Prop where
  head : ∃ C, w.heap[D]? = some (.cells C 135 (0, 0)) ∧ C.toList = headC B M tv
  hown : G D = i
  map : MapI .u8 w B (bankL M bs)
  mown : G B = i
  blen : bs.length = M.banks.length
  bank : ∀ (k : Nat) (p : Int × List Int) (b : Nat), M.banks[k]? = some p → bs[k]? = some b → (∃ C, w.heap[b]? = some (.cells C 158 (0, 0)) ∧ C.toList = u8s p.2) ∧ G b = i
  tones : Row 68 3 w G i tv M.tones.length (tonesC M.tones)
  nodup : bs.Nodup
  ne : D ∉ bs
  net : tv.ownBlock ≠ some D
  neb : ∀ b, b ∈ bs → tv.ownBlock ≠ some b
def PM (w : World) (G : Nat → Nat) (i D : Nat) (M : MemS) : Prop := ∃ B bs tv, PMx w G i D B bs tv M
theorem PMx.lt {w : World} {G : Nat → Nat} {i D B : Nat} {bs : List Nat} {tv : Value} {M : MemS} (h : PMx w G i D B bs tv M) : D < w.heap.size := by
  obtain ⟨C, h, _⟩ := h.head
  exact (Array.getElem?_eq_some_iff.1 h).1
theorem PMx.adv {w w' : World} {G G' : Nat → Nat} {i D B : Nat} {bs : List Nat} {tv : Value} {M : MemS} {S : Nat → Prop} (h : PMx w G i D B bs tv M) (ha : Adv S w G w' G') (hs : ¬ S i) : PMx w' G' i D B bs tv M := by
  refine ⟨?_, (ha.own _ h.lt).trans h.hown, h.map.of_block (ha.keep B h.map.lt (by rw [h.mown]; exact hs)), (ha.own _ h.map.lt).trans h.mown, h.blen, ?_, h.tones.adv ha hs, h.nodup, h.ne, h.net, h.neb⟩
  · obtain ⟨C, h1, h2⟩ := h.head
    exact ⟨C, (ha.keep D h.lt (by rw [h.hown]; exact hs)).trans h1, h2⟩
  · intro k p b hp hb
    obtain ⟨⟨C, h1, h2⟩, h3⟩ := h.bank k p b hp hb
    have hl : b < w.heap.size := (Array.getElem?_eq_some_iff.1 h1).1
    exact ⟨⟨C, (ha.keep b hl (by rw [h3]; exact hs)).trans h1, h2⟩, (ha.own b hl).trans h3⟩
theorem PM.adv {w w' : World} {G G' : Nat → Nat} {i D : Nat} {M : MemS} {S : Nat → Prop} (h : PM w G i D M) (ha : Adv S w G w' G') (hs : ¬ S i) : PM w' G' i D M := by
  obtain ⟨B, bs, tv, h⟩ := h
  exact ⟨B, bs, tv, h.adv ha hs⟩
/-- A new memory with banks of these bytes. -/
def newM (l : List (Int × List Int)) : MemS :=
  { banks := l.map fun p => (p.1, p.2 ++ List.replicate (16384 - p.2.length) 0), ram := List.replicate 16384 0, screen := List.replicate 3072 0, chosen := 0, pad := 0, volume := 0, pitch := 0, time := 0, cycle := 0, tones := [] }
theorem u8s_append (l m : List Int) : u8s (l ++ m) = u8s l ++ u8s m := List.map_append
theorem u8s_length (l : List Int) : (u8s l).length = l.length := List.length_map _
theorem u8s_one (l : List Int) : ∀ u ∈ u8s l, u.oneCell' = true := by
  intro u hu
  simp only [u8s, List.mem_map] at hu
  obtain ⟨x, _, rfl⟩ := hu; rfl
theorem u8s_at (l : List Int) (k : Nat) (x : Int) (h : l[k]? = some x) : (u8s l)[k]? = some (.int .u8 x) := by simp [u8s, h]
theorem head_set (B : Nat) (l m : List Int) (r : List Value) : ([Value.map none] ++ u8s (l ++ m) ++ r).set 0 (.map (some B)) = [.map (some B)] ++ u8s l ++ u8s m ++ r := by
  simp [u8s]
theorem head_new (B : Nat) : ([Value.map none] ++ u8s (List.replicate (16384 + 3072) 0) ++ ([.int .u8 0, .int .u8 0, .int .u8 0, .int .u16 0, .int .u16 0, .int .i64 0, .slice none 0 0] : List Value)).set 0 (.map (some B)) = headC B (newM []) (.slice none 0 0) := by
  rw [← List.replicate_append_replicate, head_set]
  rfl
theorem memZ_head (B : Nat) : (Tryd.zeroCells135.setIfInBounds 0 (.map (some B))).toList = headC B (newM []) (.slice none 0 0) := by
  rw [Array.toList_setIfInBounds, memZ_list]
  exact head_new B
/-- A memory without banks, just made. -/
theorem PMx.made (w : World) (G : Nat → Nat) (i : Nat) :
    PMx ((w.alloc (.map #[] 0)).alloc (.cells (Tryd.zeroCells135.setIfInBounds 0 (.map (some w.heap.size))) 135)) (own1 (w.alloc (.map #[] 0)) (own1 w G i) i) i (w.heap.size + 1) w.heap.size [] (.slice none 0 0) (newM []) := by
  refine ⟨⟨_, heap_at _ _ _ (by simp), memZ_head _⟩, by simp [own1], ?_, by simp [own1], rfl, (fun k p b h => by rw [show (newM []).banks = [] from rfl] at h; cases h), ⟨World.ownsRow_nil _ _ _ _, fun b e => by cases e⟩, List.nodup_nil, List.not_mem_nil, (fun e => by cases e), fun b h => by simp at h⟩
  exact (MapI.made .u8 w).of_block (heap_past _ _ _ (by simp))
/-- Slices of banks as they come in. -/
def BankIn (w : World) (la : Option Addr) (l : List (Int × List Int)) : Prop :=
  ∀ (k : Nat) (p : Int × List Int), l[k]? = some p → ∃ b o da dc, la = some ⟨b, o, none⟩ ∧ w.cell? ⟨b, o + k * 2, none⟩ = some (.int .i64 p.1) ∧ w.cell? ⟨b, o + k * 2 + 1, none⟩ = some (.slice da p.2.length dc) ∧ Reads w da (u8s p.2)
end Go.Proofs.YtdnalhjdmlkbmaaDoor
namespace Go.Proofs.YtdnalhjdmlkbmaaDoor
open Go.RowKit

/-- A memory's parts have their sizes. -/
structure MemOk (M : MemS) : Prop where
  ram : M.ram.length = 16384
  screen : M.screen.length = 3072
  banks : ∀ p ∈ M.banks, p.2.length = 16384
theorem head_ram (B : Nat) (M : MemS) (tv : Value) (hm : MemOk M) (k : Nat) (hk : k < 16384) : (headC B M tv)[1 + k]? = some (.int .u8 (M.ram.getD k 0)) := by
  have h : (M.ram)[k]? = some (M.ram.getD k 0) := by rw [List.getD_eq_getElem?_getD]; simp [hm.ram, hk]
  unfold headC
  rw [List.append_assoc, List.append_assoc, List.getElem?_append_right (by simp), List.getElem?_append_left (by simp [u8s_length, hm.ram, hk])]
  simpa using u8s_at _ k _ h
theorem head_screen (B : Nat) (M : MemS) (tv : Value) (hm : MemOk M) (k : Nat) (hk : k < 3072) : (headC B M tv)[16385 + k]? = some (.int .u8 (M.screen.getD k 0)) := by
  have h : (M.screen)[k]? = some (M.screen.getD k 0) := by rw [List.getD_eq_getElem?_getD]; simp [hm.screen, hk]
  unfold headC
  rw [List.append_assoc, List.getElem?_append_right (by simp [u8s_length, hm.ram]), List.getElem?_append_left (by simp [u8s_length, hm.ram, hm.screen, hk])]
  have e : 16385 + k - ([Value.map (some B)] ++ u8s M.ram).length = k := by simp [u8s_length, hm.ram]
  rw [e]
  exact u8s_at _ k _ h
theorem head_tail (B : Nat) (M : MemS) (tv : Value) (hm : MemOk M) (k : Nat) : (headC B M tv)[19457 + k]? = ([.int .u8 M.chosen, .int .u8 M.pad, .int .u8 M.volume, .int .u16 M.pitch, .int .u16 M.time, .int .i64 M.cycle, tv] : List Value)[k]? := by
  unfold headC
  rw [List.getElem?_append_right (by simp [u8s_length, hm.ram, hm.screen])]
  have e : 19457 + k - ([Value.map (some B)] ++ u8s M.ram ++ u8s M.screen).length = k := by simp [u8s_length, hm.ram, hm.screen]
  rw [e]
theorem PMx.cell {w : World} {G : Nat → Nat} {i D B : Nat} {bs : List Nat} {tv : Value} {M : MemS} (h : PMx w G i D B bs tv M) (j : Nat) (v : Value) (hv : (headC B M tv)[j]? = some v) : w.cell? ⟨D, j, none⟩ = some v := by
  obtain ⟨C, h1, h2⟩ := h.head
  exact block_cell h1 j v (by rw [← Array.getElem?_toList, h2]; exact hv)
theorem PMx.free {w : World} {G : Nat → Nat} {i D B : Nat} {bs : List Nat} {tv : Value} {M : MemS} (h : PMx w G i D B bs tv M) (j : Nat) : w.frozen? ⟨D, j, none⟩ = false := by
  obtain ⟨C, h1, h2⟩ := h.head
  exact block_free h1 j
theorem PMx.mapc {w : World} {G : Nat → Nat} {i D B : Nat} {bs : List Nat} {tv : Value} {M : MemS} (h : PMx w G i D B bs tv M) : w.cell? ⟨D, 0, none⟩ = some (.map (some B)) := h.cell 0 _ rfl
theorem PMx.ramc {w : World} {G : Nat → Nat} {i D B : Nat} {bs : List Nat} {tv : Value} {M : MemS} (h : PMx w G i D B bs tv M) (hm : MemOk M) (k : Nat) (hk : k < 16384) : w.cell? ⟨D, 1 + k, none⟩ = some (.int .u8 (M.ram.getD k 0)) := h.cell _ _ (head_ram B M tv hm k hk)
theorem PMx.screenc {w : World} {G : Nat → Nat} {i D B : Nat} {bs : List Nat} {tv : Value} {M : MemS} (h : PMx w G i D B bs tv M) (hm : MemOk M) (k : Nat) (hk : k < 3072) : w.cell? ⟨D, 16385 + k, none⟩ = some (.int .u8 (M.screen.getD k 0)) := h.cell _ _ (head_screen B M tv hm k hk)
theorem PMx.ports {w : World} {G : Nat → Nat} {i D B : Nat} {bs : List Nat} {tv : Value} {M : MemS} (h : PMx w G i D B bs tv M) (hm : MemOk M) :
    w.cell? ⟨D, 19457, none⟩ = some (.int .u8 M.chosen) ∧ w.cell? ⟨D, 19458, none⟩ = some (.int .u8 M.pad) ∧ w.cell? ⟨D, 19459, none⟩ = some (.int .u8 M.volume) ∧ w.cell? ⟨D, 19460, none⟩ = some (.int .u16 M.pitch) ∧ w.cell? ⟨D, 19461, none⟩ = some (.int .u16 M.time) ∧ w.cell? ⟨D, 19462, none⟩ = some (.int .i64 M.cycle) ∧ w.cell? ⟨D, 19463, none⟩ = some tv :=
  ⟨h.cell _ _ (head_tail B M tv hm 0), h.cell _ _ (head_tail B M tv hm 1), h.cell _ _ (head_tail B M tv hm 2), h.cell _ _ (head_tail B M tv hm 3), h.cell _ _ (head_tail B M tv hm 4), h.cell _ _ (head_tail B M tv hm 5), h.cell _ _ (head_tail B M tv hm 6)⟩
/-- A new memory has its sizes, where no bank is too long. -/
theorem newM_ok (l : List (Int × List Int)) (h : ∀ p ∈ l, p.2.length ≤ 16384) : MemOk (newM l) := by
  refine ⟨List.length_replicate, List.length_replicate, fun p hp => ?_⟩
  have hp' : p ∈ l.map fun p => (p.1, p.2 ++ List.replicate (16384 - p.2.length) 0) := hp
  simp only [List.mem_map] at hp'
  obtain ⟨q, hq, rfl⟩ := hp'
  have := h q hq
  rw [List.length_append, List.length_replicate]; omega
end Go.Proofs.YtdnalhjdmlkbmaaDoor
namespace Go.Proofs.YtdnalhjdmlkbmaaDoor
open Go.RowKit

def bankF : List (Int × List Int) → Int → Option (List Int)
  | [], _ => none
  | p :: l, c => if p.1 = c then some p.2 else bankF l c
def portF (M : MemS) (a : Int) : Int :=
  if a = 65280 then M.chosen else if a = 65282 then M.pad else if a = 65284 then IntKind.wrap .u8 M.pitch else if a = 65285 then IntKind.wrap .u8 (M.pitch / 256)
  else if a = 65286 then M.volume else if a = 65288 then IntKind.wrap .u8 M.time else if a = 65289 then IntKind.wrap .u8 (M.time / 256) else 0
def loadF (M : MemS) (a : Int) : Int :=
  if a < 16384 then 0 else if a < 32768 then ((bankF M.banks M.chosen).getD []).getD (a - 16384).toNat 0
  else if a < 49152 then M.ram.getD (a - 32768).toNat 0 else if a < 52224 then M.screen.getD (a - 49152).toNat 0 else portF M a
theorem load_low (D : Nat) (M : MemS) (a : Int) (h : a < 16384) (w : World) : Calls Tryd.prog 123 #[.pointer (some ⟨D, 0, none⟩), .int .u16 a] w fun e w' => e = .returned (.int .u8 (loadF M a)) ∧ w = w' := by
  have hv : loadF M a = 0 := if_pos h
  rw [hv]
  have b1 : decide (a < 16384) = true := by simpa using h
  go_enter Tryd.func123, Tryd.ntmps123
  go_wp2
  go_ret
  exact ⟨rfl, rfl⟩
theorem load_ram (G : Nat → Nat) (i D B : Nat) (bs : List Nat) (tv : Value) (M : MemS) (hm : MemOk M) (k : Nat) (hk : k < 16384) (w : World) (hp : PMx w G i D B bs tv M) : Calls Tryd.prog 123 #[.pointer (some ⟨D, 0, none⟩), .int .u16 (32768 + (k : Int))] w fun e w' => e = .returned (.int .u8 (loadF M (32768 + (k : Int)))) ∧ w = w' := by
  have hv : loadF M (32768 + (k : Int)) = M.ram.getD k 0 := by
    unfold loadF
    rw [if_neg (by omega), if_neg (by omega), if_pos (by omega), show (32768 + (k : Int) - 32768).toNat = k from by omega]
  rw [hv]
  have b1 : decide (32768 + (k : Int) < 16384) = false := by simp; omega
  have b2 : decide (32768 + (k : Int) < 32768) = false := by simp; omega
  have b3 : decide (32768 + (k : Int) < 49152) = true := by simp; omega
  have c1 := hp.ramc hm k hk
  clear hv hp
  go_enter Tryd.func123, Tryd.ntmps123
  go_wp2
  go_ret
  exact ⟨by simp, rfl⟩
theorem load_screen (G : Nat → Nat) (i D B : Nat) (bs : List Nat) (tv : Value) (M : MemS) (hm : MemOk M) (k : Nat) (hk : k < 3072) (w : World) (hp : PMx w G i D B bs tv M) : Calls Tryd.prog 123 #[.pointer (some ⟨D, 0, none⟩), .int .u16 (49152 + (k : Int))] w fun e w' => e = .returned (.int .u8 (loadF M (49152 + (k : Int)))) ∧ w = w' := by
  have hv : loadF M (49152 + (k : Int)) = M.screen.getD k 0 := by
    unfold loadF
    rw [if_neg (by omega), if_neg (by omega), if_neg (by omega), if_pos (by omega), show (49152 + (k : Int) - 49152).toNat = k from by omega]
  rw [hv]
  have b1 : decide (49152 + (k : Int) < 16384) = false := by simp; omega
  have b2 : decide (49152 + (k : Int) < 32768) = false := by simp; omega
  have b3 : decide (49152 + (k : Int) < 49152) = false := by simp; omega
  have b4 : decide (49152 + (k : Int) < 52224) = true := by simp; omega
  have c1 := hp.screenc hm k hk
  clear hv hp
  go_enter Tryd.func123, Tryd.ntmps123
  go_wp2
  go_ret
  exact ⟨by simp, rfl⟩
theorem load_65280 (G : Nat → Nat) (i D B : Nat) (bs : List Nat) (tv : Value) (M : MemS) (hm : MemOk M) (w : World) (hp : PMx w G i D B bs tv M) : Calls Tryd.prog 123 #[.pointer (some ⟨D, 0, none⟩), .int .u16 65280] w fun e w' => e = .returned (.int .u8 (loadF M 65280)) ∧ w = w' := by
  obtain ⟨c0, c1, c2, c3, c4, -, -⟩ := hp.ports hm
  have hv : loadF M 65280 = M.chosen := rfl
  rw [hv]
  clear hv hp
  go_enter Tryd.func123, Tryd.ntmps123
  go_wp2
  go_ret
  exact ⟨rfl, rfl⟩
theorem load_65282 (G : Nat → Nat) (i D B : Nat) (bs : List Nat) (tv : Value) (M : MemS) (hm : MemOk M) (w : World) (hp : PMx w G i D B bs tv M) : Calls Tryd.prog 123 #[.pointer (some ⟨D, 0, none⟩), .int .u16 65282] w fun e w' => e = .returned (.int .u8 (loadF M 65282)) ∧ w = w' := by
  obtain ⟨c0, c1, c2, c3, c4, -, -⟩ := hp.ports hm
  have hv : loadF M 65282 = M.pad := rfl
  rw [hv]
  clear hv hp
  go_enter Tryd.func123, Tryd.ntmps123
  go_wp2
  go_ret
  exact ⟨rfl, rfl⟩
theorem load_65284 (G : Nat → Nat) (i D B : Nat) (bs : List Nat) (tv : Value) (M : MemS) (hm : MemOk M) (w : World) (hp : PMx w G i D B bs tv M) : Calls Tryd.prog 123 #[.pointer (some ⟨D, 0, none⟩), .int .u16 65284] w fun e w' => e = .returned (.int .u8 (loadF M 65284)) ∧ w = w' := by
  obtain ⟨c0, c1, c2, c3, c4, -, -⟩ := hp.ports hm
  have hv : loadF M 65284 = IntKind.wrap .u8 M.pitch := rfl
  rw [hv]
  clear hv hp
  go_enter Tryd.func123, Tryd.ntmps123
  go_wp2
  go_ret
  exact ⟨rfl, rfl⟩
theorem load_65285 (G : Nat → Nat) (i D B : Nat) (bs : List Nat) (tv : Value) (M : MemS) (hm : MemOk M) (w : World) (hp : PMx w G i D B bs tv M) : Calls Tryd.prog 123 #[.pointer (some ⟨D, 0, none⟩), .int .u16 65285] w fun e w' => e = .returned (.int .u8 (loadF M 65285)) ∧ w = w' := by
  obtain ⟨c0, c1, c2, c3, c4, -, -⟩ := hp.ports hm
  have hv : loadF M 65285 = IntKind.wrap .u8 (M.pitch / 256) := rfl
  rw [hv]
  clear hv hp
  go_enter Tryd.func123, Tryd.ntmps123
  go_wp2
  go_ret
  exact ⟨rfl, rfl⟩
theorem load_65286 (G : Nat → Nat) (i D B : Nat) (bs : List Nat) (tv : Value) (M : MemS) (hm : MemOk M) (w : World) (hp : PMx w G i D B bs tv M) : Calls Tryd.prog 123 #[.pointer (some ⟨D, 0, none⟩), .int .u16 65286] w fun e w' => e = .returned (.int .u8 (loadF M 65286)) ∧ w = w' := by
  obtain ⟨c0, c1, c2, c3, c4, -, -⟩ := hp.ports hm
  have hv : loadF M 65286 = M.volume := rfl
  rw [hv]
  clear hv hp
  go_enter Tryd.func123, Tryd.ntmps123
  go_wp2
  go_ret
  exact ⟨rfl, rfl⟩
theorem load_65288 (G : Nat → Nat) (i D B : Nat) (bs : List Nat) (tv : Value) (M : MemS) (hm : MemOk M) (w : World) (hp : PMx w G i D B bs tv M) : Calls Tryd.prog 123 #[.pointer (some ⟨D, 0, none⟩), .int .u16 65288] w fun e w' => e = .returned (.int .u8 (loadF M 65288)) ∧ w = w' := by
  obtain ⟨c0, c1, c2, c3, c4, -, -⟩ := hp.ports hm
  have hv : loadF M 65288 = IntKind.wrap .u8 M.time := rfl
  rw [hv]
  clear hv hp
  go_enter Tryd.func123, Tryd.ntmps123
  go_wp2
  go_ret
  exact ⟨rfl, rfl⟩
theorem load_65289 (G : Nat → Nat) (i D B : Nat) (bs : List Nat) (tv : Value) (M : MemS) (hm : MemOk M) (w : World) (hp : PMx w G i D B bs tv M) : Calls Tryd.prog 123 #[.pointer (some ⟨D, 0, none⟩), .int .u16 65289] w fun e w' => e = .returned (.int .u8 (loadF M 65289)) ∧ w = w' := by
  obtain ⟨c0, c1, c2, c3, c4, -, -⟩ := hp.ports hm
  have hv : loadF M 65289 = IntKind.wrap .u8 (M.time / 256) := rfl
  rw [hv]
  clear hv hp
  go_enter Tryd.func123, Tryd.ntmps123
  go_wp2
  go_ret
  exact ⟨rfl, rfl⟩
/-- The bank of a number, as the map has it. -/
theorem zip_find : ∀ (l : List (Int × List Int)) (bs : List Nat), bs.length = l.length → ∀ c : Int,
    (bankF l c = none ∧ valI (List.zipWith (fun (p : Int × List Int) (b : Nat) => (p.1, Value.pointer (some ⟨b, 0, none⟩))) l bs) c = none) ∨
    ∃ (k : Nat) (p : Int × List Int) (b : Nat), l[k]? = some p ∧ bs[k]? = some b ∧ p.1 = c ∧ bankF l c = some p.2 ∧ valI (List.zipWith (fun (p : Int × List Int) (b : Nat) => (p.1, Value.pointer (some ⟨b, 0, none⟩))) l bs) c = some (.pointer (some ⟨b, 0, none⟩))
  | [], _, _, _ => .inl ⟨rfl, rfl⟩
  | _ :: _, [], h, _ => by simp at h
  | p :: l, b :: bs, h, c => by
    by_cases e : p.1 = c
    · exact .inr ⟨0, p, b, rfl, rfl, e, by simp [bankF, e], by simp [valI, e]⟩
    · rcases zip_find l bs (by simpa using h) c with ⟨h1, h2⟩ | ⟨k, q, d, h1, h2, h3, h4, h5⟩
      · exact .inl ⟨by simp [bankF, e, h1], by simp only [List.zipWith_cons_cons, valI, if_neg e]; exact h2⟩
      · exact .inr ⟨k + 1, q, d, by rw [List.getElem?_cons_succ]; exact h1, by rw [List.getElem?_cons_succ]; exact h2, h3, by simp [bankF, e, h4], by simp only [List.zipWith_cons_cons, valI, if_neg e]; exact h5⟩
theorem load_none (D : Nat) (M : MemS) (a : Int) (h1 : 52224 ≤ a) (h9 : a < 65536) (hn : portF M a = 0) (n1 : a ≠ 65280) (n2 : a ≠ 65282) (n3 : a ≠ 65284) (n4 : a ≠ 65285) (n5 : a ≠ 65286) (n6 : a ≠ 65288) (n7 : a ≠ 65289) (w : World) :
    Calls Tryd.prog 123 #[.pointer (some ⟨D, 0, none⟩), .int .u16 a] w fun e w' => e = .returned (.int .u8 (loadF M a)) ∧ w = w' := by
  have hv : loadF M a = 0 := by
    unfold loadF
    rw [if_neg (by omega), if_neg (by omega), if_neg (by omega), if_neg (by omega), hn]
  rw [hv]
  have b1 : decide (a < 16384) = false := by simp; omega
  have b2 : decide (a < 32768) = false := by simp; omega
  have b3 : decide (a < 49152) = false := by simp; omega
  have b4 : decide (a < 52224) = false := by simp; omega
  have d1 : (a == 65280) = false := by simpa using n1
  have d2 : (a == 65282) = false := by simpa using n2
  have d3 : (a == 65284) = false := by simpa using n3
  have d4 : (a == 65285) = false := by simpa using n4
  have d5 : (a == 65286) = false := by simpa using n5
  have d6 : (a == 65288) = false := by simpa using n6
  have d7 : (a == 65289) = false := by simpa using n7
  have h0 : 0 ≤ a := by omega
  clear hv hn
  go_enter Tryd.func123, Tryd.ntmps123
  go_wp2
  go_ret
  exact ⟨rfl, rfl⟩
set_option maxRecDepth 100000 in
theorem load_window (G : Nat → Nat) (i D B : Nat) (bs : List Nat) (tv : Value) (M : MemS) (hm : MemOk M) (k : Nat) (hk : k < 16384) (w : World) (hp : PMx w G i D B bs tv M) : Calls Tryd.prog 123 #[.pointer (some ⟨D, 0, none⟩), .int .u16 (16384 + (k : Int))] w fun e w' => e = .returned (.int .u8 (loadF M (16384 + (k : Int)))) ∧ ∃ d, w' = w.drewN d := by
  have hv : loadF M (16384 + (k : Int)) = ((bankF M.banks M.chosen).getD []).getD k 0 := by
    unfold loadF
    rw [if_neg (by omega), if_pos (by omega), show (16384 + (k : Int) - 16384).toNat = k from by omega]
  rw [hv]
  have b1 : decide (16384 + (k : Int) < 16384) = false := by simp; omega
  have b2 : decide (16384 + (k : Int) < 32768) = true := by simp; omega
  have c0 := hp.mapc
  obtain ⟨c3, -⟩ := hp.ports hm
  rcases zip_find M.banks bs hp.blen M.chosen with ⟨h1, h2⟩ | ⟨j, p, b, h1, h2, h3, h4, h5⟩
  · rw [h1]
    have hl : ∀ q, (Instr.lookup 130 (.map (some B)) (.int .u8 M.chosen) true).run Tryd.prog (w.drewN q) = .ok (.tuple #[.pointer none, .bool false]) (w.drewN q) := fun q =>
      lookup_I_no (w := w.drewN q) (z := .pointer none) Tryd.underlying130 Tryd.underlying5 (by kernel_rfl) (hp.adv ((Adv.refl (fun _ => False) w G).drewN q) id).map M.chosen h2
    have hl1 : (Instr.lookup 130 (.map (some B)) (.int .u8 M.chosen) true).run Tryd.prog w.drew = .ok (.tuple #[.pointer none, .bool false]) w.drew := hl 1
    clear hl
    clear hv hp h1 h2
    go_enter Tryd.func123, Tryd.ntmps123
    go_upto_region 6 with fail
    go_region
    go_wp2
    go_ret
    exact ⟨by simp, 1, rfl⟩
  · rw [h4]
    have hl1 : (Instr.lookup 130 (.map (some B)) (.int .u8 M.chosen) true).run Tryd.prog w.drew = .ok (.tuple #[.pointer (some ⟨b, 0, none⟩), .bool true]) w.drew :=
      lookup_I (w := w.drew) Tryd.underlying130 Tryd.underlying5 (hp.adv ((Adv.refl (fun _ => False) w G).drew) id).map M.chosen _ h5
    obtain ⟨⟨C, hC, hCl⟩, hb⟩ := hp.bank j p b h1 h2
    have hlen : p.2.length = 16384 := hm.banks p (List.mem_of_getElem? h1)
    have cb : w.cell? ⟨b, k, none⟩ = some (.int .u8 (p.2.getD k 0)) := block_cell hC k _ (by
      rw [← Array.getElem?_toList, hCl]
      exact u8s_at _ k _ (by rw [List.getD_eq_getElem?_getD]; simp [hlen, hk]))
    clear hv hp h1 h2 h3 h4 h5 hC hCl hb
    go_enter Tryd.func123, Tryd.ntmps123
    go_upto_region 6 with fail
    go_region
    go_wp2
    go_ret
    exact ⟨by simp [hlen, hk], 1, rfl⟩
/-- Load, at every address. -/
theorem load_any (G : Nat → Nat) (i D : Nat) (M : MemS) (hm : MemOk M) (a : Int) (h0 : 0 ≤ a) (h9 : a < 65536) (w : World) (hp : PM w G i D M) :
    Calls Tryd.prog 123 #[.pointer (some ⟨D, 0, none⟩), .int .u16 a] w fun e w' => e = .returned (.int .u8 (loadF M a)) ∧ ∃ d, w' = w.drewN d := by
  obtain ⟨B, bs, tv, hp⟩ := hp
  have z : ∀ {e : Ending} {v : Value} {w' : World}, e = .returned v ∧ w = w' → e = .returned v ∧ ∃ d, w' = w.drewN d := fun h => ⟨h.1, 0, h.2.symm⟩
  by_cases c1 : a < 16384
  · exact (load_low D M a c1 w).mono fun _ _ h => z h
  by_cases c2 : a < 32768
  · obtain ⟨k, rfl⟩ : ∃ k : Nat, a = 16384 + (k : Int) := ⟨(a - 16384).toNat, by omega⟩
    exact load_window G i D B bs tv M hm k (by omega) w hp
  by_cases c3 : a < 49152
  · obtain ⟨k, rfl⟩ : ∃ k : Nat, a = 32768 + (k : Int) := ⟨(a - 32768).toNat, by omega⟩
    exact (load_ram G i D B bs tv M hm k (by omega) w hp).mono fun _ _ h => z h
  by_cases c4 : a < 52224
  · obtain ⟨k, rfl⟩ : ∃ k : Nat, a = 49152 + (k : Int) := ⟨(a - 49152).toNat, by omega⟩
    exact (load_screen G i D B bs tv M hm k (by omega) w hp).mono fun _ _ h => z h
  by_cases n1 : a = 65280
  · subst n1; exact (load_65280 G i D B bs tv M hm w hp).mono fun _ _ h => z h
  by_cases n2 : a = 65282
  · subst n2; exact (load_65282 G i D B bs tv M hm w hp).mono fun _ _ h => z h
  by_cases n3 : a = 65284
  · subst n3; exact (load_65284 G i D B bs tv M hm w hp).mono fun _ _ h => z h
  by_cases n4 : a = 65285
  · subst n4; exact (load_65285 G i D B bs tv M hm w hp).mono fun _ _ h => z h
  by_cases n5 : a = 65286
  · subst n5; exact (load_65286 G i D B bs tv M hm w hp).mono fun _ _ h => z h
  by_cases n6 : a = 65288
  · subst n6; exact (load_65288 G i D B bs tv M hm w hp).mono fun _ _ h => z h
  by_cases n7 : a = 65289
  · subst n7; exact (load_65289 G i D B bs tv M hm w hp).mono fun _ _ h => z h
  exact (load_none D M a (by omega) h9 (by simp [portF, n1, n2, n3, n4, n5, n6, n7]) n1 n2 n3 n4 n5 n6 n7 w).mono fun _ _ h => z h
end Go.Proofs.YtdnalhjdmlkbmaaDoor
namespace Go.Proofs.YtdnalhjdmlkbmaaDoor
open Go.RowKit

def nextA (a : Int) : Int := IntKind.wrap .u16 (a + 1)
theorem nextA_lo (a : Int) : 0 ≤ nextA a ∧ nextA a < 65536 := by
  unfold nextA IntKind.wrap
  simp [IntKind.bits, IntKind.signed]
  omega
/-- Cell's answer. -/
def cellF (M : MemS) (a : Int) : Int := bits BinOp.or .u16 (IntKind.wrap .u16 (loadF M a)) (IntKind.wrap .u16 (IntKind.wrap .u16 (loadF M (nextA a)) * 256))
theorem cell_any (G : Nat → Nat) (i D : Nat) (M : MemS) (hm : MemOk M) (a : Int) (h0 : 0 ≤ a) (h9 : a < 65536) (w : World) (hp : PM w G i D M) :
    Calls Tryd.prog 121 #[.pointer (some ⟨D, 0, none⟩), .int .u16 a] w fun e w' => e = .returned (.int .u16 (cellF M a)) ∧ ∃ d, w' = w.drewN d := by
  have HP := Lib.hid hp
  clear hp
  go_enter Tryd.func121, Tryd.ntmps121
  go_wp2_with fail
  refine (load_any G i D M hm a h0 h9 _ HP.out).mono ?_
  rintro e w' ⟨rfl, d, rfl⟩
  go_wp2_with fail
  refine (load_any G i D M hm (IntKind.wrap .u16 (a + 1)) (nextA_lo a).1 (nextA_lo a).2 _ (HP.out.adv ((Adv.refl (fun _ => False) w G).drewN d) id)).mono ?_
  rintro e w' ⟨rfl, d2, rfl⟩
  go_wp2_with fail
  go_ret
  exact ⟨rfl, d + d2, rfl⟩
end Go.Proofs.YtdnalhjdmlkbmaaDoor
namespace Go.Proofs.YtdnalhjdmlkbmaaDoor
open Go.RowKit

/-- One cell of the memory's own block is written. -/
theorem PMx.setHead {w : World} {G : Nat → Nat} {i D B : Nat} {bs : List Nat} {tv : Value} {M M' : MemS} (h : PMx w G i D B bs tv M) (j : Nat) (v : Value)
    (hh : (headC B M tv).set j v = headC B M' tv) (hb : M'.banks = M.banks) (ht : M'.tones = M.tones) : PMx (w.setCell ⟨D, j, none⟩ v) G i D B bs tv M' := by
  have hBD : B ≠ D := by
    intro e
    obtain ⟨es, clk, h1, _⟩ := h.map
    obtain ⟨C, h2, _⟩ := h.head
    rw [e, h2] at h1
    cases h1
  refine ⟨?_, h.hown, ?_, h.mown, by rw [hb]; exact h.blen, ?_, ?_, h.nodup, h.ne, h.net, h.neb⟩
  · obtain ⟨C, h1, h2⟩ := h.head
    refine ⟨C.setIfInBounds j v, ?_, ?_⟩
    · simp only [World.setCell, Array.getElem?_modify, h1]; simp
    · rw [Array.toList_setIfInBounds, h2, hh]
  · unfold bankL
    rw [hb]
    exact h.map.of_block (Below.heap_setCell _ _ _ _ hBD)
  · intro k p b hp hbk
    rw [hb] at hp
    obtain ⟨⟨C, h1, h2⟩, h3⟩ := h.bank k p b hp hbk
    refine ⟨⟨C, (Below.heap_setCell _ _ _ _ ?_).trans h1, h2⟩, h3⟩
    intro e
    exact h.ne (by have := List.mem_of_getElem? hbk; rw [show b = D from e] at this; exact this)
  · rw [ht]
    have hrow := h.tones
    exact ⟨ownsRow_of_block hrow.row fun b e => Below.heap_setCell _ _ _ _ (fun e2 => h.net (by rw [e]; exact congrArg some e2)), hrow.own⟩
theorem head_setRam (B : Nat) (M : MemS) (tv : Value) (hm : MemOk M) (k : Nat) (hk : k < 16384) (x : Int) : (headC B M tv).set (1 + k) (.int .u8 x) = headC B { M with ram := M.ram.set k x } tv := by
  unfold headC
  rw [List.append_assoc, List.append_assoc, List.set_append_right _ _ (by simp), List.set_append_left _ _ (by simp [u8s_length, hm.ram, hk])]
  simp [u8s, List.map_set]
theorem head_setScreen (B : Nat) (M : MemS) (tv : Value) (hm : MemOk M) (k : Nat) (hk : k < 3072) (x : Int) : (headC B M tv).set (16385 + k) (.int .u8 x) = headC B { M with screen := M.screen.set k x } tv := by
  unfold headC
  rw [List.append_assoc, List.set_append_right _ _ (by simp [u8s_length, hm.ram]), List.set_append_left _ _ (by simp [u8s_length, hm.ram, hm.screen, hk])]
  have e : 16385 + k - ([Value.map (some B)] ++ u8s M.ram).length = k := by simp [u8s_length, hm.ram]
  rw [e]
  simp [u8s, List.map_set]
theorem head_setTail (B : Nat) (M : MemS) (tv : Value) (hm : MemOk M) (k : Nat) (v : Value) : (headC B M tv).set (19457 + k) v = [.map (some B)] ++ u8s M.ram ++ u8s M.screen ++ ([.int .u8 M.chosen, .int .u8 M.pad, .int .u8 M.volume, .int .u16 M.pitch, .int .u16 M.time, .int .i64 M.cycle, tv] : List Value).set k v := by
  unfold headC
  rw [List.set_append_right _ _ (by simp [u8s_length, hm.ram, hm.screen])]
  have e : 19457 + k - ([Value.map (some B)] ++ u8s M.ram ++ u8s M.screen).length = k := by simp [u8s_length, hm.ram, hm.screen]
  rw [e]
theorem store_ram (G : Nat → Nat) (i D : Nat) (M : MemS) (hm : MemOk M) (k : Nat) (hk : k < 16384) (x : Int) (w : World) (hp : PM w G i D M) :
    Calls Tryd.prog 124 #[.pointer (some ⟨D, 0, none⟩), .int .u16 (32768 + (k : Int)), .int .u8 x] w fun e w' => e = .returned (.tuple #[]) ∧ Adv (fun o => o = i) w G w' G ∧ PM w' G i D { M with ram := M.ram.set k x } := by
  obtain ⟨B, bs, tv, hp⟩ := hp
  have b1 : decide (32768 + (k : Int) < 16384) = false := by simp; omega
  have b2 : decide (32768 + (k : Int) < 32768) = false := by simp; omega
  have b3 : decide (32768 + (k : Int) < 49152) = true := by simp; omega
  have c1 := hp.ramc hm k hk
  have f1 := hp.free
  have HS := Lib.hid (And.intro ((Adv.refl (fun o => o = i) w G).setCell (p := ⟨D, 1 + k, none⟩) hp.hown (.int .u8 x)) (show PM (w.setCell ⟨D, 1 + k, none⟩ (.int .u8 x)) G i D _ from ⟨B, bs, tv, hp.setHead (1 + k) (.int .u8 x) (head_setRam B M tv hm k hk x) rfl rfl⟩))
  clear hp
  go_enter Tryd.func124, Tryd.ntmps124
  go_wp2
  refine bodyPost_ret (results_none rfl _ _ _) rfl ?_
  exact ⟨rfl, HS.out.1, HS.out.2⟩
theorem store_screen (G : Nat → Nat) (i D : Nat) (M : MemS) (hm : MemOk M) (k : Nat) (hk : k < 3072) (x : Int) (w : World) (hp : PM w G i D M) :
    Calls Tryd.prog 124 #[.pointer (some ⟨D, 0, none⟩), .int .u16 (49152 + (k : Int)), .int .u8 x] w fun e w' => e = .returned (.tuple #[]) ∧ Adv (fun o => o = i) w G w' G ∧ PM w' G i D { M with screen := M.screen.set k x } := by
  obtain ⟨B, bs, tv, hp⟩ := hp
  have b1 : decide (49152 + (k : Int) < 16384) = false := by simp; omega
  have b2 : decide (49152 + (k : Int) < 32768) = false := by simp; omega
  have b3 : decide (49152 + (k : Int) < 49152) = false := by simp; omega
  have b4 : decide (49152 + (k : Int) < 52224) = true := by simp; omega
  have c1 := hp.screenc hm k hk
  have f1 := hp.free
  have HS := Lib.hid (And.intro ((Adv.refl (fun o => o = i) w G).setCell (p := ⟨D, 16385 + k, none⟩) hp.hown (.int .u8 x)) (show PM (w.setCell ⟨D, 16385 + k, none⟩ (.int .u8 x)) G i D _ from ⟨B, bs, tv, hp.setHead (16385 + k) (.int .u8 x) (head_setScreen B M tv hm k hk x) rfl rfl⟩))
  clear hp
  go_enter Tryd.func124, Tryd.ntmps124
  go_wp2
  refine bodyPost_ret (results_none rfl _ _ _) rfl ?_
  exact ⟨rfl, HS.out.1, HS.out.2⟩
theorem store_low (D : Nat) (a x : Int) (h : a < 16384) (w : World) : Calls Tryd.prog 124 #[.pointer (some ⟨D, 0, none⟩), .int .u16 a, .int .u8 x] w fun e w' => e = .returned (.tuple #[]) ∧ w = w' := by
  have b1 : decide (a < 16384) = true := by simpa using h
  go_enter Tryd.func124, Tryd.ntmps124
  go_wp2
  refine bodyPost_ret (results_none rfl _ _ _) rfl ?_
  exact ⟨rfl, rfl⟩
theorem store_none (D : Nat) (a x : Int) (h1 : 52224 ≤ a) (h9 : a < 65536) (n1 : a ≠ 65280) (n3 : a ≠ 65284) (n4 : a ≠ 65285) (n5 : a ≠ 65286) (w : World) :
    Calls Tryd.prog 124 #[.pointer (some ⟨D, 0, none⟩), .int .u16 a, .int .u8 x] w fun e w' => e = .returned (.tuple #[]) ∧ w = w' := by
  have b1 : decide (a < 16384) = false := by simp; omega
  have b2 : decide (a < 32768) = false := by simp; omega
  have b3 : decide (a < 49152) = false := by simp; omega
  have b4 : decide (a < 52224) = false := by simp; omega
  have d1 : (a == 65280) = false := by simpa using n1
  have d3 : (a == 65284) = false := by simpa using n3
  have d4 : (a == 65285) = false := by simpa using n4
  have d5 : (a == 65286) = false := by simpa using n5
  have h0 : 0 ≤ a := by omega
  go_enter Tryd.func124, Tryd.ntmps124
  go_wp2
  go_end0
  exact ⟨rfl, rfl⟩
theorem store_65280 (G : Nat → Nat) (i D : Nat) (M : MemS) (hm : MemOk M) (x : Int) (w : World) (hp : PM w G i D M) :
    Calls Tryd.prog 124 #[.pointer (some ⟨D, 0, none⟩), .int .u16 65280, .int .u8 x] w fun e w' => e = .returned (.tuple #[]) ∧ Adv (fun o => o = i) w G w' G ∧ PM w' G i D { M with chosen := x.tmod 16 } := by
  obtain ⟨B, bs, tv, hp⟩ := hp
  obtain ⟨c0, c1, c2, c3, c4, -, -⟩ := hp.ports hm
  have f1 := hp.free
  have HS := Lib.hid (And.intro ((Adv.refl (fun o => o = i) w G).setCell (p := ⟨D, 19457, none⟩) hp.hown (.int .u8 (x.tmod 16))) (show PM (w.setCell ⟨D, 19457, none⟩ (.int .u8 (x.tmod 16))) G i D { M with chosen := x.tmod 16 } from ⟨B, bs, tv, hp.setHead 19457 _ (head_setTail B M tv hm 0 _) rfl rfl⟩))
  clear hp
  go_enter Tryd.func124, Tryd.ntmps124
  go_wp2
  go_end0
  exact ⟨rfl, HS.out.1, HS.out.2⟩
theorem store_65284 (G : Nat → Nat) (i D : Nat) (M : MemS) (hm : MemOk M) (x : Int) (w : World) (hp : PM w G i D M) :
    Calls Tryd.prog 124 #[.pointer (some ⟨D, 0, none⟩), .int .u16 65284, .int .u8 x] w fun e w' => e = .returned (.tuple #[]) ∧ Adv (fun o => o = i) w G w' G ∧ PM w' G i D { M with pitch := bits BinOp.or .u16 (bits BinOp.and .u16 M.pitch 65280) (IntKind.wrap .u16 x) } := by
  obtain ⟨B, bs, tv, hp⟩ := hp
  obtain ⟨c0, c1, c2, c3, c4, -, -⟩ := hp.ports hm
  have f1 := hp.free
  have HS := Lib.hid (And.intro ((Adv.refl (fun o => o = i) w G).setCell (p := ⟨D, 19460, none⟩) hp.hown (.int .u16 (bits BinOp.or .u16 (bits BinOp.and .u16 M.pitch 65280) (IntKind.wrap .u16 x)))) (show PM (w.setCell ⟨D, 19460, none⟩ (.int .u16 (bits BinOp.or .u16 (bits BinOp.and .u16 M.pitch 65280) (IntKind.wrap .u16 x)))) G i D { M with pitch := bits BinOp.or .u16 (bits BinOp.and .u16 M.pitch 65280) (IntKind.wrap .u16 x) } from ⟨B, bs, tv, hp.setHead 19460 _ (head_setTail B M tv hm 3 _) rfl rfl⟩))
  clear hp
  go_enter Tryd.func124, Tryd.ntmps124
  go_wp2
  go_end0
  exact ⟨rfl, HS.out.1, HS.out.2⟩
theorem store_65285 (G : Nat → Nat) (i D : Nat) (M : MemS) (hm : MemOk M) (x : Int) (w : World) (hp : PM w G i D M) :
    Calls Tryd.prog 124 #[.pointer (some ⟨D, 0, none⟩), .int .u16 65285, .int .u8 x] w fun e w' => e = .returned (.tuple #[]) ∧ Adv (fun o => o = i) w G w' G ∧ PM w' G i D { M with pitch := bits BinOp.or .u16 (bits BinOp.and .u16 M.pitch 255) (IntKind.wrap .u16 (IntKind.wrap .u16 x * 256)) } := by
  obtain ⟨B, bs, tv, hp⟩ := hp
  obtain ⟨c0, c1, c2, c3, c4, -, -⟩ := hp.ports hm
  have f1 := hp.free
  have HS := Lib.hid (And.intro ((Adv.refl (fun o => o = i) w G).setCell (p := ⟨D, 19460, none⟩) hp.hown (.int .u16 (bits BinOp.or .u16 (bits BinOp.and .u16 M.pitch 255) (IntKind.wrap .u16 (IntKind.wrap .u16 x * 256))))) (show PM (w.setCell ⟨D, 19460, none⟩ (.int .u16 (bits BinOp.or .u16 (bits BinOp.and .u16 M.pitch 255) (IntKind.wrap .u16 (IntKind.wrap .u16 x * 256))))) G i D { M with pitch := bits BinOp.or .u16 (bits BinOp.and .u16 M.pitch 255) (IntKind.wrap .u16 (IntKind.wrap .u16 x * 256)) } from ⟨B, bs, tv, hp.setHead 19460 _ (head_setTail B M tv hm 3 _) rfl rfl⟩))
  clear hp
  go_enter Tryd.func124, Tryd.ntmps124
  go_wp2
  go_end0
  exact ⟨rfl, HS.out.1, HS.out.2⟩
end Go.Proofs.YtdnalhjdmlkbmaaDoor
namespace Go.Proofs.YtdnalhjdmlkbmaaDoor
open Go.RowKit

/-- The first bank of a number, with one byte set. -/
def bankSet : List (Int × List Int) → Int → Nat → Int → List (Int × List Int)
  | [], _, _, _ => []
  | p :: l, c, k, x => if p.1 = c then (p.1, p.2.set k x) :: l else p :: bankSet l c k x
theorem bankSet_none : ∀ (l : List (Int × List Int)) (c : Int) (k : Nat) (x : Int), bankF l c = none → bankSet l c k x = l
  | [], _, _, _, _ => rfl
  | p :: l, c, k, x, h => by
    by_cases e : p.1 = c
    · simp [bankF, e] at h
    · simp only [bankF, if_neg e] at h
      simp only [bankSet, if_neg e, bankSet_none l c k x h]
/-- The bank of a number, its place, and what setting a byte of it gives. -/
theorem zip_set : ∀ (l : List (Int × List Int)) (bs : List Nat), bs.length = l.length → ∀ (c : Int) (q : Nat) (x : Int),
    (bankF l c = none ∧ valI (List.zipWith (fun (p : Int × List Int) (b : Nat) => (p.1, Value.pointer (some ⟨b, 0, none⟩))) l bs) c = none) ∨
    ∃ (k : Nat) (p : Int × List Int) (b : Nat), l[k]? = some p ∧ bs[k]? = some b ∧ bankSet l c q x = l.set k (p.1, p.2.set q x) ∧ valI (List.zipWith (fun (p : Int × List Int) (b : Nat) => (p.1, Value.pointer (some ⟨b, 0, none⟩))) l bs) c = some (.pointer (some ⟨b, 0, none⟩))
  | [], _, _, _, _, _ => .inl ⟨rfl, rfl⟩
  | _ :: _, [], h, _, _, _ => by simp at h
  | p :: l, b :: bs, h, c, q, x => by
    by_cases e : p.1 = c
    · exact .inr ⟨0, p, b, rfl, rfl, by simp [bankSet, e], by simp [valI, e]⟩
    · rcases zip_set l bs (by simpa using h) c q x with ⟨h1, h2⟩ | ⟨k, r, d, h1, h2, h4, h5⟩
      · exact .inl ⟨by simp [bankF, e, h1], by simp only [List.zipWith_cons_cons, valI, if_neg e]; exact h2⟩
      · exact .inr ⟨k + 1, r, d, by rw [List.getElem?_cons_succ]; exact h1, by rw [List.getElem?_cons_succ]; exact h2, by simp only [bankSet, if_neg e, h4, List.set_cons_succ], by simp only [List.zipWith_cons_cons, valI, if_neg e]; exact h5⟩
theorem zip_same (f : Int → Nat → Int × Value) : ∀ (l : List (Int × List Int)) (bs : List Nat) (k : Nat) (p : Int × List Int) (y : List Int), l[k]? = some p →
    List.zipWith (fun (p : Int × List Int) (b : Nat) => f p.1 b) (l.set k (p.1, y)) bs = List.zipWith (fun (p : Int × List Int) (b : Nat) => f p.1 b) l bs
  | [], _, _, _, _, h => by simp at h
  | _ :: _, [], _, _, _, _ => by simp
  | r :: l, b :: bs, 0, p, y, h => by
    have e : r = p := by simpa using h
    subst e
    simp
  | r :: l, b :: bs, k + 1, p, y, h => by
    rw [List.getElem?_cons_succ] at h
    simp only [List.set_cons_succ, List.zipWith_cons_cons, zip_same f l bs k p y h]
theorem PMx.setBank {w : World} {G : Nat → Nat} {i D B : Nat} {bs : List Nat} {tv : Value} {M : MemS} (h : PMx w G i D B bs tv M) (j : Nat) (p : Int × List Int) (b : Nat) (hp : M.banks[j]? = some p) (hb : bs[j]? = some b) (q : Nat) (x : Int) :
    PMx (w.setCell ⟨b, q, none⟩ (.int .u8 x)) G i D B bs tv { M with banks := M.banks.set j (p.1, p.2.set q x) } := by
  obtain ⟨⟨C, hC, hCl⟩, hGb⟩ := h.bank j p b hp hb
  have hmem : b ∈ bs := List.mem_of_getElem? hb
  have hBb : B ≠ b := by
    intro e
    obtain ⟨es, clk, h1, _⟩ := h.map
    rw [e, hC] at h1
    cases h1
  have hDb : D ≠ b := fun e => h.ne (by rw [e]; exact hmem)
  refine ⟨?_, h.hown, ?_, h.mown, by simpa using h.blen, ?_, ?_, h.nodup, h.ne, h.net, h.neb⟩
  · obtain ⟨C2, h1, h2⟩ := h.head
    exact ⟨C2, (Below.heap_setCell _ _ _ _ hDb).trans h1, h2⟩
  · unfold bankL
    rw [zip_same (fun c b => (c, Value.pointer (some ⟨b, 0, none⟩))) M.banks bs j p (p.2.set q x) hp]
    exact h.map.of_block (Below.heap_setCell _ _ _ _ hBb)
  · intro k r d hr hd
    by_cases e : k = j
    · subst e
      obtain rfl : b = d := Option.some.inj (hb.symm.trans hd)
      have hr2 : r = (p.1, p.2.set q x) := by
        rw [List.getElem?_set_self (Array.getElem?_eq_some_iff.1 (show M.banks.toArray[k]? = _ from by simpa using hp)).1] at hr
        exact (Option.some.inj hr).symm
      subst hr2
      refine ⟨⟨C.setIfInBounds q (.int .u8 x), ?_, ?_⟩, hGb⟩
      · simp only [World.setCell, Array.getElem?_modify, hC]; simp
      · rw [Array.toList_setIfInBounds, hCl]; simp [u8s, List.map_set]
    · rw [List.getElem?_set_ne (Ne.symm e)] at hr
      obtain ⟨⟨C2, h1, h2⟩, h3⟩ := h.bank k r d hr hd
      refine ⟨⟨C2, (Below.heap_setCell _ _ _ _ ?_).trans h1, h2⟩, h3⟩
      intro e2
      have e3 : d = b := e2
      subst e3
      obtain ⟨hk1, hk2⟩ := List.getElem?_eq_some_iff.1 hd
      obtain ⟨hj1, hj2⟩ := List.getElem?_eq_some_iff.1 hb
      exact e ((List.getElem_inj h.nodup).1 (hk2.trans hj2.symm))
  · have hrow := h.tones
    exact ⟨ownsRow_of_block hrow.row fun d e => Below.heap_setCell _ _ _ _ (fun e2 => h.neb b hmem (by rw [e]; exact congrArg some e2)), hrow.own⟩
set_option maxRecDepth 100000 in
theorem store_window (G : Nat → Nat) (i D : Nat) (M : MemS) (hm : MemOk M) (k : Nat) (hk : k < 16384) (x : Int) (w : World) (hp : PM w G i D M) :
    Calls Tryd.prog 124 #[.pointer (some ⟨D, 0, none⟩), .int .u16 (16384 + (k : Int)), .int .u8 x] w fun e w' => e = .returned (.tuple #[]) ∧ Adv (fun o => o = i) w G w' G ∧ PM w' G i D { M with banks := bankSet M.banks M.chosen k x } := by
  obtain ⟨B, bs, tv, hp⟩ := hp
  have b1 : decide (16384 + (k : Int) < 16384) = false := by simp; omega
  have b2 : decide (16384 + (k : Int) < 32768) = true := by simp; omega
  have c0 := hp.mapc
  obtain ⟨c3, -⟩ := hp.ports hm
  have hpd := hp.adv ((Adv.refl (fun _ => False) w G).drew) id
  rcases zip_set M.banks bs hp.blen M.chosen k x with ⟨h1, h2⟩ | ⟨j, p, b, h1, h2, h4, h5⟩
  · rw [bankSet_none _ _ _ _ h1]
    have hl1 : (Instr.lookup 130 (.map (some B)) (.int .u8 M.chosen) true).run Tryd.prog w.drew = .ok (.tuple #[.pointer none, .bool false]) w.drew :=
      lookup_I_no (w := w.drew) (z := .pointer none) Tryd.underlying130 Tryd.underlying5 (by kernel_rfl) hpd.map M.chosen h2
    have HS := Lib.hid (And.intro ((Adv.refl (fun o => o = i) w G).drew) (show PM w.drew G i D M from ⟨B, bs, tv, hpd⟩))
    clear hp hpd h1 h2
    go_enter Tryd.func124, Tryd.ntmps124
    go_upto_region 3 with fail
    go_region
    go_wp2
    refine bodyPost_ret (results_none rfl _ _ _) rfl ?_
    exact ⟨rfl, HS.out.1, HS.out.2⟩
  · rw [h4]
    have hl1 : (Instr.lookup 130 (.map (some B)) (.int .u8 M.chosen) true).run Tryd.prog w.drew = .ok (.tuple #[.pointer (some ⟨b, 0, none⟩), .bool true]) w.drew :=
      lookup_I (w := w.drew) Tryd.underlying130 Tryd.underlying5 hpd.map M.chosen _ h5
    obtain ⟨⟨C, hC, hCl⟩, hb⟩ := hp.bank j p b h1 h2
    have hlen : p.2.length = 16384 := hm.banks p (List.mem_of_getElem? h1)
    have cb : w.cell? ⟨b, k, none⟩ = some (.int .u8 (p.2.getD k 0)) := block_cell hC k _ (by
      rw [← Array.getElem?_toList, hCl]
      exact u8s_at _ k _ (by rw [List.getD_eq_getElem?_getD]; simp [hlen, hk]))
    have fb := block_free hC
    have HS := Lib.hid (And.intro (((Adv.refl (fun o => o = i) w G).drew).setCell (p := ⟨b, k, none⟩) hb (.int .u8 x)) (show PM (w.drew.setCell ⟨b, k, none⟩ (.int .u8 x)) G i D _ from ⟨B, bs, tv, hpd.setBank j p b h1 h2 k x⟩))
    clear hp hpd h1 h2 h4 h5 hC hCl hb
    go_enter Tryd.func124, Tryd.ntmps124
    go_upto_region 3 with fail
    go_region
    go_wp2
    refine bodyPost_ret (results_none rfl _ _ _) rfl ?_
    exact ⟨rfl, HS.out.1, HS.out.2⟩
end Go.Proofs.YtdnalhjdmlkbmaaDoor
namespace Go.Proofs.YtdnalhjdmlkbmaaDoor
open Go.RowKit

theorem new_cells (w : World) (xs : List Value) (e : TypeId) : ∀ j u, xs[j]? = some u → (w.alloc (.cells xs.toArray e)).cell? ((⟨w.heap.size, 0, none⟩ : Addr).add j) = some u := by
  intro j u hu
  rw [Addr.add_lit, cell_of_row _ w.heap.size (0 + j) xs.toArray e (0, 0) (heap_alloc_new w _)]
  simpa using hu
theorem step_append_row {P : Program} {ops : Array Oper} {o : Oper} {a : Act} {w : World} {K : Act → World → Prop} {Q : Exit → Act → World → Prop} {E : Prop}
    (hg : o.guard = none) (s x : Operand) (t : TypeId) (hop : o.op = Op.call { callee := Callee.builtin Builtin.append, args := #[s, x], argTypes := #[t, t] })
    (e : TypeId) (i : TypeInfo) (z : Value) (size bytes : Nat) (h1 : P.underlying t = some (.slice e)) (h2 : P.info? e = some i) (h3 : i.zero = some z) (h4 : i.size = size) (h5 : i.bytes = bytes) (h6 : z.cells.size = size) (h7 : 0 < size)
    (G : Nat → Nat) (q : Nat) (va : Option Addr) (n vc : Nat) (xs : List Value) (hs : a.eval s = .slice va n vc) (hrow : Row e size w G q (.slice va n vc) n xs)
    (ad : Addr) (m c : Nat) (news : List Value) (hx : a.eval x = .slice (some ad) m c) (hn : news.length = m * size) (hc : ∀ j u, news[j]? = some u → w.cell? (ad.add j) = some u) (h1c : ∀ u ∈ news, u.oneCell' = true)
    (b1 : n + m ≤ maxLen) (b2 : (n + m) * bytes ≤ 140737488355328)
    (hK : ∀ va' vc' w' G', Row e size w' G' q (.slice va' (n + m) vc') (n + m) (xs ++ news) → Adv (· = q) w G w' G' → K (a.put o.dst (.slice va' (n + m) vc')) w') :
    if Region.wanted o (yielded ops a.tmps) = true then Oper.wp P o a w K Q else E := by
  have hw : Region.wanted o (yielded ops a.tmps) = true := by simp [Region.wanted, hg]
  rw [if_pos hw]
  obtain ⟨v', w', hr, r1, r2, _, r4⟩ := run_append_own2 (P := P) w t o.type e i z size bytes h1 h2 h3 h4 h5 h6 h7 (.slice va n vc) n xs hrow.row ad m c news hn hc h1c b1 b2
  obtain ⟨va', vc', rfl⟩ : ∃ va' vc', v' = .slice va' (n + m) vc' := by
    rcases r1.2 with ⟨rfl, e⟩ | ⟨g, cap, cur, rfl, _⟩
    · exact ⟨none, 0, by rw [e]⟩
    · exact ⟨_, cap, rfl⟩
  obtain ⟨r5, r6⟩ := hrow.appended r1 r2 r4
  unfold Oper.wp
  simp [execOp, hop, resolve, invoke, builtin, hs, hx, hr, Result.andThen]
  exact hK _ _ _ _ r6 r5
end Go.Proofs.YtdnalhjdmlkbmaaDoor
namespace Go.Proofs.YtdnalhjdmlkbmaaDoor
open Go.RowKit

/-- The labels under which the tones' block alone may turn. -/
def toneG (tv : Value) (b : Nat) : Nat := if tv.ownBlock = some b then 1 else 0
theorem PMx.played {w w' : World} {G G3 : Nat → Nat} {i D B : Nat} {bs : List Nat} {tv tv' : Value} {M : MemS} (h : PMx w G i D B bs tv M) (hm : MemOk M) (t : Int × Int × Int) (ha : Adv (fun o => o = 1) w (toneG tv) w' G3)
    (hr : Row 68 3 w' G3 1 tv' (M.tones.length + 1) (tonesC (M.tones ++ [t]))) :
    Adv (fun o => o = i) w G (w'.setCell ⟨D, 19463, none⟩ tv') (fun b => if b < w.heap.size then G b else i) ∧
    PMx (w'.setCell ⟨D, 19463, none⟩ tv') (fun b => if b < w.heap.size then G b else i) i D B bs tv' { M with tones := M.tones ++ [t] } := by
  have hDl := h.lt
  have hBl := h.map.lt
  have hrow := h.tones
  have hBD : B ≠ D := by
    intro e
    obtain ⟨es, clk, h1, _⟩ := h.map
    obtain ⟨C, h2, _⟩ := h.head
    rw [e, h2] at h1
    cases h1
  have gD : toneG tv D = 0 := if_neg h.net
  have gB : toneG tv B = 0 := if_neg (fun e => by
    obtain ⟨es, clk, h1, _⟩ := h.map
    rcases hrow.row.2 with ⟨e2, _⟩ | ⟨g, cap, cur, e2, _, hg, _⟩
    · rw [e2] at e; cases e
    · rw [e2] at e
      have : g = B := by simpa [Value.ownBlock] using e
      rw [this, h1] at hg
      cases hg)
  have gb : ∀ b ∈ bs, toneG tv b = 0 := fun b hb => if_neg (h.neb b hb)
  have kD : w'.heap[D]? = w.heap[D]? := ha.keep D hDl (by show ¬ (toneG tv D = 1); rw [gD]; decide)
  have kB : w'.heap[B]? = w.heap[B]? := ha.keep B hBl (by show ¬ (toneG tv B = 1); rw [gB]; decide)
  have nD : tv'.ownBlock ≠ some D := fun e => by
    have h1 := hr.own D e
    rw [ha.own D hDl, gD] at h1
    cases h1
  refine ⟨⟨ha.os, ha.tape, ha.output, by simpa using ha.size, fun b hb => if_pos hb, fun b hb hs => ?_⟩, ⟨?_, ?_, ?_, ?_, h.blen, ?_, ?_, h.nodup, h.ne, nD, ?_⟩⟩
  · have hbD : b ≠ D := fun e => hs (by rw [e]; exact h.hown)
    refine (Below.heap_setCell _ _ _ _ hbD).trans (ha.keep b hb ?_)
    show ¬ (toneG tv b = 1)
    unfold toneG
    split
    · rename_i e
      exact fun _ => hs (hrow.own b e)
    · decide
  · obtain ⟨C, h1, h2⟩ := h.head
    refine ⟨C.setIfInBounds 19463 tv', ?_, ?_⟩
    · simp only [World.setCell, Array.getElem?_modify, kD, h1]; simp
    · rw [Array.toList_setIfInBounds, h2]
      exact head_setTail B M tv hm 6 tv'
  · show (if D < w.heap.size then G D else i) = i
    rw [if_pos hDl]; exact h.hown
  · exact h.map.of_block ((Below.heap_setCell _ _ _ _ hBD).trans kB)
  · show (if B < w.heap.size then G B else i) = i
    rw [if_pos hBl]; exact h.mown
  · intro k p b hp hb
    obtain ⟨⟨C, h1, h2⟩, h3⟩ := h.bank k p b hp hb
    have hmem := List.mem_of_getElem? hb
    have hbl : b < w.heap.size := (Array.getElem?_eq_some_iff.1 h1).1
    have hbD : b ≠ D := fun e => h.ne (by rw [← e]; exact hmem)
    refine ⟨⟨C, (Below.heap_setCell _ _ _ _ hbD).trans ((ha.keep b hbl (by show ¬ (toneG tv b = 1); rw [gb b hmem]; decide)).trans h1), h2⟩, ?_⟩
    show (if b < w.heap.size then G b else i) = i
    rw [if_pos hbl]; exact h3
  · refine ⟨?_, fun b e => ?_⟩
    · have := ownsRow_of_block hr.row (w' := w'.setCell ⟨D, 19463, none⟩ tv') fun b e => Below.heap_setCell _ _ _ _ (fun e2 => nD (by rw [e]; exact congrArg some e2))
      simpa using this
    · show (if b < w.heap.size then G b else i) = i
      by_cases hb : b < w.heap.size
      · rw [if_pos hb]
        have h1 := hr.own b e
        rw [ha.own b hb] at h1
        unfold toneG at h1
        split at h1
        · rename_i e2; exact hrow.own b e2
        · cases h1
      · rw [if_neg hb]
  · intro b hb e
    have hbl : b < w.heap.size := by
      obtain ⟨k, hk⟩ := List.getElem?_of_mem hb
      have hkl := (List.getElem?_eq_some_iff.1 hk).1
      obtain ⟨⟨C, h1, _⟩, _⟩ := h.bank k (M.banks[k]'(by rw [← h.blen]; exact hkl)) b (by simp) hk
      exact (Array.getElem?_eq_some_iff.1 h1).1
    have h1 := hr.own b e
    rw [ha.own b hbl, gb b hb] at h1
    cases h1
theorem Tryd.info68 : (Tryd.prog.info? 68).map (fun i => (i.zero, i.size, i.bytes)) = some (some (.agg #[.int .i64 0, .int .u16 0, .int .u8 0]), 3, 16) := by kernel_rfl
set_option maxRecDepth 100000 in
set_option maxHeartbeats 1000000 in
theorem store_65286 (G : Nat → Nat) (i D : Nat) (M : MemS) (hm : MemOk M) (hn : M.tones.length ≤ 1000000) (x : Int) (w : World) (hp : PM w G i D M) :
    Calls Tryd.prog 124 #[.pointer (some ⟨D, 0, none⟩), .int .u16 65286, .int .u8 x] w fun e w' => e = .returned (.tuple #[]) ∧ ∃ G', Adv (fun o => o = i) w G w' G' ∧ PM w' G' i D { M with volume := x, tones := M.tones ++ [(M.cycle, M.pitch, x)] } := by
  obtain ⟨B, bs, tv, hp⟩ := hp
  obtain ⟨i0, hi, hz0, hz1, hz2⟩ := info_parts Tryd.info68
  obtain ⟨-, -, c2, -⟩ := hp.ports hm
  have f1 := hp.free
  have h1 : PMx (w.setCell ⟨D, 19459, none⟩ (.int .u8 x)) G i D B bs tv { M with volume := x } := hp.setHead 19459 _ (head_setTail B M tv hm 2 _) rfl rfl
  have hm1 : MemOk { M with volume := x } := ⟨hm.ram, hm.screen, hm.banks⟩
  obtain ⟨va, vc, rfl, hvc, hnc, -⟩ := hp.tones.slice
  obtain ⟨-, -, -, d3, -, d5, d6⟩ := h1.ports hm1
  have g1 := h1.free
  have ha1 := (Adv.refl (fun o => o = i) w G).setCell (p := ⟨D, 19459, none⟩) hp.hown (.int .u8 x)
  have hrow : Row 68 3 ((w.setCell ⟨D, 19459, none⟩ (.int .u8 x)).drew.alloc (.cells #[.int .i64 M.cycle, .int .u16 M.pitch, .int .u8 x] 68)) (own1 (w.setCell ⟨D, 19459, none⟩ (.int .u8 x)).drew (toneG (.slice va M.tones.length vc)) 0) 1 (.slice va M.tones.length vc) M.tones.length (tonesC M.tones) :=
    (Row.adv (S := fun _ => False) (G := toneG (.slice va M.tones.length vc)) ⟨h1.tones.row, fun b e => if_pos e⟩ (((Adv.refl (fun _ => False) _ _).drew).alloc _ 0) id)
  have HROW := Lib.hid hrow
  have H1 := Lib.hid (And.intro h1 (And.intro hm1 ha1))
  have hone : ∀ u ∈ [Value.int .i64 M.cycle, .int .u16 M.pitch, .int .u8 x], u.oneCell' = true := by
    intro u hu; simp at hu; rcases hu with rfl | rfl | rfl <;> rfl
  have hce : ∀ (j : Nat) (u : Value), [Value.int .i64 M.cycle, .int .u16 M.pitch, .int .u8 x][j]? = some u → (((w.setCell ⟨D, 19459, none⟩ (.int .u8 x)).alloc (.cells #[.int .i64 M.cycle, .int .u16 M.pitch, .int .u8 x] 68)).drew).cell? ((⟨w.heap.size, 0, none⟩ : Addr).add j) = some u := fun j u h => by
    have := new_cells (w.setCell ⟨D, 19459, none⟩ (.int .u8 x)) [Value.int .i64 M.cycle, .int .u16 M.pitch, .int .u8 x] 68 j u h
    rw [World.size_setCell] at this
    exact this
  have HCE := Lib.hid hce
  have hDl := h1.lt
  have hnet := h1.net
  obtain ⟨C, hC, hCl⟩ := h1.head
  have hkeep : ∀ (w2 : World) (G2 : Nat → Nat), Adv (fun o => o = 1) ((w.setCell ⟨D, 19459, none⟩ (.int .u8 x)).drew.alloc (.cells #[.int .i64 M.cycle, .int .u16 M.pitch, .int .u8 x] 68)) (own1 (w.setCell ⟨D, 19459, none⟩ (.int .u8 x)).drew (toneG (.slice va M.tones.length vc)) 0) w2 G2 →
      w2.cell? ⟨D, 19463, none⟩ = some (.slice va M.tones.length vc) ∧ w2.frozen? ⟨D, 19463, none⟩ = false := fun w2 G2 h => by
    have hD2 := (h.keep D (Nat.lt_of_lt_of_le hDl (by simp)) (by
      show ¬ (own1 _ _ 0 D = 1)
      unfold own1
      split
      · decide
      · unfold toneG; rw [if_neg hnet]; decide)).trans ((heap_past _ _ D hDl).trans hC)
    exact ⟨block_cell hD2 19463 _ (by rw [← Array.getElem?_toList, hCl]; exact head_tail B _ _ hm1 6), block_free hD2 19463⟩
  have HKP := Lib.hid hkeep
  have hDl0 : D < w.heap.size := by simpa using hDl
  clear hp h1 hm1 ha1 hrow hce hkeep hC hCl hDl hnet
  go_enter Tryd.func124, Tryd.ntmps124
  go_upto_region 19 with fail
  go_region_law (refine step_append_row rfl (.tmp 101) (.tmp 112) 65 rfl 68 i0 (.agg #[.int .i64 0, .int .u16 0, .int .u8 0]) 3 16 Tryd.underlying65 hi hz0 hz1 hz2 rfl (by decide) _ 1 va M.tones.length vc (tonesC M.tones) rfl HROW.out ⟨w.heap.size, 0, none⟩ 1 1 [.int .i64 M.cycle, .int .u16 M.pitch, .int .u8 x] rfl rfl HCE.out hone (by unfold maxLen; omega) (by omega) ?_; intro va2 vc2 w2 G2 h1 h2; obtain ⟨k1, k2⟩ := HKP.out _ _ h2; have HR2 := Lib.hid h1; have HA2 := Lib.hid h2; clear h1 h2)
  all_goals
    go_wp2
    go_end0
    have e : tonesC (M.tones ++ [(M.cycle, M.pitch, x)]) = tonesC M.tones ++ [.int .i64 M.cycle, .int .u16 M.pitch, .int .u8 x] := by simp [tonesC]
    have hpl := H1.out.1.played H1.out.2.1 (M.cycle, M.pitch, x) ((((Adv.refl (fun o => o = 1) _ _).drew).alloc _ 0).trans HA2.out) (by rw [e]; exact HR2.out)
    exact ⟨rfl, _, H1.out.2.2.trans hpl.1, B, bs, _, hpl.2⟩
end Go.Proofs.YtdnalhjdmlkbmaaDoor
namespace Go.Proofs.YtdnalhjdmlkbmaaDoor
open Go.RowKit

def storeF (M : MemS) (a x : Int) : MemS :=
  if a < 16384 then M else if a < 32768 then { M with banks := bankSet M.banks M.chosen (a - 16384).toNat x }
  else if a < 49152 then { M with ram := M.ram.set (a - 32768).toNat x } else if a < 52224 then { M with screen := M.screen.set (a - 49152).toNat x }
  else if a = 65280 then { M with chosen := x.tmod 16 }
  else if a = 65284 then { M with pitch := bits BinOp.or .u16 (bits BinOp.and .u16 M.pitch 65280) (IntKind.wrap .u16 x) }
  else if a = 65285 then { M with pitch := bits BinOp.or .u16 (bits BinOp.and .u16 M.pitch 255) (IntKind.wrap .u16 (IntKind.wrap .u16 x * 256)) }
  else if a = 65286 then { M with volume := x, tones := M.tones ++ [(M.cycle, M.pitch, x)] } else M
/-- Store, at every address. -/
theorem store_any (G : Nat → Nat) (i D : Nat) (M : MemS) (hm : MemOk M) (hn : M.tones.length ≤ 1000000) (a : Int) (h0 : 0 ≤ a) (h9 : a < 65536) (x : Int) (w : World) (hp : PM w G i D M) :
    Calls Tryd.prog 124 #[.pointer (some ⟨D, 0, none⟩), .int .u16 a, .int .u8 x] w fun e w' => e = .returned (.tuple #[]) ∧ ∃ G', Adv (fun o => o = i) w G w' G' ∧ PM w' G' i D (storeF M a x) := by
  have same : ∀ {e : Ending} {w' : World}, storeF M a x = M → e = .returned (.tuple #[]) ∧ w = w' → e = .returned (.tuple #[]) ∧ ∃ G', Adv (fun o => o = i) w G w' G' ∧ PM w' G' i D (storeF M a x) := fun h0 h => by
    obtain ⟨h1, rfl⟩ := h
    exact ⟨h1, G, Adv.refl _ _ _, by rw [h0]; exact hp⟩
  by_cases c1 : a < 16384
  · exact (store_low D a x c1 w).mono fun _ _ h => same (if_pos c1) h
  by_cases c2 : a < 32768
  · obtain ⟨k, rfl⟩ : ∃ k : Nat, a = 16384 + (k : Int) := ⟨(a - 16384).toNat, by omega⟩
    have e : storeF M (16384 + (k : Int)) x = { M with banks := bankSet M.banks M.chosen k x } := by
      unfold storeF; rw [if_neg c1, if_pos c2, show (16384 + (k : Int) - 16384).toNat = k from by omega]
    rw [e]
    exact (store_window G i D M hm k (by omega) x w hp).mono fun _ _ h => ⟨h.1, G, h.2⟩
  by_cases c3 : a < 49152
  · obtain ⟨k, rfl⟩ : ∃ k : Nat, a = 32768 + (k : Int) := ⟨(a - 32768).toNat, by omega⟩
    have e : storeF M (32768 + (k : Int)) x = { M with ram := M.ram.set k x } := by
      unfold storeF; rw [if_neg c1, if_neg c2, if_pos c3, show (32768 + (k : Int) - 32768).toNat = k from by omega]
    rw [e]
    exact (store_ram G i D M hm k (by omega) x w hp).mono fun _ _ h => ⟨h.1, G, h.2⟩
  by_cases c4 : a < 52224
  · obtain ⟨k, rfl⟩ : ∃ k : Nat, a = 49152 + (k : Int) := ⟨(a - 49152).toNat, by omega⟩
    have e : storeF M (49152 + (k : Int)) x = { M with screen := M.screen.set k x } := by
      unfold storeF; rw [if_neg c1, if_neg c2, if_neg c3, if_pos c4, show (49152 + (k : Int) - 49152).toNat = k from by omega]
    rw [e]
    exact (store_screen G i D M hm k (by omega) x w hp).mono fun _ _ h => ⟨h.1, G, h.2⟩
  by_cases n1 : a = 65280
  · subst n1; exact (store_65280 G i D M hm x w hp).mono fun _ _ h => ⟨h.1, G, h.2⟩
  by_cases n3 : a = 65284
  · subst n3; exact (store_65284 G i D M hm x w hp).mono fun _ _ h => ⟨h.1, G, h.2⟩
  by_cases n4 : a = 65285
  · subst n4; exact (store_65285 G i D M hm x w hp).mono fun _ _ h => ⟨h.1, G, h.2⟩
  by_cases n5 : a = 65286
  · subst n5; exact store_65286 G i D M hm hn x w hp
  exact (store_none D a x (by omega) h9 n1 n3 n4 n5 w).mono fun _ _ h => same (by simp [storeF, c1, c2, c3, c4, n1, n3, n4, n5]) h
theorem bankSet_len : ∀ (l : List (Int × List Int)) (c : Int) (k : Nat) (x : Int), (∀ p ∈ l, p.2.length = 16384) → ∀ p ∈ bankSet l c k x, p.2.length = 16384
  | [], _, _, _, _, p, hp => by simp [bankSet] at hp
  | q :: l, c, k, x, h, p, hp => by
    by_cases e : q.1 = c
    · simp only [bankSet, if_pos e, List.mem_cons] at hp
      rcases hp with rfl | hp
      · simpa using h q (by simp)
      · exact h p (by simp [hp])
    · simp only [bankSet, if_neg e, List.mem_cons] at hp
      rcases hp with rfl | hp
      · exact h _ (by simp)
      · exact bankSet_len l c k x (fun p hp => h p (by simp [hp])) p hp
theorem storeF_ok (M : MemS) (hm : MemOk M) (a x : Int) : MemOk (storeF M a x) := by
  obtain ⟨h1, h2, h3⟩ := hm
  unfold storeF
  repeat' split
  all_goals first | exact ⟨h1, h2, h3⟩ | exact ⟨h1, h2, bankSet_len _ _ _ _ h3⟩ | exact ⟨by simpa using h1, h2, h3⟩ | exact ⟨h1, by simpa using h2, h3⟩
end Go.Proofs.YtdnalhjdmlkbmaaDoor
namespace Go.Proofs.YtdnalhjdmlkbmaaDoor
open Go.RowKit

theorem storeF_tones (M : MemS) (a x : Int) : (storeF M a x).tones.length ≤ M.tones.length + 1 := by
  unfold storeF
  repeat' split
  all_goals first | exact Nat.le_succ _ | (simp only [List.length_append, List.length_cons, List.length_nil]; omega)
theorem setCell_any (G : Nat → Nat) (i D : Nat) (M : MemS) (hm : MemOk M) (hn : M.tones.length ≤ 999999) (a : Int) (h0 : 0 ≤ a) (h9 : a < 65536) (x : Int) (w : World) (hp : PM w G i D M) :
    Calls Tryd.prog 122 #[.pointer (some ⟨D, 0, none⟩), .int .u16 a, .int .u16 x] w fun e w' => e = .returned (.tuple #[]) ∧ ∃ G', Adv (fun o => o = i) w G w' G' ∧ PM w' G' i D (storeF (storeF M a (x % 256)) (nextA a) (x / 256 % 256)) := by
  have HP := Lib.hid hp
  clear hp
  go_enter Tryd.func122, Tryd.ntmps122
  go_wp2_with fail
  refine (store_any G i D M hm (by omega) a h0 h9 _ _ HP.out).mono ?_
  rintro e w1 ⟨rfl, G1, ha1, hp1⟩
  have H1 := Lib.hid (And.intro ha1 hp1)
  clear ha1 hp1
  go_wp2_with fail
  refine (store_any G1 i D (storeF M a (x % 256)) (storeF_ok M hm a _) (by have := storeF_tones M a (x % 256); omega) (nextA a) (nextA_lo a).1 (nextA_lo a).2 _ _ H1.out.2).mono ?_
  rintro e w2 ⟨rfl, G2, ha2, hp2⟩
  have H2 := Lib.hid (And.intro (H1.out.1.trans ha2) hp2)
  clear ha2 hp2
  go_wp2_with fail
  go_end0
  exact ⟨rfl, G2, H2.out.1, H2.out.2⟩
end Go.Proofs.YtdnalhjdmlkbmaaDoor
namespace Go.Proofs.YtdnalhjdmlkbmaaDoor
open Go.RowKit
set_option linter.unusedVariables false

def plotF (M : MemS) (x y c : Int) : MemS := if x < 64 ∧ y < 48 then storeF M (49152 + 64 * y + x) (c % 256) else M
def playF (M : MemS) (p v : Int) : MemS := storeF (storeF (storeF M 65284 (p % 256)) (nextA 65284) (p / 256 % 256)) 65286 v
theorem pad_any (G : Nat → Nat) (i D : Nat) (M : MemS) (hm : MemOk M) (w : World) (hp : PM w G i D M) :
    Calls Tryd.prog 127 #[.pointer (some ⟨D, 0, none⟩)] w fun e w' => e = .returned (.int .u8 M.pad) ∧ ∃ d, w' = w.drewN d := by
  have HP := Lib.hid hp
  clear hp
  go_enter Tryd.func127, Tryd.ntmps127
  go_wp2_with fail
  refine (load_any G i D M hm 65282 (by decide) (by decide) _ HP.out).mono ?_
  rintro e w' ⟨rfl, d, rfl⟩
  go_wp2_with fail
  go_ret
  exact ⟨rfl, d, rfl⟩
theorem choose_any (G : Nat → Nat) (i D : Nat) (M : MemS) (hm : MemOk M) (hn : M.tones.length ≤ 999999) (n : Int) (h0 : 0 ≤ n) (h9 : n < 65536) (w : World) (hp : PM w G i D M) :
    Calls Tryd.prog 129 #[.pointer (some ⟨D, 0, none⟩), .int .u16 n] w fun e w' => e = .returned (.tuple #[]) ∧ ∃ G', Adv (fun o => o = i) w G w' G' ∧ PM w' G' i D (storeF M 65280 (n % 256)) := by
  have HP := Lib.hid hp
  clear hp
  go_enter Tryd.func129, Tryd.ntmps129
  go_wp2_with fail
  refine (store_any G i D M hm (by omega) 65280 (by decide) (by decide) (n % 256) _ HP.out).mono ?_
  rintro e w1 ⟨rfl, G1, ha1, hp1⟩
  have H1 := Lib.hid (And.intro ha1 hp1)
  clear ha1 hp1
  go_wp2_with fail
  go_end0
  exact ⟨rfl, G1, H1.out.1, H1.out.2⟩
theorem play_any (G : Nat → Nat) (i D : Nat) (M : MemS) (hm : MemOk M) (hn : M.tones.length ≤ 99999) (p v : Int) (h0 : 0 ≤ p) (h9 : p < 65536) (w : World) (hp : PM w G i D M) :
    Calls Tryd.prog 128 #[.pointer (some ⟨D, 0, none⟩), .int .u16 p, .int .u8 v] w fun e w' => e = .returned (.tuple #[]) ∧ ∃ G', Adv (fun o => o = i) w G w' G' ∧ PM w' G' i D (playF M p v) := by
  have HP := Lib.hid hp
  clear hp
  go_enter Tryd.func128, Tryd.ntmps128
  go_wp2_with fail
  refine (setCell_any G i D M hm (by omega) 65284 (by decide) (by decide) p _ HP.out).mono ?_
  rintro e w1 ⟨rfl, G1, ha1, hp1⟩
  have H1 := Lib.hid (And.intro ha1 hp1)
  clear ha1 hp1
  go_wp2_with fail
  refine (store_any G1 i D (storeF (storeF M 65284 (p % 256)) (nextA 65284) (p / 256 % 256)) (storeF_ok _ (storeF_ok M hm _ _) _ _) (by have h1 := storeF_tones M 65284 (p % 256); have h2 := storeF_tones (storeF M 65284 (p % 256)) (nextA 65284) (p / 256 % 256); omega) 65286 (by decide) (by decide) v _ H1.out.2).mono ?_
  rintro e w2 ⟨rfl, G2, ha2, hp2⟩
  have H2 := Lib.hid (And.intro (H1.out.1.trans ha2) hp2)
  clear ha2 hp2
  go_wp2_with fail
  go_end0
  exact ⟨rfl, G2, H2.out.1, H2.out.2⟩
theorem plot_in (G : Nat → Nat) (i D : Nat) (M : MemS) (hm : MemOk M) (hn : M.tones.length ≤ 999999) (x y c : Int) (x0 : 0 ≤ x) (x1 : x < 64) (y0 : 0 ≤ y) (y1 : y < 48) (c0 : 0 ≤ c) (c1 : c < 65536) (w : World) (hp : PM w G i D M) :
    Calls Tryd.prog 126 #[.pointer (some ⟨D, 0, none⟩), .int .u16 x, .int .u16 y, .int .u16 c] w fun e w' => e = .returned (.tuple #[]) ∧ ∃ G', Adv (fun o => o = i) w G w' G' ∧ PM w' G' i D (plotF M x y c) := by
  have e : plotF M x y c = storeF M (49152 + 64 * y + x) (c % 256) := if_pos ⟨x1, y1⟩
  rw [e]
  have HP := Lib.hid hp
  have b1 : decide (x < 64) = true := by simpa using x1
  have b2 : decide (y < 48) = true := by simpa using y1
  clear hp e
  go_enter Tryd.func126, Tryd.ntmps126
  go_wp2_with fail
  refine (store_any G i D M hm (by omega) (49152 + 64 * y + x) (by omega) (by omega) (c % 256) _ HP.out).mono ?_
  rintro e w1 ⟨rfl, G1, ha1, hp1⟩
  have H1 := Lib.hid (And.intro ha1 hp1)
  clear ha1 hp1
  go_wp2_with fail
  go_end0
  exact ⟨rfl, G1, H1.out.1, H1.out.2⟩
theorem plot_out (D : Nat) (M : MemS) (x y c : Int) (h : 64 ≤ x ∨ 48 ≤ y) (w : World) :
    Calls Tryd.prog 126 #[.pointer (some ⟨D, 0, none⟩), .int .u16 x, .int .u16 y, .int .u16 c] w fun e w' => e = .returned (.tuple #[]) ∧ w = w' ∧ plotF M x y c = M := by
  have e : plotF M x y c = M := if_neg (by omega)
  by_cases hx : x < 64
  · have b1 : decide (x < 64) = true := by simpa using hx
    have b2 : decide (y < 48) = false := by simp; omega
    have HE := Lib.hid e
    clear e
    go_enter Tryd.func126, Tryd.ntmps126
    go_wp2
    go_end0
    exact ⟨rfl, rfl, HE.out⟩
  · have b1 : decide (x < 64) = false := by simp; omega
    have HE := Lib.hid e
    clear e
    go_enter Tryd.func126, Tryd.ntmps126
    go_wp2
    go_end0
    exact ⟨rfl, rfl, HE.out⟩
end Go.Proofs.YtdnalhjdmlkbmaaDoor
namespace Go.Proofs.YtdnalhjdmlkbmaaDoor
open Go.RowKit

theorem wrap_u16_mod (n : Int) : IntKind.wrap .u16 n = n % 65536 := by
  unfold IntKind.wrap
  simp [IntKind.bits, IntKind.signed]
theorem wrap_u8_mod (n : Int) : IntKind.wrap .u8 n = n % 256 := by
  unfold IntKind.wrap
  simp [IntKind.bits, IntKind.signed]
theorem wrap_u16_id (n : Int) (h0 : 0 ≤ n) (h : n < 65536) : IntKind.wrap .u16 n = n := by rw [wrap_u16_mod]; omega
theorem wrap_u8_id (n : Int) (h0 : 0 ≤ n) (h : n < 256) : IntKind.wrap .u8 n = n := by rw [wrap_u8_mod]; omega
theorem wrap_u16_rng (n : Int) : 0 ≤ IntKind.wrap .u16 n ∧ IntKind.wrap .u16 n < 65536 := by rw [wrap_u16_mod]; omega
theorem wrap_u8_rng (n : Int) : 0 ≤ IntKind.wrap .u8 n ∧ IntKind.wrap .u8 n < 256 := by rw [wrap_u8_mod]; omega
theorem ofInt16 (n : Nat) (h : n < 65536) : (BitVec.ofInt 16 (n : Int)).toNat = n := by
  rw [BitVec.toNat_ofInt]
  omega
theorem bits16_rng (op : BinOp) (x y : Int) : 0 ≤ bits op .u16 x y ∧ bits op .u16 x y < 65536 := wrap_u16_rng _
theorem bits_or_nat (lo hi : Nat) (h1 : lo < 256) (h2 : hi < 256) : bits BinOp.or .u16 (lo : Int) ((hi : Int) * 256) = (hi * 256 + lo : Nat) := by
  show IntKind.wrap .u16 ((BitVec.ofInt 16 (lo : Int) ||| BitVec.ofInt 16 ((hi : Int) * 256)).toNat : Nat) = _
  rw [BitVec.toNat_or, ofInt16 _ (by omega), show (hi : Int) * 256 = ((hi * 256 : Nat) : Int) from by simp, ofInt16 _ (by omega)]
  have h := Nat.shiftLeft_add_eq_or_of_lt (i := 8) (b := lo) (by omega) hi
  rw [Nat.shiftLeft_eq, show (2 : Nat) ^ 8 = 256 from rfl] at h
  rw [Nat.or_comm, ← h]
  exact wrap_u16_id _ (by omega) (by omega)
theorem bits_not (x : Nat) (h : x < 65536) : bits BinOp.xor .u16 IntKind.u16.max (x : Int) = 65535 - (x : Int) := by
  show IntKind.wrap .u16 ((BitVec.ofInt 16 ((65535 : Nat) : Int) ^^^ BitVec.ofInt 16 (x : Int)).toNat : Nat) = _
  have e : BitVec.ofInt 16 ((65535 : Nat) : Int) = BitVec.allOnes 16 := by decide
  rw [e, BitVec.allOnes_xor, BitVec.toNat_not, ofInt16 _ h]
  rw [wrap_u16_id _ (by omega) (by omega)]
  omega
theorem wrap64_id {n : Int} (h0 : -9223372036854775808 ≤ n) (h : n ≤ 9223372036854775807) : wrap64 n = n := by unfold wrap64; omega
theorem ret64 {a b : Int} (h : a = b) : Ending.returned (.int .i64 a) = .returned (.int .i64 b) := by rw [h]
/-- A cell as a number with a sign. -/
def sgn (x : Int) : Int := if x < 32768 then x else x - 65536
theorem sgn_wrap (x : Int) (h0 : 0 ≤ x) (h1 : x < 65536) : IntKind.i16.wrap x = sgn x := by
  unfold IntKind.wrap sgn
  simp [IntKind.bits, IntKind.signed]
  split <;> split <;> omega
theorem sgn_rng (x : Int) (h0 : 0 ≤ x) (h1 : x < 65536) : -32768 ≤ sgn x ∧ sgn x < 32768 := by unfold sgn; split <;> omega
theorem sgn_ne (x : Int) (h0 : 0 ≤ x) (h1 : x < 65536) (h : x ≠ 0) : sgn x ≠ 0 := by unfold sgn; split <;> omega
def flagB (b : Bool) : Int := if b then 65535 else 0
theorem flagB_rng (b : Bool) : 0 ≤ flagB b ∧ flagB b < 65536 := by cases b <;> decide
/-- A primitive of one cell, of two. -/
def unF (k : Nat) (x : Int) : Int :=
  match k with
  | 28 => 65535 - (x - 1) % 65536
  | 29 => if x < 32768 then x else 65535 - (x - 1) % 65536
  | 32 => (x + 1) % 65536
  | 33 => (x - 1) % 65536
  | 34 => (x + x) % 65536
  | 35 => sgn x / 2 % 65536
  | 39 => 65535 - x
  | 48 => flagB (x == 0)
  | 49 => flagB (decide (32768 ≤ x))
  | _ => 0
def binF (k : Nat) (x y : Int) : Int :=
  match k with
  | 21 => (x + y) % 65536
  | 22 => (x + -y % 65536) % 65536
  | 23 => x * y % 65536
  | 24 => if y = 0 then 0 else (sgn x).tdiv (sgn y) % 65536
  | 25 => if y = 0 then 0 else (sgn x).tmod (sgn y) % 65536
  | 26 => if y = 0 then 0 else x / y % 65536
  | 27 => if y = 0 then 0 else x % y % 65536
  | 30 => if sgn y < sgn x then y else x
  | 31 => if sgn x < sgn y then y else x
  | 36 => bits BinOp.and .u16 x y
  | 37 => bits BinOp.or .u16 x y
  | 38 => bits BinOp.xor .u16 x y
  | 40 => x * 2 ^ min y.toNat 16 % 65536
  | 41 => x / 2 ^ min y.toNat 16
  | 42 => flagB (x == y)
  | 43 => flagB (x != y)
  | 44 => flagB (decide (sgn x < sgn y))
  | 45 => flagB (decide (sgn y < sgn x))
  | 46 => flagB (decide (x < y))
  | 47 => flagB (decide (y < x))
  | _ => 0
theorem not16 (x : Int) (h0 : 0 ≤ x) (h1 : x < 65536) : bits BinOp.xor .u16 IntKind.u16.max x = 65535 - x := by
  obtain ⟨n, rfl⟩ : ∃ n : Nat, x = n := ⟨x.toNat, by omega⟩
  exact bits_not n (by omega)
theorem un_28 (x : Int) (_ : 0 ≤ x) (_ : x < 65536) : bits BinOp.xor .u16 IntKind.u16.max (IntKind.u16.wrap (x - 1)) = unF 28 x := by
  rw [not16 _ (wrap_u16_rng _).1 (wrap_u16_rng _).2, wrap_u16_mod]; rfl
theorem un_29 (x : Int) (_ : 0 ≤ x) (_ : x < 65536) (h : x < 32768) : x = unF 29 x := (if_pos h).symm
theorem un_29' (x : Int) (_ : 0 ≤ x) (_ : x < 65536) (h : 32768 ≤ x) : bits BinOp.xor .u16 IntKind.u16.max (IntKind.u16.wrap (x - 1)) = unF 29 x := by
  rw [not16 _ (wrap_u16_rng _).1 (wrap_u16_rng _).2, wrap_u16_mod]; exact (if_neg (by omega)).symm
theorem un_29'' (x : Int) (_ : 0 ≤ x) (_ : x < 65536) (h : 32768 ≤ x) : bits BinOp.xor .u16 IntKind.u16.max (x - 1) = unF 29 x := by
  rw [not16 _ (by omega) (by omega)]; exact ((if_neg (by omega)).trans (by omega)).symm
theorem un_32 (x : Int) (_ : 0 ≤ x) (_ : x < 65536) : IntKind.u16.wrap (x + 1) = unF 32 x := wrap_u16_mod _
theorem un_33 (x : Int) (_ : 0 ≤ x) (_ : x < 65536) : IntKind.u16.wrap (x - 1) = unF 33 x := wrap_u16_mod _
theorem un_34 (x : Int) (_ : 0 ≤ x) (_ : x < 65536) : IntKind.u16.wrap (x + x) = unF 34 x := wrap_u16_mod _
theorem un_35 (x : Int) (_ : 0 ≤ x) (_ : x < 65536) : sgn x / 2 % 65536 = unF 35 x := rfl
theorem un_39 (x : Int) (h0 : 0 ≤ x) (h1 : x < 65536) : bits BinOp.xor .u16 IntKind.u16.max x = unF 39 x := not16 x h0 h1
theorem un_48 (x : Int) (_ : 0 ≤ x) (_ : x < 65536) : flagB (x == 0) = unF 48 x := rfl
theorem un_49 (x : Int) (_ : 0 ≤ x) (_ : x < 65536) : flagB (decide (32768 ≤ x)) = unF 49 x := rfl
theorem bin_21 (x y : Int) (_ : 0 ≤ x) (_ : x < 65536) (_ : 0 ≤ y) (_ : y < 65536) : IntKind.u16.wrap (x + y) = binF 21 x y := wrap_u16_mod _
theorem bin_22 (x y : Int) (_ : 0 ≤ x) (_ : x < 65536) (_ : 0 ≤ y) (_ : y < 65536) : IntKind.u16.wrap (x + IntKind.u16.wrap (-y)) = binF 22 x y := by rw [wrap_u16_mod, wrap_u16_mod]; rfl
theorem bin_23 (x y : Int) (_ : 0 ≤ x) (_ : x < 65536) (_ : 0 ≤ y) (_ : y < 65536) : IntKind.u16.wrap (x * y) = binF 23 x y := wrap_u16_mod _
theorem bin_24z (x : Int) : binF 24 x 0 = 0 := rfl
theorem bin_25z (x : Int) : binF 25 x 0 = 0 := rfl
theorem bin_26z (x : Int) : binF 26 x 0 = 0 := rfl
theorem bin_27z (x : Int) : binF 27 x 0 = 0 := rfl
theorem tdiv_rng (a b : Int) (h0 : -32768 ≤ a) (h1 : a < 65536) : -65536 ≤ a.tdiv b ∧ a.tdiv b ≤ 65536 := by
  have h := Int.natAbs_tdiv a b
  have h2 : (a.tdiv b).natAbs ≤ a.natAbs := by rw [h]; exact Nat.div_le_self _ _
  clear h
  generalize a.tdiv b = t at h2
  omega
theorem bin_24 (x y : Int) (h0 : 0 ≤ x) (h1 : x < 65536) (_ : 0 ≤ y) (_ : y < 65536) (h : y ≠ 0) : wrap64 ((sgn x).tdiv (sgn y)) % 65536 = binF 24 x y := by
  have hs := sgn_rng x h0 h1
  have ht := tdiv_rng (sgn x) (sgn y) hs.1 (by omega)
  rw [wrap64_id (by omega) (by omega)]; exact (if_neg h).symm
theorem bin_25 (x y : Int) (_ : 0 ≤ x) (_ : x < 65536) (_ : 0 ≤ y) (_ : y < 65536) (h : y ≠ 0) : (sgn x).tmod (sgn y) % 65536 = binF 25 x y := (if_neg h).symm
theorem bin_26 (x y : Int) (_ : 0 ≤ x) (_ : x < 65536) (_ : 0 ≤ y) (_ : y < 65536) (h : y ≠ 0) : x / y % 65536 = binF 26 x y := (if_neg h).symm
theorem bin_27 (x y : Int) (_ : 0 ≤ x) (_ : x < 65536) (_ : 0 ≤ y) (_ : y < 65536) (h : y ≠ 0) : x % y % 65536 = binF 27 x y := (if_neg h).symm
theorem bin_30 (x y : Int) (h : sgn y < sgn x) : y = binF 30 x y := (if_pos h).symm
theorem bin_30' (x y : Int) (h : sgn x ≤ sgn y) : x = binF 30 x y := (if_neg (by omega)).symm
theorem bin_31 (x y : Int) (h : sgn x < sgn y) : y = binF 31 x y := (if_pos h).symm
theorem bin_31' (x y : Int) (h : sgn y ≤ sgn x) : x = binF 31 x y := (if_neg (by omega)).symm
theorem bin_36 (x y : Int) (_ : 0 ≤ x) (_ : x < 65536) (_ : 0 ≤ y) (_ : y < 65536) : bits BinOp.and .u16 x y = binF 36 x y := rfl
theorem bin_37 (x y : Int) (_ : 0 ≤ x) (_ : x < 65536) (_ : 0 ≤ y) (_ : y < 65536) : bits BinOp.or .u16 x y = binF 37 x y := rfl
theorem bin_38 (x y : Int) (_ : 0 ≤ x) (_ : x < 65536) (_ : 0 ≤ y) (_ : y < 65536) : bits BinOp.xor .u16 x y = binF 38 x y := rfl
theorem bin_40 (x y : Int) (_ : 0 ≤ x) (_ : x < 65536) (_ : 0 ≤ y) (_ : y < 65536) : IntKind.u16.wrap (x * 2 ^ min y.toNat 16) = binF 40 x y := wrap_u16_mod _
theorem bin_41 (x y : Int) (_ : 0 ≤ x) (_ : x < 65536) (_ : 0 ≤ y) (_ : y < 65536) : x / 2 ^ min y.toNat 16 = binF 41 x y := rfl
theorem bin_42 (x y : Int) : flagB (x == y) = binF 42 x y := rfl
theorem bin_43 (x y : Int) : flagB (x != y) = binF 43 x y := rfl
theorem bin_44 (x y : Int) : flagB (decide (sgn x < sgn y)) = binF 44 x y := rfl
theorem bin_45 (x y : Int) : flagB (decide (sgn y < sgn x)) = binF 45 x y := rfl
theorem bin_46 (x y : Int) : flagB (decide (x < y)) = binF 46 x y := rfl
theorem bin_47 (x y : Int) : flagB (decide (y < x)) = binF 47 x y := rfl
theorem unF_rng (k : Nat) (x : Int) (h0 : 0 ≤ x) (h1 : x < 65536) : 0 ≤ unF k x ∧ unF k x < 65536 := by
  unfold unF
  split
  all_goals first | exact flagB_rng _ | (split <;> omega) | omega
theorem binF_rng (k : Nat) (x y : Int) (h0 : 0 ≤ x) (h1 : x < 65536) (y0 : 0 ≤ y) (y1 : y < 65536) : 0 ≤ binF k x y ∧ binF k x y < 65536 := by
  unfold binF
  split
  all_goals first | exact flagB_rng _ | exact bits16_rng _ _ _ | omega | (split <;> omega) | skip
  all_goals
    have hp : (0 : Int) < 2 ^ min y.toNat 16 := Int.pow_pos (by decide)
    exact ⟨Int.ediv_nonneg h0 (Int.le_of_lt hp), Int.lt_of_le_of_lt (Int.ediv_le_self _ h0) h1⟩
end Go.Proofs.YtdnalhjdmlkbmaaDoor
namespace Go.Proofs.YtdnalhjdmlkbmaaDoor
open Go.RowKit

theorem and255 (x : Int) (h0 : 0 ≤ x) (h1 : x < 65536) : IntKind.wrap .u8 (bits BinOp.and .u16 x 255) = x % 256 := by
  obtain ⟨n, rfl⟩ : ∃ n : Nat, x = n := ⟨x.toNat, by omega⟩
  have e : bits BinOp.and .u16 (n : Int) 255 = ((n % 256 : Nat) : Int) := by
    show IntKind.wrap .u16 ((BitVec.ofInt 16 (n : Int) &&& BitVec.ofInt 16 ((255 : Nat) : Int)).toNat : Nat) = _
    rw [BitVec.toNat_and, ofInt16 _ (by omega), ofInt16 255 (by omega), show (255 : Nat) = 2 ^ 8 - 1 from rfl, Nat.and_two_pow_sub_one_eq_mod]
    exact wrap_u16_id _ (by omega) (by omega)
  rw [e, wrap_u8_id _ (by omega) (by omega)]; omega
/-- Two bytes, the low one first, as the program makes a cell of them. -/
def pairF (lo hi : Int) : Int := bits BinOp.or .u16 (IntKind.wrap .u16 lo) (IntKind.wrap .u16 (IntKind.wrap .u16 hi * 256))
theorem pairF_rng (lo hi : Int) : 0 ≤ pairF lo hi ∧ pairF lo hi < 65536 := bits16_rng _ _ _
theorem pairF_eq (lo hi : Int) (l0 : 0 ≤ lo) (l1 : lo < 256) (h0 : 0 ≤ hi) (h1 : hi < 256) : pairF lo hi = hi * 256 + lo := by
  obtain ⟨l, rfl⟩ : ∃ l : Nat, lo = l := ⟨lo.toNat, by omega⟩
  obtain ⟨h, rfl⟩ : ∃ h : Nat, hi = h := ⟨hi.toNat, by omega⟩
  unfold pairF
  rw [wrap_u16_id (l : Int) (by omega) (by omega), wrap_u16_id (h : Int) (by omega) (by omega), wrap_u16_id _ (by omega) (by omega), bits_or_nat l h (by omega) (by omega)]
  simp
theorem cellF_pair (M : MemS) (a : Int) : cellF M a = pairF (loadF M a) (loadF M (nextA a)) := rfl

def B8 (l : List Int) : Prop := ∀ x ∈ l, 0 ≤ x ∧ x < 256
def D16 (l : List Int) : Prop := ∀ x ∈ l, 0 ≤ x ∧ x < 65536
def R16 (l : List (Int × Int)) : Prop := ∀ x ∈ l, 0 ≤ x.2 ∧ x.2 < 65536
theorem B8.getD {l : List Int} (h : B8 l) (k : Nat) : 0 ≤ l.getD k 0 ∧ l.getD k 0 < 256 := by
  rw [List.getD_eq_getElem?_getD]
  cases e : l[k]? with
  | none => exact ⟨Int.le_refl _, by decide⟩
  | some x => exact h x (List.mem_of_getElem? e)
theorem B8.set {l : List Int} (h : B8 l) (k : Nat) {x : Int} (hx : 0 ≤ x ∧ x < 256) : B8 (l.set k x) := by
  intro y hy
  rcases List.mem_or_eq_of_mem_set hy with h1 | rfl
  · exact h y h1
  · exact hx
theorem B8.nil : B8 [] := fun _ h => by simp at h
theorem D16.nil : D16 [] := fun _ h => by simp at h
theorem D16.append {l m : List Int} (h : D16 l) (k : D16 m) : D16 (l ++ m) := fun x hx => by
  rcases List.mem_append.1 hx with h1 | h1
  · exact h x h1
  · exact k x h1
theorem D16.one {x : Int} (h : 0 ≤ x ∧ x < 65536) : D16 [x] := fun y hy => by rw [List.mem_singleton.1 hy]; exact h
theorem D16.left {l m : List Int} (h : D16 (l ++ m)) : D16 l := fun x hx => h x (List.mem_append_left _ hx)
theorem D16.right {l m : List Int} (h : D16 (l ++ m)) : D16 m := fun x hx => h x (List.mem_append_right _ hx)
theorem R16.append {l m : List (Int × Int)} (h : R16 l) (k : R16 m) : R16 (l ++ m) := fun x hx => by
  rcases List.mem_append.1 hx with h1 | h1
  · exact h x h1
  · exact k x h1
theorem R16.left {l m : List (Int × Int)} (h : R16 (l ++ m)) : R16 l := fun x hx => h x (List.mem_append_left _ hx)
theorem R16.one {x : Int × Int} (h : 0 ≤ x.2 ∧ x.2 < 65536) : R16 [x] := fun y hy => by rw [List.mem_singleton.1 hy]; exact h
/-- All that a memory holds is within its ranges. -/
structure MemR (M : MemS) : Prop where
  banks : ∀ p ∈ M.banks, B8 p.2
  ram : B8 M.ram
  screen : B8 M.screen
  chosen : 0 ≤ M.chosen ∧ M.chosen < 16
  pad : 0 ≤ M.pad ∧ M.pad < 256
  volume : 0 ≤ M.volume ∧ M.volume < 256
  pitch : 0 ≤ M.pitch ∧ M.pitch < 65536
  time : 0 ≤ M.time ∧ M.time < 65536
theorem bankF_rng : ∀ (l : List (Int × List Int)) (c : Int), (∀ p ∈ l, B8 p.2) → B8 ((bankF l c).getD [])
  | [], _, _ => B8.nil
  | q :: l, c, h => by
    by_cases e : q.1 = c
    · simp only [bankF, if_pos e, Option.getD_some]; exact h q (by simp)
    · simp only [bankF, if_neg e]; exact bankF_rng l c fun p hp => h p (by simp [hp])
theorem portF_rng {M : MemS} (h : MemR M) (a : Int) : 0 ≤ portF M a ∧ portF M a < 256 := by
  have h1 := h.chosen
  unfold portF
  repeat' split
  all_goals first | exact wrap_u8_rng _ | exact h.pad | exact h.volume | exact ⟨h1.1, by omega⟩ | exact ⟨Int.le_refl _, by decide⟩
theorem loadF_rng {M : MemS} (h : MemR M) (a : Int) : 0 ≤ loadF M a ∧ loadF M a < 256 := by
  unfold loadF
  repeat' split
  · exact ⟨Int.le_refl _, by decide⟩
  · exact (bankF_rng _ _ h.banks).getD _
  · exact h.ram.getD _
  · exact h.screen.getD _
  · exact portF_rng h a
theorem cellF_rng (M : MemS) (a : Int) : 0 ≤ cellF M a ∧ cellF M a < 65536 := bits16_rng _ _ _
theorem bankSet_rng : ∀ (l : List (Int × List Int)) (c : Int) (k : Nat) (x : Int), (0 ≤ x ∧ x < 256) → (∀ p ∈ l, B8 p.2) → ∀ p ∈ bankSet l c k x, B8 p.2
  | [], _, _, _, _, _, p, hp => by simp [bankSet] at hp
  | q :: l, c, k, x, hx, h, p, hp => by
    by_cases e : q.1 = c
    · simp only [bankSet, if_pos e, List.mem_cons] at hp
      rcases hp with rfl | hp
      · exact (h q (by simp)).set _ hx
      · exact h p (by simp [hp])
    · simp only [bankSet, if_neg e, List.mem_cons] at hp
      rcases hp with rfl | hp
      · exact h _ (by simp)
      · exact bankSet_rng l c k x hx (fun p hp => h p (by simp [hp])) p hp
theorem storeF_rng {M : MemS} (h : MemR M) (a : Int) {x : Int} (hx : 0 ≤ x ∧ x < 256) : MemR (storeF M a x) := by
  obtain ⟨h1, h2, h3, h4, h5, h6, h7, h8⟩ := h
  unfold storeF
  repeat' split
  · exact ⟨h1, h2, h3, h4, h5, h6, h7, h8⟩
  · exact ⟨bankSet_rng _ _ _ _ hx h1, h2, h3, h4, h5, h6, h7, h8⟩
  · exact ⟨h1, h2.set _ hx, h3, h4, h5, h6, h7, h8⟩
  · exact ⟨h1, h2, h3.set _ hx, h4, h5, h6, h7, h8⟩
  · refine ⟨h1, h2, h3, ?_, h5, h6, h7, h8⟩
    show 0 ≤ x.tmod 16 ∧ x.tmod 16 < 16
    rw [Int.tmod_eq_emod_of_nonneg hx.1]; omega
  · have hb := bits16_rng BinOp.or (bits BinOp.and .u16 M.pitch 65280) (IntKind.wrap .u16 x)
    exact ⟨h1, h2, h3, h4, h5, h6, hb, h8⟩
  · have hb := bits16_rng BinOp.or (bits BinOp.and .u16 M.pitch 255) (IntKind.wrap .u16 (IntKind.wrap .u16 x * 256))
    exact ⟨h1, h2, h3, h4, h5, h6, hb, h8⟩
  · exact ⟨h1, h2, h3, h4, h5, hx, h7, h8⟩
  · exact ⟨h1, h2, h3, h4, h5, h6, h7, h8⟩
/-- SetCell's memory. -/
def setCellF (M : MemS) (a x : Int) : MemS := storeF (storeF M a (x % 256)) (nextA a) (x / 256 % 256)
theorem byte_rng (x : Int) : 0 ≤ x % 256 ∧ x % 256 < 256 := by omega
theorem setCellF_rng {M : MemS} (h : MemR M) (a x : Int) : MemR (setCellF M a x) := storeF_rng (storeF_rng h _ (byte_rng _)) _ (byte_rng _)
theorem setCellF_ok {M : MemS} (h : MemOk M) (a x : Int) : MemOk (setCellF M a x) := storeF_ok _ (storeF_ok _ h _ _) _ _
theorem setCellF_tones (M : MemS) (a x : Int) : (setCellF M a x).tones.length ≤ M.tones.length + 2 := by
  have h1 := storeF_tones M a (x % 256)
  have h2 := storeF_tones (storeF M a (x % 256)) (nextA a) (x / 256 % 256)
  unfold setCellF; omega
theorem plotF_rng {M : MemS} (h : MemR M) (x y c : Int) : MemR (plotF M x y c) := by
  unfold plotF; split
  · exact storeF_rng h _ (byte_rng _)
  · exact h
theorem plotF_ok {M : MemS} (h : MemOk M) (x y c : Int) : MemOk (plotF M x y c) := by
  unfold plotF; split
  · exact storeF_ok _ h _ _
  · exact h
theorem plotF_tones (M : MemS) (x y c : Int) : (plotF M x y c).tones.length ≤ M.tones.length + 1 := by
  unfold plotF; split
  · exact storeF_tones _ _ _
  · omega
theorem playF_rng {M : MemS} (h : MemR M) (p : Int) {v : Int} (hv : 0 ≤ v ∧ v < 256) : MemR (playF M p v) := storeF_rng (storeF_rng (storeF_rng h _ (byte_rng _)) _ (byte_rng _)) _ hv
theorem playF_ok {M : MemS} (h : MemOk M) (p v : Int) : MemOk (playF M p v) := storeF_ok _ (storeF_ok _ (storeF_ok _ h _ _) _ _) _ _
theorem playF_tones (M : MemS) (p v : Int) : (playF M p v).tones.length ≤ M.tones.length + 3 := by
  have h1 := setCellF_tones M 65284 p
  have h2 := storeF_tones (setCellF M 65284 p) 65286 v
  show (storeF (setCellF M 65284 p) 65286 v).tones.length ≤ _
  omega
end Go.Proofs.YtdnalhjdmlkbmaaDoor
namespace Go.Proofs.YtdnalhjdmlkbmaaDoor
open Go.RowKit

/-- May the banks be? -/
def mayGo : Int → List (Int × List Int) → Bool
  | _, [] => true
  | last, p :: l => decide (last < p.1 ∧ p.1 < 16 ∧ p.2.length ≤ 16384) && mayGo p.1 l
def mayBanks (l : List (Int × List Int)) : Bool := mayGo (-1) l

theorem may_go : ∀ (l : List (Int × List Int)) (last : Int), mayGo last l = true → ∀ (k : Nat) (p : Int × List Int), l[k]? = some p →
    (((l.take k).getLast?.map (·.1)).getD last) < p.1 ∧ last < p.1 ∧ p.1 < 16 ∧ p.2.length ≤ 16384 ∧ ∀ q ∈ l.take k, q.1 < p.1
  | [], _, _, k, p, h => by simp at h
  | a :: l, last, hm, k, p, h => by
    simp only [mayGo, Bool.and_eq_true, decide_eq_true_eq] at hm
    obtain ⟨⟨h1, h2, h3⟩, h4⟩ := hm
    cases k with
    | zero => simp at h; subst h; exact ⟨by simpa using h1, h1, h2, h3, by simp⟩
    | succ k =>
      obtain ⟨g1, g2, g3, g4, g5⟩ := may_go l a.1 h4 k p (by simpa using h)
      refine ⟨?_, by omega, g3, g4, fun q hq => ?_⟩
      · cases ht : l.take k with
        | nil => simpa [ht] using g2
        | cons b m =>
          rw [ht] at g1
          have hz : (b :: m).getLast? = some ((b :: m).getLast (by simp)) := List.getLast?_eq_some_getLast (by simp)
          rw [hz] at g1
          rw [List.take_succ_cons, ht, List.getLast?_cons_cons, hz]
          exact g1
      · rw [List.take_succ_cons, List.mem_cons] at hq
        rcases hq with rfl | hq
        · exact g2
        · exact g5 q hq
def lastN (l : List (Int × List Int)) : Int := ((l.getLast?.map (·.1)).getD (-1))
theorem lastN_snoc (l : List (Int × List Int)) (k : Nat) (p : Int × List Int) (h : l[k]? = some p) : lastN (l.take (k + 1)) = p.1 := by
  rw [List.take_add_one, h]; simp [lastN]

theorem copy_into {P : Program} (w : World) (dT sT elem : TypeId) (g n dc : Nat) (cur : Array Value) (t : TypeId) (xs : List Value) (sa : Option Addr) (m sc : Nat) (hu : P.underlying dT = some (.slice elem)) (hs : (P.info? elem).map (·.size) = some 1)
    (hg : w.heap[g]? = some (.cells cur t (0, 0))) (hl : xs.length = m) (hm : m ≤ n) (hn : n ≤ cur.size) (hr : Reads w sa xs) (h1 : ∀ u ∈ xs, u.oneCell' = true) :
    ∃ w', (∀ ty, (Builtin.copy_ #[dT, sT] ty #[.slice (some ⟨g, 0, none⟩) n dc, .slice sa m sc]).run P w = .ok (goInt m) w') ∧ w'.heap[g]? = some (.cells (xs ++ cur.toList.drop m).toArray t (0, 0)) ∧
      (∀ k, k ≠ g → w'.heap[k]? = w.heap[k]?) ∧ w'.heap.size = w.heap.size ∧ w'.os = w.os ∧ w'.tape = w.tape ∧ w'.output = w.output := by
  rcases hr with rfl | ⟨b, o, rfl, hr⟩
  · obtain rfl : m = 0 := by simpa using hl.symm
    refine ⟨w, fun ty => run_copy_none w dT sT ty elem _ sa n dc 0 sc hu hs (by simp), ?_, fun _ _ => rfl, rfl, rfl, rfl, rfl⟩
    simpa using hg
  · have hmin : xs.length = Nat.min m n := by rw [hl]; exact (Nat.min_eq_left hm).symm
    have hrun := fun ty => run_copy_row (P := P) w dT sT ty elem g 0 n dc ⟨b, o, none⟩ m sc cur t xs hu hs hg hmin (Reads.add hr) (by omega) h1
    have he : (cur.toList.take 0 ++ xs ++ cur.toList.drop (0 + xs.length)).toArray = (xs ++ cur.toList.drop m).toArray := by simp [hl]
    rw [hl] at hrun
    refine ⟨_, hrun, ?_, fun k hk => setRow_other _ _ _ _ hk, ?_, rfl, rfl, rfl⟩
    · rw [setRow_heap _ _ cur _ t (0, 0) hg]; rw [← he, hl]
    · simp [World.setRow]

/-- Another block that was made since has changed. -/
theorem Adv.newBlock {S : Nat → Prop} {w w' w'' : World} {G G' : Nat → Nat} (h : Adv S w G w' G') (b : Nat) (hb : w.heap.size ≤ b) (hk : ∀ k, k ≠ b → w''.heap[k]? = w'.heap[k]?) (hz : w''.heap.size = w'.heap.size) (h1 : w''.os = w'.os) (h2 : w''.tape = w'.tape) (h3 : w''.output = w'.output) : Adv S w G w'' G' :=
  ⟨h1.trans h.os, h2.trans h.tape, h3.trans h.output, by rw [hz]; exact h.size, h.own, fun k hl hs => (hk k (by omega)).trans (h.keep k hl hs)⟩
theorem newM_snoc (l : List (Int × List Int)) (k : Nat) (p : Int × List Int) (h : l[k]? = some p) : (newM (l.take (k + 1))).banks = (newM (l.take k)).banks ++ [(p.1, p.2 ++ List.replicate (16384 - p.2.length) 0)] := by
  simp only [newM]
  rw [List.take_add_one, h]; simp
/-- A bank more. -/
theorem PMx.more {w w1 w2 : World} {G : Nat → Nat} {i D B : Nat} {bs : List Nat} {l : List (Int × List Int)} {k : Nat} {p : Int × List Int} (h : PMx w G i D B bs (.slice none 0 0) (newM (l.take k))) (hp : l[k]? = some p) (b : Nat) (hb1 : b ∉ bs) (hb2 : b ≠ D) (hG : G b = i)
    (hw : ∀ j, j ≠ b → j < w.heap.size → w1.heap[j]? = w.heap[j]?) (hbl : w.heap.size ≤ b) (hc : ∃ C, w1.heap[b]? = some (.cells C 158 (0, 0)) ∧ C.toList = u8s (p.2 ++ List.replicate (16384 - p.2.length) 0))
    (hw2 : ∀ j, j ≠ B → w2.heap[j]? = w1.heap[j]?) (hm : MapI .u8 w2 B (bankL (newM (l.take k)) bs ++ [(p.1, .pointer (some ⟨b, 0, none⟩))])) :
    PMx w2 G i D B (bs ++ [b]) (.slice none 0 0) (newM (l.take (k + 1))) := by
  have hDB : D ≠ B := by
    rintro rfl
    obtain ⟨C, h1, _⟩ := h.head
    obtain ⟨es, clk, h2, _⟩ := h.map
    rw [h1] at h2; cases h2
  have hbB : b ≠ B := by have := h.map.lt; omega
  have e := newM_snoc l k p hp
  refine ⟨?_, h.hown, ?_, h.mown, ?_, ?_, ?_, ?_, ?_, (fun e => by cases e), (fun b hb e => by cases e)⟩
  · obtain ⟨C, h1, h2⟩ := h.head
    exact ⟨C, (hw2 D hDB).trans ((hw D (fun e => hb2 e.symm) h.lt).trans h1), h2⟩
  · have e2 : bankL (newM (l.take (k + 1))) (bs ++ [b]) = bankL (newM (l.take k)) bs ++ [(p.1, .pointer (some ⟨b, 0, none⟩))] := by
      unfold bankL
      rw [e, List.zipWith_append h.blen.symm]; rfl
    rw [e2]; exact hm
  · rw [e, List.length_append, List.length_append, h.blen]; rfl
  · intro j q c hq hc2
    rw [e] at hq
    by_cases hj : j < bs.length
    · rw [List.getElem?_append_left (by rw [← h.blen]; exact hj)] at hq
      rw [List.getElem?_append_left hj] at hc2
      obtain ⟨⟨C, h1, h2⟩, h3⟩ := h.bank j q c hq hc2
      have hcl : c < w.heap.size := (Array.getElem?_eq_some_iff.1 h1).1
      have hcB : c ≠ B := by
        rintro rfl
        obtain ⟨es, clk, h4, _⟩ := h.map
        rw [h1] at h4; cases h4
      exact ⟨⟨C, (hw2 c hcB).trans ((hw c (by omega) hcl).trans h1), h2⟩, h3⟩
    · rw [List.getElem?_append_right (by rw [← h.blen]; omega)] at hq
      rw [List.getElem?_append_right (by omega)] at hc2
      have hj0 : j - bs.length = 0 := by
        rcases Nat.eq_zero_or_pos (j - bs.length) with h0 | h0
        · exact h0
        · rw [List.getElem?_eq_none (by simp; omega)] at hc2; cases hc2
      rw [hj0] at hc2
      rw [← h.blen, hj0] at hq
      simp at hc2 hq
      subst hc2; subst hq
      obtain ⟨C, h1, h2⟩ := hc
      exact ⟨⟨C, (hw2 _ hbB).trans h1, h2⟩, hG⟩
  · exact ⟨World.ownsRow_nil _ _ _ _, fun b e => by cases e⟩
  · rw [List.nodup_append]
    exact ⟨h.nodup, by simp, fun x hx y hy => by simp at hy; subst hy; exact fun e => hb1 (e ▸ hx)⟩
  · rw [List.mem_append]; rintro (hh | hh)
    · exact h.ne hh
    · simp at hh; exact hb2 hh.symm
end Go.Proofs.YtdnalhjdmlkbmaaDoor
namespace Go.Proofs.YtdnalhjdmlkbmaaDoor
open Go.RowKit
set_option linter.unusedVariables false

theorem valI_none : ∀ (l : List (Int × Value)) (k : Int), (∀ x ∈ l, x.1 ≠ k) → valI l k = none
  | [], _, _ => rfl
  | p :: l, k, h => by
    unfold valI
    rw [if_neg (h p List.mem_cons_self)]
    exact valI_none l k fun x hx => h x (List.mem_cons_of_mem _ hx)
theorem bankL_keys (l : List (Int × List Int)) (bs : List Nat) : ∀ x ∈ bankL (newM l) bs, ∃ q ∈ l, q.1 = x.1 := by
  intro x hx
  unfold bankL newM at hx
  simp only at hx
  obtain ⟨i, hi⟩ := List.getElem?_of_mem hx
  rw [List.getElem?_zipWith] at hi
  cases h1 : (l.map fun p => (p.1, p.2 ++ List.replicate (16384 - p.2.length) 0))[i]? with
  | none => rw [h1] at hi; simp at hi
  | some a =>
    cases h2 : bs[i]? with
    | none => rw [h1, h2] at hi; simp at hi
    | some b =>
      rw [h1, h2] at hi
      simp only [Option.some.injEq] at hi
      rw [List.getElem?_map] at h1
      cases h3 : l[i]? with
      | none => rw [h3] at h1; simp at h1
      | some q =>
        rw [h3] at h1
        simp only [Option.map_some, Option.some.injEq] at h1
        exact ⟨q, List.mem_of_getElem? h3, by rw [← hi, ← h1]⟩
theorem info_u8 : (Tryd.prog.info? 5).map (·.size) = some 1 := by kernel_rfl
set_option maxRecDepth 100000 in
set_option maxHeartbeats 1000000 in
theorem new_ok (G : Nat → Nat) (i : Nat) (_hi : i ≠ 0) (la : Option Addr) (n c : Nat) (l : List (Int × List Int)) (hn : l.length = n) (hn2 : n ≤ 1000000) (hmay : mayBanks l = true) (w : World)
    (hin : ∀ (w' : World) (G' : Nat → Nat), Adv (fun _ => False) w G w' G' → BankIn w' la l) :
    Calls Tryd.prog 52 #[.slice la n c] w fun e w' => ∃ D G', e = .returned (.tuple #[.pointer (some ⟨D, 0, none⟩), .int .i64 0]) ∧ Adv (fun _ => False) w G w' G' ∧ PM w' G' i D (newM l) := by
  have hmm := @run_makeMap Tryd.prog
  have hz := Tryd.zeroCells158_size
  have HP := Lib.hid (PMx.made w G i)
  have HI := Lib.hid hin
  have HN := Lib.hid hn
  have HM := Lib.hid (may_go l (-1) hmay)
  have HA := Lib.hid (((Adv.refl (fun _ => False) w G).alloc (.map #[] 0) i).alloc (.cells (Tryd.zeroCells135.setIfInBounds 0 (.map (some w.heap.size))) 135) i)
  clear hin hn hmay
  go_enter Tryd.func52, Tryd.ntmps52
  go_wp2_with fail
  go_loopw [5, 14] (fun v5 v14 wr => ∃ k : Nat, k ≤ n ∧ v14 = .int .i64 k ∧ v5 = .int .i64 (lastN (l.take k)) ∧ ∃ Gr bs, Adv (fun _ => False) w G wr Gr ∧ PMx wr Gr i (w.heap.size + 1) w.heap.size bs (.slice none 0 0) (newM (l.take k))) (fun _ v _ => n - (intOf v).toNat)
  case atStart => exact ⟨0, Nat.zero_le _, rfl, rfl, _, [], HA.out, HP.out⟩
  case round =>
    obtain ⟨k, hk, rfl, rfl, Gr, bs, h1, h2⟩ := hrel
    by_cases hlt : k < n
    · obtain ⟨p, hp⟩ : ∃ p, l[k]? = some p := ⟨l[k]'(by rw [HN.out]; exact hlt), by simp⟩
      obtain ⟨m1, m2, m3, m4, m5⟩ := HM.out k p hp
      have m1' : decide (p.1 ≤ lastN (l.take k)) = false := decide_eq_false (by unfold lastN; omega)
      have m3' : decide (16 ≤ p.1) = false := by simp; omega
      have m4' : decide (16384 < (p.2.length : Int)) = false := by simp; omega
      obtain ⟨b, o, da, dc, hla, c1, c2, hr⟩ := HI.out wr Gr h1 k p hp
      have hb := World.block_lt_of_cell? wr _ c1
      rw [hla]
      have HP1 := Lib.hid h2
      have HA1 := Lib.hid h1
      have HK := Lib.hid hp
      have HR := Lib.hid hr
      have hBl := h2.map.lt
      have hDl := h2.lt
      have M5 := Lib.hid m5
      clear h1 h2 hp hr m1 m5
      obtain ⟨W1, hcp, hg1, hk1, hz1, ho1, ht1, hu1⟩ := copy_into (P := Tryd.prog) ((wr.alloc (.cells #[.int .i64 p.1, .slice da p.2.length dc] 106)).alloc (.cells Tryd.zeroCells158 158)).drew 70 70 5 (wr.heap.size + 1) 16384 16384 Tryd.zeroCells158 158 (u8s p.2) da p.2.length dc Tryd.underlying70 info_u8
        (heap_at _ _ _ (by simp)) (u8s_length _) m4 (by rw [hz]; omega) ((HR.out.alloc _).alloc _) (u8s_one _)
      have HG1 := Lib.hid hg1
      have HK1 := Lib.hid hk1
      have HZ1 := Lib.hid (And.intro hz1 (And.intro ho1 (And.intro ht1 hu1)))
      clear hg1 hk1 hz1 ho1 ht1 hu1
      go_wp2_with fail
      go_region
      have hD1 : W1.heap[w.heap.size + 1]? = wr.heap[w.heap.size + 1]? := (HK1.out _ (by omega)).trans ((heap_past _ _ _ (by simp; omega)).trans (heap_past _ _ _ (by omega)))
      have hB1 : W1.heap[w.heap.size]? = wr.heap[w.heap.size]? := (HK1.out _ (by omega)).trans ((heap_past _ _ _ (by simp; omega)).trans (heap_past _ _ _ (by omega)))
      obtain ⟨C, hC, hCl⟩ := HP1.out.head
      have cD : W1.cell? ⟨w.heap.size + 1, 0, none⟩ = some (.map (some w.heap.size)) := block_cell (hD1.trans hC) 0 _ (by rw [← Array.getElem?_toList, hCl]; rfl)
      have cb : W1.cell? ⟨wr.heap.size, 0, none⟩ = some (.int .i64 p.1) := block_cell (C := #[.int .i64 p.1, .slice da p.2.length dc]) (T := 106) ((HK1.out _ (by omega)).trans ((heap_past _ _ _ (by simp)).trans (heap_at _ _ _ rfl))) 0 _ rfl
      have hv : valI (bankL (newM (l.take k)) bs) p.1 = none := valI_none _ _ fun x hx => by
        obtain ⟨q, hq, e⟩ := bankL_keys _ _ x hx
        have := M5.out q hq
        omega
      obtain ⟨ob, hup, hm2⟩ := update_I (P := Tryd.prog) Tryd.underlying130 Tryd.underlying5 (w := W1.drew) (HP1.out.map.of_block hB1) p.1 (.pointer (some ⟨wr.heap.size + 1, 0, none⟩)) hv
      have HM2 := Lib.hid hm2
      have HD1 := Lib.hid hD1
      have HB1 := Lib.hid hB1
      clear hC hCl hD1 hB1 hm2 hv
      go_wp2_with fail
      go_region
      obtain ⟨G2, hG2⟩ : ∃ G2, G2 = own1 (wr.alloc (.cells #[.int .i64 p.1, .slice da p.2.length dc] 106)) (own1 wr Gr 1000) i := ⟨_, rfl⟩
      have hA0 := (HA1.out.alloc (.cells #[.int .i64 p.1, .slice da p.2.length dc] 106) 1000).alloc (.cells Tryd.zeroCells158 158) i
      rw [← hG2] at hA0
      have hws := HA1.out.size
      have hZ := HZ1.out
      have hA2 := (hA0.drew.newBlock (w'' := W1) (wr.heap.size + 1) (by omega) HK1.out hZ.1 hZ.2.1 hZ.2.2.1 hZ.2.2.2).drew.newBlock (w'' := W1.drew.putObj w.heap.size ob) w.heap.size (Nat.le_refl _) (fun j hj => World.putObj_heap_other hj) (by simp [World.putObj]) rfl rfl rfl
      have hP0 : PMx wr G2 i (w.heap.size + 1) w.heap.size bs (.slice none 0 0) (newM (l.take k)) := HP1.out.adv (S := fun _ => False) (G' := G2)
        ⟨rfl, rfl, rfl, Nat.le_refl _, fun b hb => by rw [hG2, own1_old (by simp; omega), own1_old hb], fun _ _ _ => rfl⟩ id
      have hbs : wr.heap.size + 1 ∉ bs := fun hm => by
        obtain ⟨j, hj⟩ := List.getElem?_of_mem hm
        have hjl : j < bs.length := (List.getElem?_eq_some_iff.1 hj).1
        obtain ⟨q, hq⟩ : ∃ q, (newM (l.take k)).banks[j]? = some q := ⟨_, List.getElem?_eq_getElem (by rw [← HP1.out.blen]; exact hjl)⟩
        obtain ⟨⟨C, hC, _⟩, _⟩ := HP1.out.bank j q _ hq hj
        have := (Array.getElem?_eq_some_iff.1 hC).1
        omega
      have hP2 := hP0.more (w1 := W1) (w2 := W1.drew.putObj w.heap.size ob) HK.out (wr.heap.size + 1) hbs (by omega) (by rw [hG2]; simp [own1])
        (fun j hj hl => (HK1.out j hj).trans ((heap_past _ _ _ (by simp; omega)).trans (heap_past _ _ _ hl))) (by omega)
        ⟨_, HG1.out, by
          rw [bankZ_list, u8s_append]
          simp only [u8s]
          congr 1
          rw [← List.map_drop, List.drop_replicate]⟩ (fun j hj => World.putObj_heap_other hj) HM2.out
      have hlast := lastN_snoc l k p HK.out
      have HF := Lib.hid (And.intro hA2 (And.intro hP2 hlast))
      clear hA0 hG2 hA2 hP0 hP2 hbs hZ hlast hcp hup
      go_wp2
      go_roundw
      case rel => exact ⟨k + 1, by omega, by go_num, by rw [HF.out.2.2], G2, bs ++ [wr.heap.size + 1], HF.out.1, HF.out.2.1⟩
      case measure => simp [intOf]; omega
    · have hkn : k = n := by omega
      have HF := Lib.hid (And.intro h1 (And.intro h2 hkn))
      clear h1 h2 hkn
      go_wp2
      go_ret2
      obtain ⟨h1, h2, hkn⟩ := HF.out
      rw [hkn, List.take_of_length_le (by rw [HN.out]; omega)] at h2
      exact ⟨_, Gr, rfl, h1, _, bs, _, h2⟩
end Go.Proofs.YtdnalhjdmlkbmaaDoor
namespace Go.Proofs.YtdnalhjdmlkbmaaDoor
open Go.RowKit

theorem madeU8 (n : Nat) : madeCells (Value.int .u8 0).cells n = (u8s (List.replicate n 0)).toArray := by
  apply Array.ext
  · simp [madeCells, u8s]
  · intro i h1 h2
    simp [madeCells, u8s, Value.cells, Nat.mod_one]
theorem infoU8 : (Tryd.prog.info? 5).map (fun i => (i.zero, i.size, i.bytes)) = some (some (.int .u8 0), 1, 1) := by kernel_rfl
theorem run_makeU8 (w : World) (n : Nat) (hn : n ≤ 100000000000000) : (Instr.makeSlice 70 (.int .i64 n) (.int .i64 n)).run Tryd.prog w = .ok (.slice (some ⟨w.heap.size, 0, none⟩) n n) (w.alloc (.cells (u8s (List.replicate n 0)).toArray 5)) := by
  obtain ⟨i0, hi, hz0, hz1, hz2⟩ := info_parts infoU8
  have h := run_make (P := Tryd.prog) w 70 5 i0 (.int .u8 0) Tryd.underlying70 hi hz0 .i64 .i64 n n (by omega) (by omega) (by rw [hz2]; omega) (by omega)
  rwa [hz1, Int.toNat_natCast, Nat.mul_one, madeU8] at h

theorem full_set (xs : List Int) (n k : Nat) (x : Int) (hx : xs[k]? = some x) (hn : xs.length ≤ n) : (u8s (xs.take k ++ List.replicate (n - k) 0)).set k (.int .u8 x) = u8s (xs.take (k + 1) ++ List.replicate (n - (k + 1)) 0) := by
  have hk : k < xs.length := (List.getElem?_eq_some_iff.1 hx).1
  rw [show n - k = (n - (k + 1)) + 1 from by omega, List.replicate_succ, List.take_add_one, hx]
  simp only [u8s, List.map_append, List.map_cons, Option.toList_some, List.map_nil]
  rw [List.set_append_right _ _ (by simp; omega)]
  simp [Nat.min_eq_left (Nat.le_of_lt hk)]

set_option maxRecDepth 100000 in
set_option maxHeartbeats 1000000 in
theorem full_any (G : Nat → Nat) (q : Nat) (xa : Option Addr) (m c n : Nat) (xs : List Int) (w : World) (hl : xs.length = m) (hm : m ≤ n) (h0 : 0 < n) (hn : n ≤ 1000000) (hr : Reads w xa (u8s xs)) :
    Calls Tryd.prog 78 #[.slice xa m c, .int .i64 n] w fun e w' => ∃ b G', e = .returned (.slice (some ⟨b, 0, none⟩) n n) ∧ w.heap.size ≤ b ∧ Adv (fun _ => False) w G w' G' ∧
      Row 5 1 w' G' q (.slice (some ⟨b, 0, none⟩) n n) n (u8s (xs ++ List.replicate (n - m) 0)) := by
  have hmk := run_makeU8 w n (by omega)
  have HL := Lib.hid hl
  have HX := Lib.hid hr
  have HA0 := Lib.hid ((Adv.refl (fun _ => False) w G).alloc (.cells (u8s (List.replicate n 0)).toArray 5) q)
  have HR0 := Lib.hid (Row.new w G 5 1 q n (u8s (List.replicate n 0)) (by unfold maxLen; omega) (by simp [u8s]))
  clear hl hr
  go_enter Tryd.func78, Tryd.ntmps78
  go_wp2_with fail
  go_loopw [11] (fun v wr => ∃ k : Nat, k ≤ m ∧ v = .int .i64 k ∧ ∃ Gr, Adv (fun _ => False) w G wr Gr ∧ Row 5 1 wr Gr q (.slice (some ⟨w.heap.size, 0, none⟩) n n) n (u8s (xs.take k ++ List.replicate (n - k) 0))) (fun v _ => m - (intOf v).toNat)
  case atStart => exact ⟨0, Nat.zero_le _, rfl, _, HA0.out, HR0.out⟩
  case round =>
    obtain ⟨k, hk, rfl, Gr, h1, h2⟩ := hrel
    by_cases hlt : k < m
    · obtain ⟨x, hx⟩ : ∃ x, xs[k]? = some x := ⟨xs[k]'(by rw [HL.out]; exact hlt), by simp⟩
      have hxc := u8s_at xs k x hx
      obtain ⟨b, o, hxa, hcx, hb⟩ := (HX.out.adv h1 (fun _ _ => id)).some (by intro e; rw [e] at hxc; simp at hxc)
      have hc1 := hcx k _ hxc
      obtain ⟨hg, hG, hf, hc⟩ := h2.at h0
      have hlen : k < (u8s (xs.take k ++ List.replicate (n - k) 0)).length := by rw [h2.nlen]; omega
      have hc2 := hc k _ (List.getElem?_eq_getElem hlen)
      have hf2 := hf k
      have HS := Lib.hid (h2.store k hlen (.int .u8 x))
      have HE := Lib.hid (full_set xs n k x hx (by rw [HL.out]; exact hm))
      have H1 := Lib.hid h1
      clear hx hxc hcx hf hc hG h1 h2
      rw [hxa]
      go_wp2
      go_roundw
      case rel => exact ⟨k + 1, by omega, by go_num, Gr, H1.out.setNew (Nat.le_refl _) _, by rw [← HE.out]; exact HS.out.2⟩
      case measure => simp [intOf]; omega
    · have hkm : k = m := by omega
      have HF := Lib.hid (And.intro h1 (And.intro h2 hkm))
      clear h1 h2 hkm
      go_wp2
      go_ret
      obtain ⟨h1, h2, hkm⟩ := HF.out
      rw [hkm, List.take_of_length_le (by rw [HL.out]; omega)] at h2
      exact ⟨_, Gr, rfl, Nat.le_refl _, h1, h2⟩

set_option maxRecDepth 100000 in
set_option maxHeartbeats 1000000 in
theorem refMay_yes (G : Nat → Nat) (la : Option Addr) (n c : Nat) (l : List (Int × List Int)) (hn : l.length = n) (hn2 : n ≤ 1000000) (hmay : mayBanks l = true) (w : World)
    (hin : ∀ (w' : World) (G' : Nat → Nat), Adv (fun _ => False) w G w' G' → BankIn w' la l) :
    Calls Tryd.prog 77 #[.slice la n c] w fun e w' => e = .returned (.bool true) ∧ ∃ G', Adv (fun _ => False) w G w' G' := by
  have HI := Lib.hid hin
  have HN := Lib.hid hn
  have HM := Lib.hid (may_go l (-1) hmay)
  clear hin hn hmay
  go_enter Tryd.func77, Tryd.ntmps77
  go_wp2_with fail
  go_loopw [3, 8] (fun v3 v8 wr => ∃ k : Nat, k ≤ n ∧ v8 = .int .i64 k ∧ v3 = .int .i64 (lastN (l.take k)) ∧ ∃ Gr, Adv (fun _ => False) w G wr Gr) (fun _ v _ => n - (intOf v).toNat)
  case atStart => exact ⟨0, Nat.zero_le _, rfl, rfl, _, Adv.refl _ _ _⟩
  case round =>
    obtain ⟨k, hk, rfl, rfl, Gr, h1⟩ := hrel
    by_cases hlt : k < n
    · obtain ⟨p, hp⟩ : ∃ p, l[k]? = some p := ⟨l[k]'(by rw [HN.out]; exact hlt), by simp⟩
      obtain ⟨m1, m2, m3, m4, m5⟩ := HM.out k p hp
      have m1' : decide (p.1 ≤ lastN (l.take k)) = false := decide_eq_false (by unfold lastN; omega)
      have m3' : decide (15 < p.1) = false := by simp; omega
      have m4' : decide (16384 < (p.2.length : Int)) = false := by simp; omega
      obtain ⟨b, o, da, dc, hla, c1, c2, hr⟩ := HI.out wr Gr h1 k p hp
      have hb := World.block_lt_of_cell? wr _ c1
      have HA1 := Lib.hid h1
      have HL := Lib.hid (lastN_snoc l k p hp)
      rw [hla]
      clear h1 hp hr m1 m5
      go_wp2
      go_roundw
      case rel => exact ⟨k + 1, by omega, by go_num, by rw [HL.out], _, HA1.out.alloc _ 0⟩
      case measure => simp [intOf]; omega
    · have HF := Lib.hid h1
      clear h1
      go_wp2
      go_ret
      exact ⟨rfl, Gr, HF.out⟩
end Go.Proofs.YtdnalhjdmlkbmaaDoor
namespace Go.Proofs.YtdnalhjdmlkbmaaDoor
open Go.RowKit

theorem infoBank : (Tryd.prog.info? 106).map (fun i => (i.zero, i.size, i.bytes)) = some (some (.agg #[.int .i64 0, .slice none 0 0]), 2, 32) := by kernel_rfl
/-- A document's memory's block: its banks are a row of i's. -/
def RM0 (w : World) (G : Nat → Nat) (i D : Nat) (k : Nat) : Prop :=
  ∃ bv a2 a3 a4 a5 a6 a7 a8 a9 a10, w.heap[D]? = some (.cells #[bv, a2, a3, a4, a5, a6, a7, a8, a9, a10] 161 (0, 0)) ∧ G D = 7 ∧ ∃ xs, Row 106 2 w G i bv k xs
def ramC : Array Value := (u8s (List.replicate 16384 0)).toArray
def scrC : Array Value := (u8s (List.replicate 3072 0)).toArray
theorem make_ram (w : World) : (Instr.makeSlice 70 (.int .i64 16384) (.int .i64 16384)).run Tryd.prog w = .ok (.slice (some ⟨w.heap.size, 0, none⟩) 16384 16384) (w.alloc (.cells ramC 5)) := run_makeU8 w 16384 (by omega)
theorem make_scr (w : World) : (Instr.makeSlice 70 (.int .i64 3072) (.int .i64 3072)).run Tryd.prog w = .ok (.slice (some ⟨w.heap.size, 0, none⟩) 3072 3072) (w.alloc (.cells scrC 5)) := run_makeU8 w 3072 (by omega)
theorem full16 (G : Nat → Nat) (q : Nat) (xa : Option Addr) (m c : Nat) (xs : List Int) (w : World) (hl : xs.length = m) (hm : m ≤ 16384) (hr : Reads w xa (u8s xs)) :
    Calls Tryd.prog 78 #[.slice xa m c, .int .i64 16384] w fun e w' => ∃ b G', e = .returned (.slice (some ⟨b, 0, none⟩) 16384 16384) ∧ w.heap.size ≤ b ∧ Adv (fun _ => False) w G w' G' ∧
      Row 5 1 w' G' q (.slice (some ⟨b, 0, none⟩) 16384 16384) 16384 (u8s (xs ++ List.replicate (16384 - m) 0)) :=
  full_any G q xa m c 16384 xs w hl hm (by omega) (by omega) hr
set_option maxRecDepth 100000 in
set_option maxHeartbeats 1000000 in
theorem refNew_any (G : Nat → Nat) (la : Option Addr) (n c : Nat) (l : List (Int × List Int)) (hn : l.length = n) (hn2 : n ≤ 1000000) (hmay : mayBanks l = true) (w : World)
    (hin : ∀ (w' : World) (G' : Nat → Nat), Adv (fun _ => False) w G w' G' → BankIn w' la l) :
    Calls Tryd.prog 53 #[.slice la n c] w fun e w' => ∃ D G', e = .returned (.tuple #[.pointer (some ⟨D, 0, none⟩), .int .i64 0]) ∧ Adv (fun _ => False) w G w' G' := by
  have hm1 := make_ram
  have hm2 := make_scr
  have HI0 := Lib.hid hin
  have hin2 : ∀ (w' : World) (G' : Nat → Nat), Adv (fun b => b = 6) w (fun _ => 0) w' G' → BankIn w' la l := fun w' G' h => hin w' (named w G G' 0 0) (h.relabel (fun _ _ => by omega) (fun _ hb => named_old hb))
  have HI := Lib.hid hin2
  have HN := Lib.hid hn
  have HM0 := Lib.hid hmay
  have HM := Lib.hid (may_go l (-1) hmay)
  obtain ⟨i0, hi, hz0, hz1, hz2⟩ := info_parts infoBank
  clear hin hin2 hn hmay
  go_enter Tryd.func53, Tryd.ntmps53
  go_wp2_with fail
  refine (refMay_yes (fun _ => 0) la n c l HN.out hn2 HM0.out _ (fun w' G' h => HI.out w' G' (h.mono (fun _ h => h.elim)))).mono ?_
  rintro e w1 ⟨rfl, G1, ha1⟩
  have HA1 := Lib.hid (ha1.mono (T := fun b => b = 6) (fun _ h => h.elim))
  clear ha1
  go_upto_region 3 with fail
  go_cut [4] (fun s4 wx => ∃ D Gx, s4 = .pointer (some ⟨D, 0, none⟩) ∧ Adv (fun b => b = 6) w (fun _ => 0) wx Gx ∧ RM0 wx Gx 6 D 0)
  case first =>
    go_region
    all_goals
      go_wp2_with fail
      go_meet
      refine ⟨w1.heap.size + 1 + 1, _, rfl, (((HA1.out.alloc _ 7).alloc _ 7).alloc _ 7).drew, ?_⟩
      exact ⟨_, _, _, _, _, _, _, _, _, _, heap_at _ _ _ (by simp), by simp [own1], [], World.ownsRow_nil _ _ _ _, fun b e => by cases e⟩
  case rest =>
    obtain ⟨D, Gx, rfl, h1, h2⟩ := hcut
    obtain ⟨wA, rfl⟩ : ∃ x : World, x = wc := ⟨_, rfl⟩
    have HA2 := Lib.hid h1
    have HR2 := Lib.hid h2
    clear h1 h2
    go_wp2_with fail
    go_loopw [16] (fun v wr => ∃ k : Nat, k ≤ n ∧ v = .int .i64 k ∧ ∃ Gr, Adv (fun b => b = 6) w (fun _ => 0) wr Gr ∧ RM0 wr Gr 6 D k) (fun v _ => n - (intOf v).toNat)
    case atStart => exact ⟨0, Nat.zero_le _, rfl, Gx, HA2.out, HR2.out⟩
    case round =>
      obtain ⟨k, hk, rfl, Gr, h1, h2⟩ := hrel
      by_cases hlt : k < n
      · obtain ⟨p, hp⟩ : ∃ p, l[k]? = some p := ⟨l[k]'(by rw [HN.out]; exact hlt), by simp⟩
        obtain ⟨m1, m2, m3, m4, m5⟩ := HM.out k p hp
        obtain ⟨b, o, da, dc, hla, c1, c2, hr⟩ := HI.out wr Gr h1 k p hp
        have hb := World.block_lt_of_cell? wr _ c1
        obtain ⟨bv, a2, a3, a4, a5, a6, a7, a8, a9, a10, hh, hG, xs, hrow⟩ := h2
        obtain ⟨va, vc, rfl, hvc, hkc, hva⟩ := hrow.slice
        have hDl : D < wr.heap.size := (Array.getElem?_eq_some_iff.1 hh).1
        have cD := block_cell hh 0 _ rfl
        have HA3 := Lib.hid h1
        have HH := Lib.hid hh
        have HGD := Lib.hid hG
        have HROW := Lib.hid hrow
        have HR := Lib.hid hr
        rw [hla]
        clear h1 hp hr m1 m5 hh hG hrow
        go_wp2_with fail
        have HRd := Lib.hid (show Reads (wr.alloc (.cells #[.int .i64 p.1, .slice da p.2.length dc] 106)).drew da (u8s p.2) from HR.out.alloc _)
        have hA4 := (HA3.out.alloc (.cells #[.int .i64 p.1, .slice da p.2.length dc] 106) 1000).drew
        have HA4 := Lib.hid hA4
        clear hA4
        have hA5 := ((Adv.refl (fun _ => False) wr Gr).alloc (.cells #[.int .i64 p.1, .slice da p.2.length dc] 106) 1000).drew
        have HROWa := Lib.hid (HROW.out.adv hA5 id)
        have hDa := (hA5.keep D hDl id).trans HH.out
        have hGa := (hA5.own D hDl).trans HGD.out
        have HDa := Lib.hid (And.intro hDa hGa)
        have hDz := hA5.size
        have HCD := Lib.hid (block_cell hDa 0 _ rfl)
        have hNa : (wr.alloc (.cells #[.int .i64 p.1, .slice da p.2.length dc] 106)).drew.heap[wr.heap.size]? = some (.cells #[.int .i64 p.1, .slice da p.2.length dc] 106 (0, 0)) := heap_alloc_new wr _
        have HCN := Lib.hid (block_cell hNa 0 _ rfl)
        clear hA5 hDa hGa hNa
        have hone : ∀ (x : Int) (y : Option Addr), ∀ u ∈ [Value.int .i64 x, .slice y 16384 16384], u.oneCell' = true := by
          intro x y u hu; simp at hu; rcases hu with rfl | rfl <;> rfl
        go_region_law (first
          | (refine step_append_row rfl (.tmp 24) (.tmp 31) 72 rfl 106 i0 (.agg #[.int .i64 0, .slice none 0 0]) 2 32 Tryd.underlying72 hi hz0 hz1 hz2 rfl (by decide) _ 6 va k vc xs rfl HROW2.out ⟨w2.heap.size, 0, none⟩ 1 1 [.int .i64 p.1, .slice (some ⟨fb, 0, none⟩) 16384 16384] rfl rfl (new_cells w2 _ _) (hone _ _) (by unfold maxLen; omega) (by omega) ?_; (intro va' vc' w3 G3 hr3 ha3; have HR3 := Lib.hid hr3; have HA3x := Lib.hid ha3; have HD3 := Lib.hid (And.intro ((ha3.keep D (by simp; omega) (by rw [HDb.out.2]; omega)).trans HDb.out.1) ((ha3.own D (by simp; omega)).trans HDb.out.2)); have cD3 := block_cell HD3.out.1 0 _ rfl; have fD3 := block_free HD3.out.1 0; clear hr3 ha3))
          | (go_simp; go_at_call 78; refine (full16 (own1 wr Gr 1000) 7 da p.2.length dc p.2 _ rfl m4 HRd.out).mono ?_; rintro e w2 ⟨fb, G2, rfl, hfb, ha2, hr2⟩; have hA6 := ha2.alloc (.cells #[.int .i64 p.1, .slice (some ⟨fb, 0, none⟩) 16384 16384] 106) 1000; have HROW2 := Lib.hid (HROWa.out.adv hA6 id); have HDb := Lib.hid (And.intro ((hA6.keep D (by omega) id).trans HDa.out.1) ((hA6.own D (by omega)).trans HDa.out.2)); have HA6 := Lib.hid hA6; have hs2 := ha2.size; have hDl2 : D < w2.heap.size := (by omega); have cD2 := ha2.cell_some HCD.out id; have cN2 := ha2.cell_some HCN.out id; clear hA6 hr2 ha2))
        all_goals
          have hDw : w.heap.size ≤ D := by
            rcases Nat.lt_or_ge D w.heap.size with hlt2 | hge
            · have := (HA3.out.own D hlt2).symm.trans HGD.out
              omega
            · exact hge
          have hfin := HA3.out.trans (((((Adv.refl (fun _ => False) wr Gr).alloc (.cells #[.int .i64 p.1, .slice da p.2.length dc] 106) 1000).drew.trans HA6.out).mono (T := fun b => b = 6) (fun _ h => h.elim)).trans HA3x.out)
          have hrm : RM0 (w3.setCell ⟨D, 0, none⟩ (.slice va' (k + 1) vc')) G3 6 D (k + 1) := by
            refine ⟨_, a2, a3, a4, a5, a6, a7, a8, a9, a10, ?_, HD3.out.2, _, HR3.out.adv (S := fun b => b = 7) ((Adv.refl (fun b => b = 7) w3 G3).setCell HD3.out.2 _) (by omega)⟩
            simp only [World.setCell, Array.getElem?_modify, HD3.out.1]; simp
          have HF := Lib.hid (And.intro (hfin.setNew (p := ⟨D, 0, none⟩) hDw (.slice va' (k + 1) vc')) hrm)
          clear hfin hrm hDw
          go_wp2
          go_roundw
          case rel => exact ⟨k + 1, by omega, by go_num, G3, HF.out.1, HF.out.2⟩
          case measure => simp [intOf]; omega
      · have HF := Lib.hid h1
        clear h1 h2
        go_wp2
        go_ret2
        exact ⟨D, named w G Gr 0 0, rfl, HF.out.relabel (fun _ _ => by omega) (fun _ hb => named_old hb)⟩
end Go.Proofs.YtdnalhjdmlkbmaaDoor
namespace Go.Proofs.YtdnalhjdmlkbmaaDoor
open Go.RowKit
set_option linter.unusedVariables false

/-- Old blocks are whose they were, new ones whose they are. -/
def joined (w : World) (G Gx : Nat → Nat) : Nat → Nat := fun b => if b < w.heap.size then G b else Gx b
theorem joined_old {w : World} {G Gx : Nat → Nat} {b : Nat} (h : b < w.heap.size) : joined w G Gx b = G b := if_pos h
theorem joined_new {S : Nat → Prop} {w w' : World} {G Gx : Nat → Nat} {i : Nat} (h : Adv S w (fun _ => 0) w' Gx) (hi : i ≠ 0) : ∀ b, b < w'.heap.size → Gx b = i → joined w G Gx b = i := by
  intro b _ h1
  unfold joined
  rw [if_neg (fun hb => hi (by rw [← h1, h.own b hb])), h1]
theorem joined_adv {S : Nat → Prop} {w w' : World} {G Gx : Nat → Nat} (h : Adv S w (fun _ => 0) w' Gx) (h0 : ¬ S 0) : Adv (fun _ => False) w G w' (joined w G Gx) :=
  h.relabel (fun _ _ => h0) (fun _ hb => joined_old hb)
theorem PU.relabel {w : World} {G H : Nat → Nat} {i i' D : Nat} {l : List Int} (h : PU w G i D l) (hH : ∀ b, b < w.heap.size → G b = i → H b = i') : PU w H i' D l := h.imp fun _ h => h.relabel hH
theorem PR.relabel {w : World} {G H : Nat → Nat} {i i' D : Nat} {l : List (Int × Int)} (h : PR w G i D l) (hH : ∀ b, b < w.heap.size → G b = i → H b = i') : PR w H i' D l := h.imp fun _ h => h.relabel hH
theorem PMx.relabel {w : World} {G H : Nat → Nat} {i i' D B : Nat} {bs : List Nat} {tv : Value} {M : MemS} (h : PMx w G i D B bs tv M) (hH : ∀ b, b < w.heap.size → G b = i → H b = i') : PMx w H i' D B bs tv M :=
  ⟨h.head, hH _ h.lt h.hown, h.map, hH _ h.map.lt h.mown, h.blen, fun k p b hp hb => by
    obtain ⟨⟨C, h1, h2⟩, h3⟩ := h.bank k p b hp hb
    exact ⟨⟨C, h1, h2⟩, hH b (Array.getElem?_eq_some_iff.1 h1).1 h3⟩, ⟨h.tones.row, fun b e => hH b (h.tones.row.lt b e).2 (h.tones.own b e)⟩, h.nodup, h.ne, h.net, h.neb⟩
theorem PM.relabel {w : World} {G H : Nat → Nat} {i i' D : Nat} {M : MemS} (h : PM w G i D M) (hH : ∀ b, b < w.heap.size → G b = i → H b = i') : PM w H i' D M := by
  obtain ⟨B, bs, tv, h⟩ := h
  exact ⟨B, bs, tv, h.relabel hH⟩

def banks2 : List (Int × List Int) := [(0, [1, 2, 3]), (9, [4])]
def banksW (w : World) : World := ((w.alloc (.cells #[.int .u8 1, .int .u8 2, .int .u8 3] 5)).alloc (.cells #[.int .u8 4] 5)).alloc (.cells #[.int .i64 0, .slice (some ⟨w.heap.size, 0, none⟩) 3 3, .int .i64 9, .slice (some ⟨w.heap.size + 1, 0, none⟩) 1 1] 106)
theorem bankIn2 (w : World) (G : Nat → Nat) : ∀ (w' : World) (G' : Nat → Nat), Adv (fun _ => False) (banksW w) G w' G' → BankIn w' (some ⟨w.heap.size + 2, 0, none⟩) banks2 := by
  intro w' G' ha k p hp
  have h3 : (banksW w).heap[w.heap.size + 2]? = some (.cells #[.int .i64 0, .slice (some ⟨w.heap.size, 0, none⟩) 3 3, .int .i64 9, .slice (some ⟨w.heap.size + 1, 0, none⟩) 1 1] 106 (0, 0)) := heap_at _ _ _ (by simp)
  have r1 : Reads (banksW w) (some ⟨w.heap.size, 0, none⟩) (u8s [1, 2, 3]) := ((Reads.new w [.int .u8 1, .int .u8 2, .int .u8 3] 5).alloc _).alloc _
  have r2 : Reads (banksW w) (some ⟨w.heap.size + 1, 0, none⟩) (u8s [4]) := by
    have := (Reads.new (w.alloc (.cells #[.int .u8 1, .int .u8 2, .int .u8 3] 5)) [.int .u8 4] 5).alloc (.cells #[.int .i64 0, .slice (some ⟨w.heap.size, 0, none⟩) 3 3, .int .i64 9, .slice (some ⟨w.heap.size + 1, 0, none⟩) 1 1] 106)
    rw [show (w.alloc (.cells #[.int .u8 1, .int .u8 2, .int .u8 3] 5)).heap.size = w.heap.size + 1 from by simp] at this
    exact this
  match k, hp with
  | 0, hp =>
    cases hp
    exact ⟨_, 0, _, 3, rfl, ha.cell_some (block_cell h3 0 _ rfl) id, ha.cell_some (block_cell h3 1 _ rfl) id, r1.adv ha (fun _ _ => id)⟩
  | 1, hp =>
    cases hp
    exact ⟨_, 0, _, 1, rfl, ha.cell_some (block_cell h3 2 _ rfl) id, ha.cell_some (block_cell h3 3 _ rfl) id, r2.adv ha (fun _ _ => id)⟩
  | k + 2, hp => simp [banks2] at hp

/-- The six pointers of a world. -/
def Wld (w : World) (G : Nat → Nat) (K D R M : Nat) : Prop :=
  ∃ x y z, w.heap[K]? = some (.cells #[.pointer (some ⟨D, 0, none⟩), .pointer (some ⟨R, 0, none⟩), .pointer (some ⟨M, 0, none⟩), x, y, z] 52 (0, 0)) ∧ G K = 0

set_option maxRecDepth 100000 in
set_option maxHeartbeats 1000000 in
theorem born0 (G : Nat → Nat) (xa : Option Addr) (m c : Nat) (l : List Int) (w : World) (hl : l.length = m) (hm : m ≤ 256) (hr : Reads w xa (cellsU l)) (hcap : m ≤ c) (_hc2 : c ≤ 100000000000000) :
    Calls Tryd.prog 20 #[.slice xa m c, .slice none 0 0] w fun e w' => ∃ K D R M G', e = .returned (.pointer (some ⟨K, 0, none⟩)) ∧ Adv (fun _ => False) w G w' G' ∧ Wld w' G' K D R M ∧ PU w' G' 1 D l ∧ PR w' G' 2 R [] ∧ PM w' G' 3 M (newM banks2) := by
  obtain ⟨i0, hi, hz0, hz1, hz2⟩ := info_parts Tryd.info41
  obtain ⟨j0, hj, hy0, hy1, hy2⟩ := info_parts Tryd.info59
  have HL := Lib.hid hl
  have HX := Lib.hid (hr.alloc (.cells #[] 41))
  have HA0 := Lib.hid ((Adv.refl (fun b => b = 9) w (fun _ => 0)).alloc (.cells #[] 41) 9)
  have HR0 := Lib.hid (Row.new w (fun _ => 0) 41 1 9 0 [] (Nat.zero_le _) rfl)
  have hmin : min (m : Int) 256 = m := by omega
  clear hl hr
  go_enter Tryd.func20, Tryd.ntmps20
  go_wp2_with (first
    | (at_builtin; refine wpList_append_reads rfl (.tmp 14) (.tmp 19) 42 rfl 41 i0 (.int .u16 0) 1 2 Tryd.underlying42 hi hz0 hz1 hz2 rfl (by decide) _ 9 (some ⟨w.heap.size, 0, none⟩) 0 0 [] rfl HR0.out xa m c (cellsU l) rfl (by rw [cellsU_length, HL.out, Nat.mul_one]) HX.out (cellsU_one l) (by unfold maxLen; omega) (by omega) ?_; intro va1 vc1 w1 G1 h1 h2; rw [Nat.zero_add, List.nil_append] at h1; rw [Nat.zero_add]; have HR1 := Lib.hid h1; have HA1 := Lib.hid (HA0.out.trans h2); clear h1 h2))
  obtain ⟨wa, hwa⟩ : ∃ wa, wa = w1.alloc (.cells #[] 59) := ⟨_, rfl⟩
  have hA2 := HA1.out.alloc (.cells #[] 59) 9
  have hRd := HR1.out.adv (S := fun _ => False) ((Adv.refl (fun _ => False) w1 G1).alloc (.cells #[] 59) 9) id
  rw [← hwa] at hA2 hRd ⊢
  obtain ⟨Ga, hGa⟩ : ∃ Ga, Ga = own1 w1 G1 9 := ⟨_, rfl⟩
  rw [← hGa] at hA2 hRd
  have HA2 := Lib.hid hA2
  have HRd := Lib.hid hRd
  clear hA2 hRd hGa
  have hsz : w1.heap.size < wa.heap.size := by rw [hwa]; simp
  clear hwa
  have HA3 := Lib.hid (HA2.out.alloc (.cells #[] 41) 9)
  have HRe := Lib.hid (HRd.out.adv (S := fun _ => False) ((Adv.refl (fun _ => False) wa Ga).alloc (.cells #[] 41) 9) id)
  have HR3 := Lib.hid (Row.new wa Ga 41 1 9 0 [] (Nat.zero_le _) rfl)
  go_loop [5] (fun v => v = .int .i64 0) (fun _ => 0)
  case atStart => rfl
  case round =>
    obtain rfl := hrel
    go_wp2_with (first
      | (at_builtin; refine wpList_append_reads rfl (.tmp 48) (.tmp 49) 42 rfl 41 i0 (.int .u16 0) 1 2 Tryd.underlying42 hi hz0 hz1 hz2 rfl (by decide) _ 9 (some ⟨wa.heap.size, 0, none⟩) 0 0 [] rfl HR3.out va1 m vc1 (cellsU l) rfl (by rw [cellsU_length, HL.out, Nat.mul_one]) HRe.out.reads (cellsU_one l) (by unfold maxLen; omega) (by omega) ?_; intro va2 vc2 w2 G2 h1 h2; rw [Nat.zero_add, List.nil_append] at h1; rw [Nat.zero_add]; have HR4 := Lib.hid h1; have HA4 := Lib.hid (HA3.out.trans h2); clear h1 h2))
    have HA5 := Lib.hid (HA4.out.alloc (.cells #[] 59) 9)
    refine (stacksP (own1 w2 G2 9) 1 2 va2 m vc2 l _ 0 0 [] _ HL.out hm (HR4.out.reads.alloc _) rfl (by omega) (.inl rfl) (fun _ h => by cases h)).mono ?_
    rintro e w3 ⟨D, R, G3, rfl, ha3, hp3, hr3⟩
    have hb1 := ((Adv.refl (fun _ => False) w3 G3).alloc (.cells #[.int .u8 1, .int .u8 2, .int .u8 3] 5) 9).alloc (.cells #[.int .u8 4] 5) 9
    have hb2 := hb1.alloc (.cells #[.int .i64 0, .slice (some ⟨w3.heap.size, 0, none⟩) 3 3, .int .i64 9, .slice (some ⟨w3.heap.size + 1, 0, none⟩) 1 1] 106) 9
    obtain ⟨G4, hG4⟩ : ∃ G4, G4 = own1 ((w3.alloc (.cells #[.int .u8 1, .int .u8 2, .int .u8 3] 5)).alloc (.cells #[.int .u8 4] 5)) (own1 (w3.alloc (.cells #[.int .u8 1, .int .u8 2, .int .u8 3] 5)) (own1 w3 G3 9) 9) 9 := ⟨_, rfl⟩
    rw [← hG4] at hb2
    have HB2 := Lib.hid hb2
    have HA6 := Lib.hid ((HA5.out.trans (ha3.mono (T := fun b => b = 9) (fun _ h => h.elim))).trans (hb2.mono (T := fun b => b = 9) (fun _ h => h.elim)))
    have HP6 := Lib.hid (hp3.adv hb2 id)
    have HR6 := Lib.hid (hr3.adv hb2 id)
    clear ha3 hp3 hr3 hb1 hb2 hG4
    go_wp2_with fail
    refine (new_ok G4 3 (by omega) _ 2 2 banks2 rfl (by omega) (by decide) _ (bankIn2 w3 G4)).mono ?_
    rintro e w5 ⟨M, G5, rfl, ha5, hm5⟩
    have HA7 := Lib.hid (HA6.out.trans (ha5.mono (T := fun b => b = 9) (fun _ h => h.elim)))
    have HP7 := Lib.hid (HP6.out.adv ha5 id)
    have HR7 := Lib.hid (HR6.out.adv ha5 id)
    have HM7 := Lib.hid hm5
    have HI7 := Lib.hid (fun (w' : World) (G' : Nat → Nat) (h : Adv (fun _ => False) w5 G5 w' G') => bankIn2 w3 G4 w' G' (ha5.trans h))
    clear ha5 hm5
    go_wp2_with fail
    refine (refNew_any G5 _ 2 2 banks2 rfl (by omega) (by decide) _ HI7.out).mono ?_
    rintro e w6 ⟨Z, G6, rfl, ha6⟩
    have HA8 := Lib.hid (HA7.out.trans (ha6.mono (T := fun b => b = 9) (fun _ h => h.elim)))
    have HP8 := Lib.hid (HP7.out.adv ha6 id)
    have HR8 := Lib.hid (HR7.out.adv ha6 id)
    have HM8 := Lib.hid (HM7.out.adv ha6 id)
    clear ha6
    go_wp2_with fail
    go_ret
    have hx := (((HA8.out.alloc (.cells #[.slice va1 m vc1] 112) 9).alloc (.cells #[.slice (some ⟨w1.heap.size, 0, none⟩) 0 0] 114) 9).alloc (.cells #[.pointer (some ⟨D, 0, none⟩), .pointer (some ⟨R, 0, none⟩), .pointer (some ⟨M, 0, none⟩), .pointer (some ⟨w6.heap.size, 0, none⟩), .pointer (some ⟨w6.heap.size + 1, 0, none⟩), .pointer (some ⟨Z, 0, none⟩)] 52) 0)
    have hf := (((Adv.refl (fun _ => False) w6 G6).alloc (.cells #[.slice va1 m vc1] 112) 9).alloc (.cells #[.slice (some ⟨w1.heap.size, 0, none⟩) 0 0] 114) 9).alloc (.cells #[.pointer (some ⟨D, 0, none⟩), .pointer (some ⟨R, 0, none⟩), .pointer (some ⟨M, 0, none⟩), .pointer (some ⟨w6.heap.size, 0, none⟩), .pointer (some ⟨w6.heap.size + 1, 0, none⟩), .pointer (some ⟨Z, 0, none⟩)] 52) 0
    refine ⟨w6.heap.size + 1 + 1, D, R, M, _, rfl, joined_adv hx (by omega), ⟨_, _, _, heap_at _ _ _ (by simp), ?_⟩, (HP8.out.adv hf id).relabel (joined_new hx (by omega)), (HR8.out.adv hf id).relabel (joined_new hx (by omega)), (HM8.out.adv hf id).relabel (joined_new hx (by omega))⟩
    have hs := HA8.out.size
    unfold joined
    rw [if_neg (by omega)]
    simp [own1]
end Go.Proofs.YtdnalhjdmlkbmaaDoor
namespace Go.Proofs.YtdnalhjdmlkbmaaDoor
open Go.RowKit
set_option linter.unusedVariables false

/-- One of three owners. -/
def S3 (i j q : Nat) : Nat → Prop := fun o => o = i ∨ o = j ∨ o = q
/-- Three owners, none of them nobody. -/
structure Own3 (i j q : Nat) : Prop where
  i0 : i ≠ 0
  j0 : j ≠ 0
  q0 : q ≠ 0
  ij : i ≠ j
  iq : i ≠ q
  jq : j ≠ q
theorem Own3.zero {i j q : Nat} (h : Own3 i j q) : ¬ S3 i j q 0 := by
  rintro (e | e | e)
  · exact h.i0 e.symm
  · exact h.j0 e.symm
  · exact h.q0 e.symm
/-- The two stacks and the memory. -/
structure Trio (w : World) (G : Nat → Nat) (i j q D R M : Nat) (d : List Int) (r : List (Int × Int)) (m : MemS) : Prop where
  pu : PU w G i D d
  pr : PR w G j R r
  pm : PM w G q M m
theorem Trio.adv {S : Nat → Prop} {w w' : World} {G G' : Nat → Nat} {i j q D R M : Nat} {d : List Int} {r : List (Int × Int)} {m : MemS} (h : Trio w G i j q D R M d r m) (ha : Adv S w G w' G') (h1 : ¬ S i) (h2 : ¬ S j) (h3 : ¬ S q) : Trio w' G' i j q D R M d r m :=
  ⟨h.pu.adv ha h1, h.pr.adv ha h2, h.pm.adv ha h3⟩
theorem Trio.still {w w' : World} {G G' : Nat → Nat} {i j q D R M : Nat} {d : List Int} {r : List (Int × Int)} {m : MemS} (h : Trio w G i j q D R M d r m) (ha : Adv (fun _ => False) w G w' G') : Trio w' G' i j q D R M d r m := h.adv ha id id id
/-- What a call leaves: its answer, the two stacks and the memory. -/
def Left3 (i j q D R M : Nat) (w : World) (G : Nat → Nat) (d : List Int) (r : List (Int × Int)) (m : MemS) (v : Value) (e : Ending) (w' : World) : Prop :=
  e = .returned v ∧ ∃ G', Adv (S3 i j q) w G w' G' ∧ Trio w' G' i j q D R M d r m
theorem Trio.drewN {w : World} {G : Nat → Nat} {i j q D R M : Nat} {d : List Int} {r : List (Int × Int)} {m : MemS} (h : Trio w G i j q D R M d r m) (n : Nat) : Trio (w.drewN n) G i j q D R M d r m := h.still ((Adv.refl _ w G).drewN n)
theorem Trio.drew {w : World} {G : Nat → Nat} {i j q D R M : Nat} {d : List Int} {r : List (Int × Int)} {m : MemS} (h : Trio w G i j q D R M d r m) : Trio w.drew G i j q D R M d r m := h.drewN 1
theorem Trio.alloc {w : World} {G : Nat → Nat} {i j q D R M : Nat} {d : List Int} {r : List (Int × Int)} {m : MemS} (h : Trio w G i j q D R M d r m) (o : Obj) (k : Nat) : Trio (w.alloc o) (own1 w G k) i j q D R M d r m := h.still ((Adv.refl _ w G).alloc o k)
section
variable {w : World} {G : Nat → Nat} {i j q D R M : Nat} {d : List Int} {r : List (Int × Int)} {m : MemS}

theorem Trio.pop {x : Int} (o : Own3 i j q) (h : Trio w G i j q D R M (d ++ [x]) r m) : Calls Tryd.prog 24 #[.pointer (some ⟨D, 0, none⟩)] w (Left3 i j q D R M w G d r m (.int .u16 x)) :=
  (popPU G i D d x w h.pu).mono fun e w' k => ⟨k.1, G, k.2.1.mono fun _ e => .inl e, k.2.2, h.pr.adv k.2.1 (Ne.symm o.ij), h.pm.adv k.2.1 (Ne.symm o.iq)⟩
theorem Trio.push {l : List Int} (o : Own3 i j q) (h : Trio w G i j q D R M d r m) (xa : Option Addr) (n c : Nat) (hn : l.length = n) (hroom : d.length + n ≤ 256) (hr : Reads w xa (cellsU l)) :
    Calls Tryd.prog 30 #[.pointer (some ⟨D, 0, none⟩), .slice xa n c] w (Left3 i j q D R M w G (d ++ l) r m (.int .i64 0)) :=
  (pushPU G i D d l xa n c w h.pu hn hroom hr).mono fun e w' k => by
    obtain ⟨k1, G', k2, k3⟩ := k
    exact ⟨k1, G', k2.mono fun _ e => .inl e, k3, h.pr.adv k2 (Ne.symm o.ij), h.pm.adv k2 (Ne.symm o.iq)⟩
theorem Trio.pushR {l : List (Int × Int)} (o : Own3 i j q) (h : Trio w G i j q D R M d r m) (xa : Option Addr) (n c : Nat) (hn : l.length = n) (hroom : r.length + n ≤ 128) (hr : Reads w xa (cellsR l)) :
    Calls Tryd.prog 76 #[.pointer (some ⟨R, 0, none⟩), .slice xa n c] w (Left3 i j q D R M w G d (r ++ l) m (.int .i64 0)) :=
  (pushPR G j R r l xa n c w h.pr hn hroom hr).mono fun e w' k => by
    obtain ⟨k1, G', k2, k3⟩ := k
    exact ⟨k1, G', k2.mono fun _ e => .inr (.inl e), h.pu.adv k2 o.ij, k3, h.pm.adv k2 (Ne.symm o.jq)⟩
theorem Trio.pushR_no (o : Own3 i j q) (h : Trio w G i j q D R M d r m) (xa : Option Addr) (n c : Nat) (hl : r.length ≤ 128) (hn : n ≤ 100000) (hfull : 128 < r.length + n) :
    Calls Tryd.prog 76 #[.pointer (some ⟨R, 0, none⟩), .slice xa n c] w (Left3 i j q D R M w G d r m (.int .i64 4)) :=
  (pushPR_no G j R r xa n c w h.pr hl (by omega) hfull).mono fun e w' k => by
    obtain ⟨k1, rfl⟩ := k
    exact ⟨k1, G, Adv.refl _ _ _, h⟩
theorem Trio.popR {c : Int × Int} (o : Own3 i j q) (h : Trio w G i j q D R M d (r ++ [c]) m) (hm : r.length < 100000) :
    Calls Tryd.prog 84 #[.pointer (some ⟨R, 0, none⟩), .int .i64 c.1] w (Left3 i j q D R M w G d r m (.tuple #[.int .u16 c.2, .int .i64 0])) :=
  (popPR G j R r c w h.pr hm).mono fun e w' k => by
    obtain ⟨k1, G', k2, k3⟩ := k
    exact ⟨k1, G', k2.mono fun _ e => .inr (.inl e), h.pu.adv k2 o.ij, k3, h.pm.adv k2 (Ne.symm o.jq)⟩
theorem Trio.popR_not (h : Trio w G i j q D R M d r m) (kind : Int) (hm : r.length ≤ 100000) (hne : (atE r 0 kind == 0) = false) :
    Calls Tryd.prog 84 #[.pointer (some ⟨R, 0, none⟩), .int .i64 kind] w (Left3 i j q D R M w G d r m (.tuple #[.int .u16 (atV r 0 kind), .int .i64 (atE r 0 kind)])) :=
  (popPR_not G j R r kind w h.pr hm hne).mono fun e w' k => by
    obtain ⟨k1, n, rfl⟩ := k
    exact ⟨k1, G, (Adv.refl _ _ _).drewN n, h.drewN n⟩
theorem Trio.setR {c : Int × Int} (o : Own3 i j q) (h : Trio w G i j q D R M d (r ++ [c]) m) (x : Int) (hm : r.length < 100000) :
    Calls Tryd.prog 94 #[.pointer (some ⟨R, 0, none⟩), .int .u16 x] w (Left3 i j q D R M w G d (r ++ [(c.1, x)]) m (.tuple #[])) :=
  (setPR G j R r c x w h.pr hm).mono fun e w' k => by
    obtain ⟨k1, k2, k3⟩ := k
    exact ⟨k1, G, k2.mono fun _ e => .inr (.inl e), h.pu.adv k2 o.ij, k3, h.pm.adv k2 (Ne.symm o.jq)⟩
theorem Trio.at (h : Trio w G i j q D R M d r m) (n kind : Int) (hm : r.length ≤ 100000) :
    Calls Tryd.prog 80 #[.pointer (some ⟨R, 0, none⟩), .int .i64 n, .int .i64 kind] w (Left3 i j q D R M w G d r m (.tuple #[.int .u16 (atV r n kind), .int .i64 (atE r n kind)])) :=
  (atPR G j R r n kind w h.pr hm).mono fun e w' k => by
    obtain ⟨k1, n, rfl⟩ := k
    exact ⟨k1, G, (Adv.refl _ _ _).drewN n, h.drewN n⟩
theorem Trio.load (h : Trio w G i j q D R M d r m) (hm : MemOk m) (a : Int) (h0 : 0 ≤ a) (h9 : a < 65536) :
    Calls Tryd.prog 123 #[.pointer (some ⟨M, 0, none⟩), .int .u16 a] w (Left3 i j q D R M w G d r m (.int .u8 (loadF m a))) :=
  (load_any G q M m hm a h0 h9 w h.pm).mono fun e w' k => by
    obtain ⟨k1, n, rfl⟩ := k
    exact ⟨k1, G, (Adv.refl _ _ _).drewN n, h.drewN n⟩
theorem Trio.cell (h : Trio w G i j q D R M d r m) (hm : MemOk m) (a : Int) (h0 : 0 ≤ a) (h9 : a < 65536) :
    Calls Tryd.prog 121 #[.pointer (some ⟨M, 0, none⟩), .int .u16 a] w (Left3 i j q D R M w G d r m (.int .u16 (cellF m a))) :=
  (cell_any G q M m hm a h0 h9 w h.pm).mono fun e w' k => by
    obtain ⟨k1, n, rfl⟩ := k
    exact ⟨k1, G, (Adv.refl _ _ _).drewN n, h.drewN n⟩
theorem Trio.pad (h : Trio w G i j q D R M d r m) (hm : MemOk m) :
    Calls Tryd.prog 127 #[.pointer (some ⟨M, 0, none⟩)] w (Left3 i j q D R M w G d r m (.int .u8 m.pad)) :=
  (pad_any G q M m hm w h.pm).mono fun e w' k => by
    obtain ⟨k1, n, rfl⟩ := k
    exact ⟨k1, G, (Adv.refl _ _ _).drewN n, h.drewN n⟩
theorem Trio.mem {m' : MemS} {w' : World} {G' : Nat → Nat} (o : Own3 i j q) (h : Trio w G i j q D R M d r m) (ha : Adv (fun o => o = q) w G w' G') (hp : PM w' G' q M m') : Adv (S3 i j q) w G w' G' ∧ Trio w' G' i j q D R M d r m' :=
  ⟨ha.mono fun _ e => .inr (.inr e), h.pu.adv ha o.iq, h.pr.adv ha o.jq, hp⟩
theorem Trio.store (o : Own3 i j q) (h : Trio w G i j q D R M d r m) (hm : MemOk m) (hn : m.tones.length ≤ 99999) (a : Int) (h0 : 0 ≤ a) (h9 : a < 65536) (x : Int) :
    Calls Tryd.prog 124 #[.pointer (some ⟨M, 0, none⟩), .int .u16 a, .int .u8 x] w (Left3 i j q D R M w G d r (storeF m a x) (.tuple #[])) :=
  (store_any G q M m hm (by omega) a h0 h9 x w h.pm).mono fun e w' k => by
    obtain ⟨k1, G', k2, k3⟩ := k
    exact ⟨k1, G', h.mem o k2 k3⟩
theorem Trio.setCell (o : Own3 i j q) (h : Trio w G i j q D R M d r m) (hm : MemOk m) (hn : m.tones.length ≤ 99999) (a : Int) (h0 : 0 ≤ a) (h9 : a < 65536) (x : Int) :
    Calls Tryd.prog 122 #[.pointer (some ⟨M, 0, none⟩), .int .u16 a, .int .u16 x] w (Left3 i j q D R M w G d r (setCellF m a x) (.tuple #[])) :=
  (setCell_any G q M m hm (by omega) a h0 h9 x w h.pm).mono fun e w' k => by
    obtain ⟨k1, G', k2, k3⟩ := k
    exact ⟨k1, G', h.mem o k2 k3⟩
theorem Trio.plot (o : Own3 i j q) (h : Trio w G i j q D R M d r m) (hm : MemOk m) (hn : m.tones.length ≤ 99999) (x y c : Int) (x0 : 0 ≤ x) (y0 : 0 ≤ y) (c0 : 0 ≤ c) (c1 : c < 65536) :
    Calls Tryd.prog 126 #[.pointer (some ⟨M, 0, none⟩), .int .u16 x, .int .u16 y, .int .u16 c] w (Left3 i j q D R M w G d r (plotF m x y c) (.tuple #[])) := by
  by_cases hb : x < 64 ∧ y < 48
  · exact (plot_in G q M m hm (by omega) x y c x0 hb.1 y0 hb.2 c0 c1 w h.pm).mono fun e w' k => by
      obtain ⟨k1, G', k2, k3⟩ := k
      exact ⟨k1, G', h.mem o k2 k3⟩
  · exact (plot_out M m x y c (by omega) w).mono fun e w' k => by
      obtain ⟨k1, rfl, k2⟩ := k
      exact ⟨k1, G, Adv.refl _ _ _, by rw [k2]; exact h⟩
theorem Trio.play (o : Own3 i j q) (h : Trio w G i j q D R M d r m) (hm : MemOk m) (hn : m.tones.length ≤ 99999) (p v : Int) (h0 : 0 ≤ p) (h9 : p < 65536) :
    Calls Tryd.prog 128 #[.pointer (some ⟨M, 0, none⟩), .int .u16 p, .int .u8 v] w (Left3 i j q D R M w G d r (playF m p v) (.tuple #[])) :=
  (play_any G q M m hm hn p v h0 h9 w h.pm).mono fun e w' k => by
    obtain ⟨k1, G', k2, k3⟩ := k
    exact ⟨k1, G', h.mem o k2 k3⟩
theorem Trio.choose (o : Own3 i j q) (h : Trio w G i j q D R M d r m) (hm : MemOk m) (hn : m.tones.length ≤ 99999) (n : Int) (h0 : 0 ≤ n) (h9 : n < 65536) :
    Calls Tryd.prog 129 #[.pointer (some ⟨M, 0, none⟩), .int .u16 n] w (Left3 i j q D R M w G d r (storeF m 65280 (n % 256)) (.tuple #[])) :=
  (choose_any G q M m hm (by omega) n h0 h9 w h.pm).mono fun e w' k => by
    obtain ⟨k1, G', k2, k3⟩ := k
    exact ⟨k1, G', h.mem o k2 k3⟩
theorem Trio.taken {t : List Int} {K : Nat} (o : Own3 i j q) (h : Trio w G i j q D R M (d ++ t) r m) (hk : Desk w G K D R (some ⟨M, 0, none⟩)) (n : Nat) (hn : t.length = n) (h0 : 0 < n) (h4 : n ≤ 100) :
    Calls Tryd.prog 105 #[.pointer (some ⟨K, 0, none⟩), .int .i64 n] w fun e w' =>
      ∃ b G', e = .returned (.slice (some ⟨b, 0, none⟩) n n) ∧ Adv (S3 i j q) w G w' G' ∧ Trio w' G' i j q D R M d r m ∧ Desk w' G' K D R (some ⟨M, 0, none⟩) ∧ Row 41 1 w' G' 0 (.slice (some ⟨b, 0, none⟩) n n) n (cellsU t) :=
  (taken_any G i D K R (some ⟨M, 0, none⟩) d t n hn h0 h4 o.i0 w h.pu hk).mono fun e w' k => by
    obtain ⟨b, G', k1, k2, k3, k4⟩ := k
    exact ⟨b, G', k1, k2.mono fun _ e => .inl e, ⟨k3, h.pr.adv k2 (Ne.symm o.ij), h.pm.adv k2 (Ne.symm o.iq)⟩, hk.adv k2 (Ne.symm o.i0), k4⟩
end
end Go.Proofs.YtdnalhjdmlkbmaaDoor
