/- What the functions of stack.pile do, at api.Cell. -/
import Derived.Test.YtdnalhjdmlkbmaaDoorData
namespace Go.Proofs.YtdnalhjdmlkbmaaDoor
open Go.RowKit

theorem Tryd.info59 : (Tryd.prog.info? 59).map (fun i => (i.zero, i.size, i.bytes)) = some (some (.agg #[.int .i64 0, .int .u16 0]), 2, 16) := by kernel_rfl

/-- The cells of a list of api.Cell. -/
def cellsR (l : List (Int × Int)) : List Value := l.flatMap fun c => [.int .i64 c.1, .int .u16 c.2]
theorem cellsR_length (l : List (Int × Int)) : (cellsR l).length = l.length * 2 := by
  induction l with
  | nil => rfl
  | cons c l ih => simp only [cellsR, List.flatMap_cons, List.length_append, List.length_cons, List.length_nil] at ih ⊢; omega
theorem cellsR_append (l m : List (Int × Int)) : cellsR (l ++ m) = cellsR l ++ cellsR m := List.flatMap_append
theorem cellsR_fst (l : List (Int × Int)) (k : Nat) (c : Int × Int) (h : l[k]? = some c) : (cellsR l)[k * 2]? = some (.int .i64 c.1) ∧ (cellsR l)[k * 2 + 1]? = some (.int .u16 c.2) := by
  induction l generalizing k with
  | nil => simp at h
  | cons d l ih =>
    cases k with
    | zero => simp at h; subst h; exact ⟨rfl, rfl⟩
    | succ k =>
      have := ih k (by simpa using h)
      simp only [cellsR, List.flatMap_cons] at this ⊢
      rw [show (k + 1) * 2 = k * 2 + 2 from by omega]
      exact this
theorem cellsR_one (l : List (Int × Int)) : ∀ u ∈ cellsR l, u.oneCell' = true := by
  intro u hu
  simp only [cellsR, List.mem_flatMap] at hu
  obtain ⟨c, _, hc⟩ := hu
  simp at hc
  rcases hc with rfl | rfl <;> rfl

/-- Two cells of an element that is read. -/
theorem Reads.atR {w : World} {ya : Option Addr} {l : List (Int × Int)} (h : Reads w ya (cellsR l)) (k : Nat) (c : Int × Int) (hk : l[k]? = .some c) :
    ∃ b o, ya = .some ⟨b, o, none⟩ ∧ w.cell? ⟨b, o + k * 2, none⟩ = .some (.int .i64 c.1) ∧ w.cell? ⟨b, o + k * 2 + 1, none⟩ = .some (.int .u16 c.2) ∧ b < w.heap.size := by
  obtain ⟨h1, h2⟩ := cellsR_fst l k c hk
  obtain ⟨b, o, rfl, h, hb⟩ := h.some (by intro e; rw [e] at h1; simp at h1)
  exact ⟨b, o, rfl, h _ _ h1, by rw [Nat.add_assoc]; exact h _ _ h2, hb⟩
/-- Two cells of an element of a pile. -/
theorem Pile.atR {T : Nat} {w : World} {G : Nat → Nat} {i D : Nat} {a : Option Addr} {n cap : Nat} {l : List (Int × Int)} (h : Pile 59 T 2 w G i D (.slice a n cap) n (cellsR l)) (k : Nat) (c : Int × Int) (hk : l[k]? = some c) :
    ∃ g, a = some ⟨g, 0, none⟩ ∧ n ≤ cap ∧ cap ≤ maxLen ∧ g < w.heap.size ∧ G g = i ∧ w.cell? ⟨g, k * 2, none⟩ = some (.int .i64 c.1) ∧ w.cell? ⟨g, k * 2 + 1, none⟩ = some (.int .u16 c.2) ∧ w.frozen? ⟨g, k * 2, none⟩ = false ∧ w.frozen? ⟨g, k * 2 + 1, none⟩ = false := by
  have hlen := h.nlen
  rw [cellsR_length] at hlen
  have hkl : k < l.length := (List.getElem?_eq_some_iff.1 hk).1
  obtain ⟨g, cap', cur, e1, hbg, hg, hnc, hcm, hcs, htake⟩ := h.row.2.resolve_left (by rintro ⟨_, h⟩; omega)
  obtain ⟨rfl, _, rfl⟩ : a = some ⟨g, 0, none⟩ ∧ n = n ∧ cap = cap' := by simpa using e1
  obtain ⟨h1, h2⟩ := cellsR_fst l k c hk
  have c1 := h.row.cells (g := g) rfl _ _ h1
  have c2 := h.row.cells (g := g) rfl _ _ h2
  rw [Addr.add_lit, Nat.zero_add] at c1 c2
  exact ⟨g, rfl, hnc, hcm, (h.row.lt g rfl).2, h.rown g rfl, c1, c2, by simp [World.frozen?, hg], by simp [World.frozen?, hg]⟩

set_option maxHeartbeats 400000 in
theorem innerR_any (D : Nat) (w : World) : Calls Tryd.prog 58 #[.pointer (some ⟨D, 0, none⟩)] w fun e w' => e = .returned (.pointer (some ⟨D, 0, none⟩)) ∧ w = w' := by
  go_enter Tryd.func58, Tryd.ntmps58
  go_wp2
  go_ret
  exact ⟨rfl, rfl⟩
theorem innerR_nil (w : World) : Calls Tryd.prog 58 #[.pointer none] w fun e w' => e = .returned (.pointer none) ∧ w = w' := by
  go_enter Tryd.func58, Tryd.ntmps58
  go_wp2
  go_ret
  exact ⟨rfl, rfl⟩
theorem sizeR_any (D : Nat) (a : Option Addr) (n cap : Nat) (w : World) (hc : w.cell? ⟨D, 0, none⟩ = some (.slice a n cap)) :
    Calls Tryd.prog 64 #[.pointer (some ⟨D, 0, none⟩)] w fun e w' => e = .returned (.int .i64 n) ∧ w = w' := by
  go_enter Tryd.func64, Tryd.ntmps64
  go_wp2
  go_ret
  exact ⟨rfl, rfl⟩
theorem sizeR_nil (w : World) : Calls Tryd.prog 64 #[.pointer none] w fun e w' => e = .returned (.int .i64 0) ∧ w = w' := by
  go_enter Tryd.func64, Tryd.ntmps64
  go_wp2
  go_ret
  exact ⟨rfl, rfl⟩
theorem roomR_any (D : Nat) (a : Option Addr) (n cap : Nat) (m lim : Int) (w : World) (hc : w.cell? ⟨D, 0, none⟩ = some (.slice a n cap)) (hn : n ≤ 9223372036854775807) (h0 : 0 ≤ lim) (h1 : lim ≤ 100000) :
    Calls Tryd.prog 96 #[.pointer (some ⟨D, 0, none⟩), .int .i64 m, .int .i64 lim] w fun e w' => e = .returned (.bool (decide (m ≤ lim - n))) ∧ w = w' := by
  go_enter Tryd.func96, Tryd.ntmps96
  go_wp2
  go_ret
  exact ⟨rfl, rfl⟩
theorem roomR_nil (m lim : Int) (w : World) :
    Calls Tryd.prog 96 #[.pointer none, .int .i64 m, .int .i64 lim] w fun e w' => e = .returned (.bool false) ∧ w = w' := by
  go_enter Tryd.func96, Tryd.ntmps96
  go_wp2
  go_ret
  exact ⟨rfl, rfl⟩
theorem putR_full (D : Nat) (a : Option Addr) (n cap : Nat) (lim : Int) (xa : Option Addr) (m c : Nat) (w : World) (hc : w.cell? ⟨D, 0, none⟩ = some (.slice a n cap)) (hn : n ≤ 9223372036854775807) (hm : m ≤ 9223372036854775807) (h0 : 0 ≤ lim) (h1 : lim ≤ 100000)
    (hpos : 0 < m) (hfull : lim < (n : Int) + m) :
    Calls Tryd.prog 85 #[.pointer (some ⟨D, 0, none⟩), .int .i64 lim, .slice xa m c] w fun e w' => e = .returned (.bool false) ∧ w = w' := by
  have hm0 : ((m : Int) == 0) = false := by simp; omega
  have hd : decide ((m : Int) ≤ lim - n) = false := by simp; omega
  go_enter Tryd.func85, Tryd.ntmps85
  go_wp2_with (go_at_call 96; refine (roomR_any D a n cap m lim _ hc hn h0 h1).mono ?_; rintro e w' ⟨rfl, rfl⟩)
  go_ret
  exact ⟨rfl, rfl⟩
theorem putR_none (p : Value) (lim : Int) (xa : Option Addr) (c : Nat) (w : World) :
    Calls Tryd.prog 85 #[p, .int .i64 lim, .slice xa 0 c] w fun e w' => e = .returned (.bool true) ∧ w = w' := by
  go_enter Tryd.func85, Tryd.ntmps85
  go_wp2
  go_ret
  exact ⟨rfl, rfl⟩
theorem putR_nil (lim : Int) (xa : Option Addr) (m c : Nat) (w : World) (hpos : 0 < m) :
    Calls Tryd.prog 85 #[.pointer none, .int .i64 lim, .slice xa m c] w fun e w' => e = .returned (.bool false) ∧ w = w' := by
  have hm0 : ((m : Int) == 0) = false := by simp; omega
  go_enter Tryd.func85, Tryd.ntmps85
  go_wp2_with (go_at_call 96; refine (roomR_nil _ _ _).mono ?_; rintro e w' ⟨rfl, rfl⟩)
  go_ret
  exact ⟨rfl, rfl⟩
set_option maxHeartbeats 400000 in
theorem putR_room (T : Nat) (G : Nat → Nat) (i D : Nat) (a : Option Addr) (n cap : Nat) (xs : List Value) (lim : Int) (xa : Addr) (m c : Nat) (news : List Value) (w : World) (hp : Pile 59 T 2 w G i D (.slice a n cap) n xs)
    (hm : m ≤ 9223372036854775807) (h0 : 0 ≤ lim) (h1 : lim ≤ 100000) (hpos : 0 < m) (hroom : (n : Int) + m ≤ lim)
    (hl : news.length = m * 2) (hnews : ∀ j u, news[j]? = some u → w.cell? (xa.add j) = some u) (hone : ∀ u ∈ news, u.oneCell' = true) :
    Calls Tryd.prog 85 #[.pointer (some ⟨D, 0, none⟩), .int .i64 lim, .slice (some xa) m c] w fun e w' => e = .returned (.bool true) ∧
      ∃ G' v', Adv (· = i) w G w' G' ∧ Pile 59 T 2 w' G' i D v' (n + m) (xs ++ news) := by
  have hm0 : ((m : Int) == 0) = false := by simp; omega
  have hd : decide ((m : Int) ≤ lim - n) = true := by simp; omega
  have hc := hp.cell
  have hf := hp.frozen
  obtain ⟨i0, hi, hz0, hz1, hz2⟩ := info_parts Tryd.info59
  have HP := Lib.hid hp
  have HL := Lib.hid hl
  clear hp hl
  have hcD : ∀ w1, w.grownBy w1 (Value.slice a n cap).ownBlock → w1.cell? ⟨D, 0, none⟩ = some (.slice a n cap) ∧ w1.frozen? ⟨D, 0, none⟩ = false := fun w1 hg =>
    ⟨(World.cell?_of_block (hg.block D HP.out.lt (fun e => HP.out.ne e.symm))).trans hc, (World.frozen?_of_block (hg.block D HP.out.lt (fun e => HP.out.ne e.symm))).trans hf⟩
  have HD := Lib.hid hcD
  clear hcD
  go_enter Tryd.func85, Tryd.ntmps85
  go_wp2_with (first | (go_at_call 96; refine (roomR_any D a n cap m lim _ hc (by omega) h0 h1).mono ?_; rintro e w' ⟨rfl, rfl⟩) | (at_builtin; refine wpList_append_own2 rfl (.tmp 20) (.tmp 21) 53 rfl 59 i0 (.agg #[.int .i64 0, .int .u16 0]) 2 16 Tryd.underlying53 hi hz0 hz1 hz2 rfl (by decide) a n cap xs rfl HP.out.row xa m c news rfl HL.out hnews hone (by unfold maxLen; omega) (by omega) ?_; intro va' vc' w1 h1 h2 h3; obtain ⟨hc1, hf1⟩ := HD.out w1 h2; have H1 := Lib.hid h1; clear h1; have H2 := Lib.hid h2; clear h2; have H3 := Lib.hid h3; clear h3))
  go_ret
  exact ⟨rfl, _, _, HP.out.appended H1.out H2.out H3.out⟩

set_option maxHeartbeats 400000 in
theorem topR_any (D : Nat) (n cap : Nat) (g k j : Nat) (w : World) (hc : w.cell? ⟨D, 0, none⟩ = some (.slice (some ⟨g, 0, none⟩) n cap)) (hn : n ≤ 100000) (hj : j + k + 1 = n) :
    Calls Tryd.prog 93 #[.pointer (some ⟨D, 0, none⟩), .int .i64 j] w fun e w' => e = .returned (.pointer (some ⟨g, k * 2, none⟩)) ∧ ∃ d, w' = w.drewN d := by
  have h1 : decide ((j : Int) < 0) = false := by simp
  have h2 : decide ((n : Int) ≤ j) = false := by simp; omega
  obtain rfl : n = j + k + 1 := hj.symm
  clear hj
  go_enter Tryd.func93, Tryd.ntmps93
  go_wp2_with (go_at_call 64; refine (sizeR_any D (some ⟨g, 0, none⟩) (j + k + 1) cap _ hc).mono ?_; rintro e w' ⟨rfl, rfl⟩)
  go_quiet (fail)
  go_wp2
  rw [show j + k - j = k from by omega]
  go_ret
  exact ⟨rfl, nq, rfl⟩
theorem topR_nil (j : Int) (w : World) : Calls Tryd.prog 93 #[.pointer none, .int .i64 j] w fun e w' => e = .returned (.pointer none) ∧ w = w' := by
  go_enter Tryd.func93, Tryd.ntmps93
  by_cases h1 : j < 0
  · have h2 : decide (j < 0) = true := by simpa using h1
    go_wp2_with (go_at_call 64; refine (sizeR_nil _).mono ?_; rintro e w' ⟨rfl, rfl⟩)
    go_ret
    exact ⟨rfl, rfl⟩
  · have h2 : decide (j < 0) = false := by simpa using h1
    have h3 : decide (0 ≤ j) = true := by simp; omega
    go_wp2_with (go_at_call 64; refine (sizeR_nil _).mono ?_; rintro e w' ⟨rfl, rfl⟩)
    go_ret
    exact ⟨rfl, rfl⟩
theorem topR_out (D : Nat) (a : Option Addr) (n cap : Nat) (j : Int) (w : World) (hc : w.cell? ⟨D, 0, none⟩ = some (.slice a n cap)) (hj : j < 0 ∨ (n : Int) ≤ j) :
    Calls Tryd.prog 93 #[.pointer (some ⟨D, 0, none⟩), .int .i64 j] w fun e w' => e = .returned (.pointer none) ∧ w = w' := by
  go_enter Tryd.func93, Tryd.ntmps93
  by_cases h1 : j < 0
  · have h2 : decide (j < 0) = true := by simpa using h1
    go_wp2_with (go_at_call 64; refine (sizeR_any D a n cap _ hc).mono ?_; rintro e w' ⟨rfl, rfl⟩)
    go_ret
    exact ⟨rfl, rfl⟩
  · have h2 : decide (j < 0) = false := by simpa using h1
    have h3 : decide ((n : Int) ≤ j) = true := by simp; omega
    go_wp2_with (go_at_call 64; refine (sizeR_any D a n cap _ hc).mono ?_; rintro e w' ⟨rfl, rfl⟩)
    go_ret
    exact ⟨rfl, rfl⟩

theorem zero43 (w : World) : (zeroValue 59).run Tryd.prog w = .ok (.agg #[.int .i64 0, .int .u16 0]) w := by kernel_rfl

set_option maxHeartbeats 400000 in
theorem takeR_any (T : Nat) (G : Nat → Nat) (i D : Nat) (a : Option Addr) (m cap : Nat) (l : List (Int × Int)) (c : Int × Int) (hlm : l.length = m) (w : World) (hp : Pile 59 T 2 w G i D (.slice a (m + 1) cap) (m + 1) (cellsR (l ++ [c]))) :
    Calls Tryd.prog 95 #[.pointer (some ⟨D, 0, none⟩)] w fun e w' => e = .returned (.agg #[.int .i64 c.1, .int .u16 c.2]) ∧ ∃ G', Adv (· = i) w G w' G' ∧ Pile 59 T 2 w' G' i D (.slice a m cap) m (cellsR l) := by
  obtain ⟨g, rfl, hlc, hcap, hgl, hGg, c1, c2, f1, f2⟩ := hp.atR m c (by rw [← hlm]; simp)
  have hc := hp.cell
  have hf := hp.frozen
  have hmax : cap ≤ 9223372036854775807 := by unfold maxLen at hcap; omega
  have hD := hp.lt
  have HP := Lib.hid hp
  have HL := Lib.hid hlm
  clear hp hcap hGg hlm
  go_enter Tryd.func95, Tryd.ntmps95
  go_wp2
  obtain ⟨h1, h2⟩ := HP.out.cut (m := m) (by omega)
  have h3 := h2 (.inr rfl)
  rw [cellsR_append, List.take_left' (by rw [cellsR_length, HL.out])] at h3
  refine bodyPost_ret (v := .agg #[.int .i64 c.1, .int .u16 c.2]) (by simp [results, Tryd.results95, go_sem]) rfl ⟨rfl, _, (h1.alloc _ 0).alloc _ 0, (h3.alloc _ 0).alloc _ 0⟩

theorem allR_nil (w : World) : Calls Tryd.prog 59 #[.pointer none] w fun e w' => e = .returned (.slice none 0 0) ∧ w = w' := by
  go_enter Tryd.func59, Tryd.ntmps59
  go_wp2_with (go_at_call 64; refine (sizeR_nil _).mono ?_; rintro e w' ⟨rfl, rfl⟩)
  go_ret
  exact ⟨rfl, rfl⟩
theorem allR_none (D : Nat) (a : Option Addr) (cap : Nat) (w : World) (hc : w.cell? ⟨D, 0, none⟩ = some (.slice a 0 cap)) :
    Calls Tryd.prog 59 #[.pointer (some ⟨D, 0, none⟩)] w fun e w' => e = .returned (.slice none 0 0) ∧ w = w' := by
  go_enter Tryd.func59, Tryd.ntmps59
  go_wp2_with (go_at_call 64; refine (sizeR_any D a 0 cap _ hc).mono ?_; rintro e w' ⟨rfl, rfl⟩)
  go_ret
  exact ⟨rfl, rfl⟩
set_option maxRecDepth 100000 in
set_option maxHeartbeats 400000 in
theorem allR_some (D : Nat) (a : Addr) (n cap : Nat) (xs : List Value) (w : World) (hn0 : 0 < n) (hn1 : n ≤ 1000) (hl : xs.length = n * 2) (hone : ∀ u ∈ xs, u.oneCell' = true)
    (hc : w.cell? ⟨D, 0, none⟩ = some (.slice (some a) n cap)) (hx : ∀ j u, xs[j]? = some u → w.cell? (a.add j) = some u) (hb : a.block < w.heap.size) :
    Calls Tryd.prog 59 #[.pointer (some ⟨D, 0, none⟩)] w fun e w' => e = .returned (.slice (some ⟨w.heap.size, 0, none⟩) n n) ∧ w' = w.alloc (.cells xs.toArray 59) := by
  have hm0 : ((n : Int) == 0) = false := by simp; omega
  obtain ⟨i0, hi, hz0, hz1, hz2⟩ := info_parts Tryd.info59
  have hmk := fun w1 => run_make (P := Tryd.prog) w1 53 59 i0 (.agg #[.int .i64 0, .int .u16 0]) Tryd.underlying53 hi hz0 .i64 .i64 n n (by omega) (by omega) (by rw [hz2]; omega) (by omega)
  rw [hz1, Int.toNat_natCast] at hmk
  have HL := Lib.hid hl
  clear hl
  have hD : D < w.heap.size := World.block_lt_of_cell? w _ hc
  go_enter Tryd.func59, Tryd.ntmps59
  go_wp2_with (first | (go_at_call 64; refine (sizeR_any D (some a) n cap _ hc).mono ?_; rintro e w' ⟨rfl, rfl⟩) | (refine wpList_copy_new rfl (.tmp 13) (.tmp 17) 53 53 rfl 59 i0 Tryd.underlying53 hi n n a cap rfl rfl _ xs (by rw [HL.out, hz1]) (by rw [HL.out]; simp [size_madeCells]) hx hb hone ?_))
  go_ret
  exact ⟨rfl, rfl⟩
end Go.Proofs.YtdnalhjdmlkbmaaDoor
