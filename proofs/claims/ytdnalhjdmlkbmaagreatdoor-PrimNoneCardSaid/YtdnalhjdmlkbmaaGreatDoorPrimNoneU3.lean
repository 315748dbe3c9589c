/- slices.Sorted of the keys of a map with two banks; Store, at every address; SetCell; SetCell; Plot, Play, Choose, Pad; The arithmetic of cells; Bytes and cells are within their ranges; two bytes make a cell; A desk over the two stacks and a memory, all at once; what each call leaves of it; num.Unary and num.Binary at numbers that are none of theirs; What does hands back; Of, Plain, adds; entryOf, looks, adds; Do, whatever the primitive; What the primitives of the return stack do on a desk; num.Unary and num.Binary at their numbers; What the references' comparisons answer. -/
import Derived.Test.YtdnalhjdmlkbmaaGreatDoorProg
import Derived.Outline
import Derived.Laws.EntriesVeiled
import Derived.Deep.RegionHeld3
import Derived.Deep.DeepCutAuto
import Derived.Laws.StructEq
import Derived.Test.YtdnalhjdmlkbmaaGreatDoorPrimNoneU1
import Derived.Test.YtdnalhjdmlkbmaaGreatDoorPrimNoneU2
set_option linter.unusedVariables false
set_option linter.unusedSimpArgs false
set_option linter.unnecessarySimpa false
namespace Go.Proofs.YtdnalhjdmlkbmaaGreatDoor
open Go.RowKit
set_option linter.unusedVariables false
set_option maxRecDepth 100000 in
theorem len64_2 (w : World) : Calls Tryz.prog 215 #[.int .u64 2] w fun e w' => e = .returned (.int .i64 2) ∧ w = w' := by
  go_enter Tryz.func215, Tryz.ntmps215
  go_wp2
  go_ret
  exact ⟨by kernel_rfl, rfl⟩
theorem len_2 (w : World) : Calls Tryz.prog 197 #[.int .u64 2] w fun e w' => e = .returned (.int .i64 2) ∧ w = w' := by
  go_enter Tryz.func197, Tryz.ntmps197
  go_wp2_with fail
  refine (len64_2 w).mono ?_
  rintro e w' ⟨rfl, rfl⟩
  go_wp2_with fail
  go_ret
  exact ⟨rfl, rfl⟩
/-- What a sort of two leaves. -/
def Sort2Is (G : Nat → Nat) (i g c : Nat) (a b : Int) (w : World) (e : Ending) (w' : World) : Prop :=
  e = .returned (.tuple #[]) ∧ Adv (fun o => o = i) w G w' G ∧ Row 5 1 w' G i (.slice (some ⟨g, 0, none⟩) 2 c) 2 ((sort2 a b).map u8v)
set_option maxRecDepth 100000 in
set_option maxHeartbeats 1000000 in
theorem pdq2 (G : Nat → Nat) (i g c : Nat) (a b : Int) (w : World) (h : Row 5 1 w G i (.slice (some ⟨g, 0, none⟩) 2 c) 2 ([a, b].map u8v)) :
    Calls Tryz.prog 196 #[.slice (some ⟨g, 0, none⟩) 2 c, .int .i64 0, .int .i64 2, .int .i64 2] w (Sort2Is G i g c a b w) := by
  have H := Lib.hid h
  clear h
  go_enter Tryz.func196, Tryz.ntmps196
  go_wp2_with fail
  go_loopw [1, 2, 3] (fun v1 v2 v3 wr => v1 = .int .i64 0 ∧ v2 = .int .i64 2 ∧ v3 = .int .i64 2 ∧ wr = w) (fun _ _ _ _ => 0)
  case atStart => exact ⟨rfl, rfl, rfl, rfl⟩
  case round =>
    obtain ⟨rfl, rfl, rfl, rfl⟩ := hrel
    go_wp2_with fail
    refine (insertion2 G i g c a b _ H.out).mono ?_
    rintro e w' ⟨rfl, h1, h2⟩
    have H2 := Lib.hid (And.intro h1 h2)
    clear h1 h2
    go_wp2_with fail
    refine bodyPost_ret (results_none rfl _ _ _) rfl ?_
    exact ⟨rfl, H2.out.1, H2.out.2⟩
set_option maxHeartbeats 1000000 in
theorem sort_2 (G : Nat → Nat) (i g c : Nat) (a b : Int) (w : World) (h : Row 5 1 w G i (.slice (some ⟨g, 0, none⟩) 2 c) 2 ([a, b].map u8v)) :
    Calls Tryz.prog 164 #[.slice (some ⟨g, 0, none⟩) 2 c] w (Sort2Is G i g c a b w) := by
  have H := Lib.hid h
  clear h
  go_enter Tryz.func164, Tryz.ntmps164
  go_wp2_with fail
  refine (len_2 w).mono ?_
  rintro e w' ⟨rfl, rfl⟩
  go_wp2_with fail
  refine (pdq2 G i g c a b _ H.out).mono ?_
  rintro e w' ⟨rfl, h1, h2⟩
  have H2 := Lib.hid (And.intro h1 h2)
  clear h1 h2
  go_wp2_with fail
  go_end0
  exact ⟨rfl, H2.out.1, H2.out.2⟩
/-- The keys of a map with two entries, sorted, in new memory. -/
def KeysIs (w : World) (G : Nat → Nat) (a b : Int) (e : Ending) (w' : World) : Prop :=
  ∃ g c G', e = .returned (.slice (some ⟨g, 0, none⟩) 2 c) ∧ Adv (fun _ => False) w G w' G' ∧ Row 5 1 w' G' 0 (.slice (some ⟨g, 0, none⟩) 2 c) 2 ((sort2 a b).map u8v)
theorem sort2_comm (a b : Int) : sort2 a b = sort2 b a := by
  unfold sort2
  by_cases h1 : b < a
  · rw [if_pos h1, if_neg (by omega)]
  · by_cases h2 : a < b
    · rw [if_neg h1, if_pos h2]
    · obtain rfl : a = b := by omega
      rfl
set_option maxHeartbeats 1000000 in
theorem sorted_2 (G : Nat → Nat) (Bm B : Nat) (l : List (Int × Value)) (a b : Int) (hl : l.map (·.1) = [a, b]) (w : World) (hBm : Bm < w.heap.size) (hm : w.cell? ⟨Bm, 0, none⟩ = some (.map (some B))) (hmap : MapI .u8 w B l) :
    Calls Tryz.prog 128 #[.func (.func 165) #[] #[.pointer (some ⟨Bm, 0, none⟩)]] w (KeysIs w G a b) := by
  have hll : l.length = 2 := by have := congrArg List.length hl; simpa using this
  have hC := collect_any Bm B l (by omega) w hBm hm hmap
  go_enter Tryz.func128, Tryz.ntmps128
  go_wp2_with fail
  refine hC.mono ?_
  rintro e w1 ⟨v, ss, rfl, hp, hrow, hnil, hbelow⟩
  rw [hl] at hp
  have hs2 : ss.length = 2 := hp.length_eq
  obtain ⟨x, y, rfl⟩ : ∃ x y, ss = [x, y] := by
    match ss, hs2 with
    | [x, y], _ => exact ⟨x, y, rfl⟩
  have hxy : sort2 x y = sort2 a b := by
    have h1 : x ∈ [a, b] := hp.mem_iff.1 (by simp)
    simp only [List.mem_cons, List.not_mem_nil, or_false] at h1
    rcases h1 with rfl | rfl
    · have := (List.perm_cons x).1 hp
      obtain rfl : y = b := by simpa using this
      rfl
    · have h2 := hp.trans (List.Perm.swap x a [])
      have := (List.perm_cons x).1 h2
      obtain rfl : y = a := by simpa using this
      exact sort2_comm _ _
  obtain ⟨g, c, rfl⟩ : ∃ g c, v = .slice (some ⟨g, 0, none⟩) 2 c := ownsRow_succ hrow
  have hg : w.heap.size ≤ g := by
    rcases hrow.2 with ⟨h, _⟩ | ⟨g', cap, cur, h, hb, _⟩
    · cases h
    · cases h; exact hb
  have HR := Lib.hid (show Row 5 1 w1 (fun b => if b < w.heap.size then 0 else 5) 5 (.slice (some ⟨g, 0, none⟩) 2 c) 2 ([x, y].map u8v) from ⟨⟨hrow.1, by
    rcases hrow.2 with ⟨h, _⟩ | ⟨g', cap, cur, h, hb, h3⟩
    · cases h
    · exact .inr ⟨g', cap, cur, h, Nat.zero_le _, h3⟩⟩, fun b hb => by cases hb; show (if g < w.heap.size then 0 else 5) = 5; rw [if_neg (by omega)]⟩)
  have HB := Lib.hid (And.intro hbelow (And.intro hg hxy))
  clear hp hrow hnil hbelow hg hxy hC hmap hm hl hs2
  go_wp2_with fail
  refine (sort_2 _ 5 g c x y _ HR.out).mono ?_
  rintro e w2 ⟨rfl, h1, h2⟩
  have H2 := Lib.hid (And.intro h1 h2)
  clear h1 h2
  go_wp2_with fail
  go_ret
  refine ⟨g, c, fun b => if b < w.heap.size then G b else 0, rfl, ?_, ?_⟩
  · have hb := HB.out.1
    have a2 := H2.out.1
    exact ⟨a2.os.trans hb.os, a2.tape.trans hb.tape, a2.output.trans hb.output, Nat.le_trans hb.size a2.size, fun b hlt => if_pos hlt, fun b hlt _ => (a2.keep b (Nat.lt_of_lt_of_le hlt hb.size) (by rw [if_pos hlt]; decide)).trans (hb.block b hlt)⟩
  · have h2 := H2.out.2
    rw [HB.out.2.2] at h2
    exact ⟨h2.row, fun b hb => by cases hb; show (if g < w.heap.size then G g else 0) = 0; rw [if_neg (by have := HB.out.2.1; omega)]⟩
end Go.Proofs.YtdnalhjdmlkbmaaGreatDoor
namespace Go.Proofs.YtdnalhjdmlkbmaaGreatDoor
open Go.RowKit

def storeF (M : MemS) (a x : Int) : MemS :=
  if a < 16384 then M else if a < 32768 then { M with banks := bankSet M.banks M.chosen (a - 16384).toNat x }
  else if a < 49152 then { M with ram := M.ram.set (a - 32768).toNat x } else if a < 52224 then { M with screen := M.screen.set (a - 49152).toNat x }
  else if a = 65280 then { M with chosen := x.tmod 16 }
  else if a = 65284 then { M with pitch := bits BinOp.or .u16 (bits BinOp.and .u16 M.pitch 65280) (IntKind.wrap .u16 x) }
  else if a = 65285 then { M with pitch := bits BinOp.or .u16 (bits BinOp.and .u16 M.pitch 255) (IntKind.wrap .u16 (IntKind.wrap .u16 x * 256)) }
  else if a = 65286 then { M with volume := x, tones := M.tones ++ [(M.cycle, M.pitch, x)] } else M
/-- Store, at every address. -/
theorem store_any (G : Nat → Nat) (i D : Nat) (M : MemS) (hm : MemOk M) (hn : M.tones.length ≤ 1000000) (a : Int) (h0 : 0 ≤ a) (h9 : a < 65536) (x : Int) (w : World) (hp : PM w G i D M) :
    Calls Tryz.prog 29 #[.pointer (some ⟨D, 0, none⟩), .int .u16 a, .int .u8 x] w fun e w' => e = .returned (.tuple #[]) ∧ ∃ G', Adv (fun o => o = i) w G w' G' ∧ PM w' G' i D (storeF M a x) := by
  have same : ∀ {e : Ending} {w' : World}, storeF M a x = M → e = .returned (.tuple #[]) ∧ w = w' → e = .returned (.tuple #[]) ∧ ∃ G', Adv (fun o => o = i) w G w' G' ∧ PM w' G' i D (storeF M a x) := fun h0 h => by
    obtain ⟨h1, rfl⟩ := h
    exact ⟨h1, G, Adv.refl _ _ _, by rw [h0]; exact hp⟩
  by_cases c1 : a < 16384
  · exact (store_low D a x c1 w).mono fun _ _ h => same (if_pos c1) h
  by_cases c2 : a < 32768
  · obtain ⟨k, rfl⟩ : ∃ k : Nat, a = 16384 + (k : Int) := ⟨(a - 16384).toNat, by omega⟩
    have e : storeF M (16384 + (k : Int)) x = { M with banks := bankSet M.banks M.chosen k x } := by
      unfold storeF; rw [if_neg c1, if_pos c2, show (16384 + (k : Int) - 16384).toNat = k from by omega]
    rw [e]
    exact (store_window G i D M hm k (by omega) x w hp).mono fun _ _ h => ⟨h.1, G, h.2⟩
  by_cases c3 : a < 49152
  · obtain ⟨k, rfl⟩ : ∃ k : Nat, a = 32768 + (k : Int) := ⟨(a - 32768).toNat, by omega⟩
    have e : storeF M (32768 + (k : Int)) x = { M with ram := M.ram.set k x } := by
      unfold storeF; rw [if_neg c1, if_neg c2, if_pos c3, show (32768 + (k : Int) - 32768).toNat = k from by omega]
    rw [e]
    exact (store_ram G i D M hm k (by omega) x w hp).mono fun _ _ h => ⟨h.1, G, h.2⟩
  by_cases c4 : a < 52224
  · obtain ⟨k, rfl⟩ : ∃ k : Nat, a = 49152 + (k : Int) := ⟨(a - 49152).toNat, by omega⟩
    have e : storeF M (49152 + (k : Int)) x = { M with screen := M.screen.set k x } := by
      unfold storeF; rw [if_neg c1, if_neg c2, if_neg c3, if_pos c4, show (49152 + (k : Int) - 49152).toNat = k from by omega]
    rw [e]
    exact (store_screen G i D M hm k (by omega) x w hp).mono fun _ _ h => ⟨h.1, G, h.2⟩
  by_cases n1 : a = 65280
  · subst n1; exact (store_65280 G i D M hm x w hp).mono fun _ _ h => ⟨h.1, G, h.2⟩
  by_cases n3 : a = 65284
  · subst n3; exact (store_65284 G i D M hm x w hp).mono fun _ _ h => ⟨h.1, G, h.2⟩
  by_cases n4 : a = 65285
  · subst n4; exact (store_65285 G i D M hm x w hp).mono fun _ _ h => ⟨h.1, G, h.2⟩
  by_cases n5 : a = 65286
  · subst n5; exact store_65286 G i D M hm hn x w hp
  exact (store_none D a x (by omega) h9 n1 n3 n4 n5 w).mono fun _ _ h => same (by simp [storeF, c1, c2, c3, c4, n1, n3, n4, n5]) h
theorem bankSet_len : ∀ (l : List (Int × List Int)) (c : Int) (k : Nat) (x : Int), (∀ p ∈ l, p.2.length = 16384) → ∀ p ∈ bankSet l c k x, p.2.length = 16384
  | [], _, _, _, _, p, hp => by simp [bankSet] at hp
  | q :: l, c, k, x, h, p, hp => by
    by_cases e : q.1 = c
    · simp only [bankSet, if_pos e, List.mem_cons] at hp
      rcases hp with rfl | hp
      · simpa using h q (by simp)
      · exact h p (by simp [hp])
    · simp only [bankSet, if_neg e, List.mem_cons] at hp
      rcases hp with rfl | hp
      · exact h _ (by simp)
      · exact bankSet_len l c k x (fun p hp => h p (by simp [hp])) p hp
theorem storeF_ok (M : MemS) (hm : MemOk M) (a x : Int) : MemOk (storeF M a x) := by
  obtain ⟨h1, h2, h3⟩ := hm
  unfold storeF
  repeat' split
  all_goals first | exact ⟨h1, h2, h3⟩ | exact ⟨h1, h2, bankSet_len _ _ _ _ h3⟩ | exact ⟨by simpa using h1, h2, h3⟩ | exact ⟨h1, by simpa using h2, h3⟩
end Go.Proofs.YtdnalhjdmlkbmaaGreatDoor
namespace Go.Proofs.YtdnalhjdmlkbmaaGreatDoor
open Go.RowKit

theorem storeF_tones (M : MemS) (a x : Int) : (storeF M a x).tones.length ≤ M.tones.length + 1 := by
  unfold storeF
  repeat' split
  all_goals first | exact Nat.le_succ _ | (simp only [List.length_append, List.length_cons, List.length_nil]; omega)
theorem setCell_any (G : Nat → Nat) (i D : Nat) (M : MemS) (hm : MemOk M) (hn : M.tones.length ≤ 999999) (a : Int) (h0 : 0 ≤ a) (h9 : a < 65536) (x : Int) (w : World) (hp : PM w G i D M) :
    Calls Tryz.prog 199 #[.pointer (some ⟨D, 0, none⟩), .int .u16 a, .int .u16 x] w fun e w' => e = .returned (.tuple #[]) ∧ ∃ G', Adv (fun o => o = i) w G w' G' ∧ PM w' G' i D (storeF (storeF M a (x % 256)) (nextA a) (x / 256 % 256)) := by
  have HP := Lib.hid hp
  clear hp
  go_enter Tryz.func199, Tryz.ntmps199
  go_wp2_with fail
  refine (store_any G i D M hm (by omega) a h0 h9 _ _ HP.out).mono ?_
  rintro e w1 ⟨rfl, G1, ha1, hp1⟩
  have H1 := Lib.hid (And.intro ha1 hp1)
  clear ha1 hp1
  go_wp2_with fail
  refine (store_any G1 i D (storeF M a (x % 256)) (storeF_ok M hm a _) (by have := storeF_tones M a (x % 256); omega) (nextA a) (nextA_lo a).1 (nextA_lo a).2 _ _ H1.out.2).mono ?_
  rintro e w2 ⟨rfl, G2, ha2, hp2⟩
  have H2 := Lib.hid (And.intro (H1.out.1.trans ha2) hp2)
  clear ha2 hp2
  go_wp2_with fail
  go_end0
  exact ⟨rfl, G2, H2.out.1, H2.out.2⟩
end Go.Proofs.YtdnalhjdmlkbmaaGreatDoor
namespace Go.Proofs.YtdnalhjdmlkbmaaGreatDoor
open Go.RowKit
set_option linter.unusedVariables false

def plotF (M : MemS) (x y c : Int) : MemS := if x < 64 ∧ y < 48 then storeF M (49152 + 64 * y + x) (c % 256) else M
def playF (M : MemS) (p v : Int) : MemS := storeF (storeF (storeF M 65284 (p % 256)) (nextA 65284) (p / 256 % 256)) 65286 v
theorem pad_any (G : Nat → Nat) (i D : Nat) (M : MemS) (hm : MemOk M) (w : World) (hp : PM w G i D M) :
    Calls Tryz.prog 202 #[.pointer (some ⟨D, 0, none⟩)] w fun e w' => e = .returned (.int .u8 M.pad) ∧ ∃ d, w' = w.drewN d := by
  have HP := Lib.hid hp
  clear hp
  go_enter Tryz.func202, Tryz.ntmps202
  go_wp2_with fail
  refine (load_any G i D M hm 65282 (by decide) (by decide) _ HP.out).mono ?_
  rintro e w' ⟨rfl, d, rfl⟩
  go_wp2_with fail
  go_ret
  exact ⟨rfl, d, rfl⟩
theorem choose_any (G : Nat → Nat) (i D : Nat) (M : MemS) (hm : MemOk M) (hn : M.tones.length ≤ 999999) (n : Int) (h0 : 0 ≤ n) (h9 : n < 65536) (w : World) (hp : PM w G i D M) :
    Calls Tryz.prog 204 #[.pointer (some ⟨D, 0, none⟩), .int .u16 n] w fun e w' => e = .returned (.tuple #[]) ∧ ∃ G', Adv (fun o => o = i) w G w' G' ∧ PM w' G' i D (storeF M 65280 (n % 256)) := by
  have HP := Lib.hid hp
  clear hp
  go_enter Tryz.func204, Tryz.ntmps204
  go_wp2_with fail
  refine (store_any G i D M hm (by omega) 65280 (by decide) (by decide) (n % 256) _ HP.out).mono ?_
  rintro e w1 ⟨rfl, G1, ha1, hp1⟩
  have H1 := Lib.hid (And.intro ha1 hp1)
  clear ha1 hp1
  go_wp2_with fail
  go_end0
  exact ⟨rfl, G1, H1.out.1, H1.out.2⟩
theorem play_any (G : Nat → Nat) (i D : Nat) (M : MemS) (hm : MemOk M) (hn : M.tones.length ≤ 99999) (p v : Int) (h0 : 0 ≤ p) (h9 : p < 65536) (w : World) (hp : PM w G i D M) :
    Calls Tryz.prog 203 #[.pointer (some ⟨D, 0, none⟩), .int .u16 p, .int .u8 v] w fun e w' => e = .returned (.tuple #[]) ∧ ∃ G', Adv (fun o => o = i) w G w' G' ∧ PM w' G' i D (playF M p v) := by
  have HP := Lib.hid hp
  clear hp
  go_enter Tryz.func203, Tryz.ntmps203
  go_wp2_with fail
  refine (setCell_any G i D M hm (by omega) 65284 (by decide) (by decide) p _ HP.out).mono ?_
  rintro e w1 ⟨rfl, G1, ha1, hp1⟩
  have H1 := Lib.hid (And.intro ha1 hp1)
  clear ha1 hp1
  go_wp2_with fail
  refine (store_any G1 i D (storeF (storeF M 65284 (p % 256)) (nextA 65284) (p / 256 % 256)) (storeF_ok _ (storeF_ok M hm _ _) _ _) (by have h1 := storeF_tones M 65284 (p % 256); have h2 := storeF_tones (storeF M 65284 (p % 256)) (nextA 65284) (p / 256 % 256); omega) 65286 (by decide) (by decide) v _ H1.out.2).mono ?_
  rintro e w2 ⟨rfl, G2, ha2, hp2⟩
  have H2 := Lib.hid (And.intro (H1.out.1.trans ha2) hp2)
  clear ha2 hp2
  go_wp2_with fail
  go_end0
  exact ⟨rfl, G2, H2.out.1, H2.out.2⟩
theorem plot_in (G : Nat → Nat) (i D : Nat) (M : MemS) (hm : MemOk M) (hn : M.tones.length ≤ 999999) (x y c : Int) (x0 : 0 ≤ x) (x1 : x < 64) (y0 : 0 ≤ y) (y1 : y < 48) (c0 : 0 ≤ c) (c1 : c < 65536) (w : World) (hp : PM w G i D M) :
    Calls Tryz.prog 201 #[.pointer (some ⟨D, 0, none⟩), .int .u16 x, .int .u16 y, .int .u16 c] w fun e w' => e = .returned (.tuple #[]) ∧ ∃ G', Adv (fun o => o = i) w G w' G' ∧ PM w' G' i D (plotF M x y c) := by
  have e : plotF M x y c = storeF M (49152 + 64 * y + x) (c % 256) := if_pos ⟨x1, y1⟩
  rw [e]
  have HP := Lib.hid hp
  have b1 : decide (x < 64) = true := by simpa using x1
  have b2 : decide (y < 48) = true := by simpa using y1
  clear hp e
  go_enter Tryz.func201, Tryz.ntmps201
  go_wp2_with fail
  refine (store_any G i D M hm (by omega) (49152 + 64 * y + x) (by omega) (by omega) (c % 256) _ HP.out).mono ?_
  rintro e w1 ⟨rfl, G1, ha1, hp1⟩
  have H1 := Lib.hid (And.intro ha1 hp1)
  clear ha1 hp1
  go_wp2_with fail
  go_end0
  exact ⟨rfl, G1, H1.out.1, H1.out.2⟩
theorem plot_out (D : Nat) (M : MemS) (x y c : Int) (h : 64 ≤ x ∨ 48 ≤ y) (w : World) :
    Calls Tryz.prog 201 #[.pointer (some ⟨D, 0, none⟩), .int .u16 x, .int .u16 y, .int .u16 c] w fun e w' => e = .returned (.tuple #[]) ∧ w = w' ∧ plotF M x y c = M := by
  have e : plotF M x y c = M := if_neg (by omega)
  by_cases hx : x < 64
  · have b1 : decide (x < 64) = true := by simpa using hx
    have b2 : decide (y < 48) = false := by simp; omega
    have HE := Lib.hid e
    clear e
    go_enter Tryz.func201, Tryz.ntmps201
    go_wp2
    go_end0
    exact ⟨rfl, rfl, HE.out⟩
  · have b1 : decide (x < 64) = false := by simp; omega
    have HE := Lib.hid e
    clear e
    go_enter Tryz.func201, Tryz.ntmps201
    go_wp2
    go_end0
    exact ⟨rfl, rfl, HE.out⟩
end Go.Proofs.YtdnalhjdmlkbmaaGreatDoor
namespace Go.Proofs.YtdnalhjdmlkbmaaGreatDoor
open Go.RowKit

theorem wrap_u16_mod (n : Int) : IntKind.wrap .u16 n = n % 65536 := by
  unfold IntKind.wrap
  simp [IntKind.bits, IntKind.signed]
theorem wrap_u8_mod (n : Int) : IntKind.wrap .u8 n = n % 256 := by
  unfold IntKind.wrap
  simp [IntKind.bits, IntKind.signed]
theorem wrap_u16_id (n : Int) (h0 : 0 ≤ n) (h : n < 65536) : IntKind.wrap .u16 n = n := by rw [wrap_u16_mod]; omega
theorem wrap_u8_id (n : Int) (h0 : 0 ≤ n) (h : n < 256) : IntKind.wrap .u8 n = n := by rw [wrap_u8_mod]; omega
theorem wrap_u16_rng (n : Int) : 0 ≤ IntKind.wrap .u16 n ∧ IntKind.wrap .u16 n < 65536 := by rw [wrap_u16_mod]; omega
theorem wrap_u8_rng (n : Int) : 0 ≤ IntKind.wrap .u8 n ∧ IntKind.wrap .u8 n < 256 := by rw [wrap_u8_mod]; omega
theorem ofInt16 (n : Nat) (h : n < 65536) : (BitVec.ofInt 16 (n : Int)).toNat = n := by
  rw [BitVec.toNat_ofInt]
  omega
theorem bits16_rng (op : BinOp) (x y : Int) : 0 ≤ bits op .u16 x y ∧ bits op .u16 x y < 65536 := wrap_u16_rng _
theorem bits_or_nat (lo hi : Nat) (h1 : lo < 256) (h2 : hi < 256) : bits BinOp.or .u16 (lo : Int) ((hi : Int) * 256) = (hi * 256 + lo : Nat) := by
  show IntKind.wrap .u16 ((BitVec.ofInt 16 (lo : Int) ||| BitVec.ofInt 16 ((hi : Int) * 256)).toNat : Nat) = _
  rw [BitVec.toNat_or, ofInt16 _ (by omega), show (hi : Int) * 256 = ((hi * 256 : Nat) : Int) from by simp, ofInt16 _ (by omega)]
  have h := Nat.shiftLeft_add_eq_or_of_lt (i := 8) (b := lo) (by omega) hi
  rw [Nat.shiftLeft_eq, show (2 : Nat) ^ 8 = 256 from rfl] at h
  rw [Nat.or_comm, ← h]
  exact wrap_u16_id _ (by omega) (by omega)
theorem bits_not (x : Nat) (h : x < 65536) : bits BinOp.xor .u16 IntKind.u16.max (x : Int) = 65535 - (x : Int) := by
  show IntKind.wrap .u16 ((BitVec.ofInt 16 ((65535 : Nat) : Int) ^^^ BitVec.ofInt 16 (x : Int)).toNat : Nat) = _
  have e : BitVec.ofInt 16 ((65535 : Nat) : Int) = BitVec.allOnes 16 := by decide
  rw [e, BitVec.allOnes_xor, BitVec.toNat_not, ofInt16 _ h]
  rw [wrap_u16_id _ (by omega) (by omega)]
  omega
theorem wrap64_id {n : Int} (h0 : -9223372036854775808 ≤ n) (h : n ≤ 9223372036854775807) : wrap64 n = n := by unfold wrap64; omega
theorem ret64 {a b : Int} (h : a = b) : Ending.returned (.int .i64 a) = .returned (.int .i64 b) := by rw [h]
/-- A cell as a number with a sign. -/
def sgn (x : Int) : Int := if x < 32768 then x else x - 65536
theorem sgn_wrap (x : Int) (h0 : 0 ≤ x) (h1 : x < 65536) : IntKind.i16.wrap x = sgn x := by
  unfold IntKind.wrap sgn
  simp [IntKind.bits, IntKind.signed]
  split <;> split <;> omega
theorem sgn_rng (x : Int) (h0 : 0 ≤ x) (h1 : x < 65536) : -32768 ≤ sgn x ∧ sgn x < 32768 := by unfold sgn; split <;> omega
theorem sgn_ne (x : Int) (h0 : 0 ≤ x) (h1 : x < 65536) (h : x ≠ 0) : sgn x ≠ 0 := by unfold sgn; split <;> omega
def flagB (b : Bool) : Int := if b then 65535 else 0
theorem flagB_rng (b : Bool) : 0 ≤ flagB b ∧ flagB b < 65536 := by cases b <;> decide
/-- A primitive of one cell, of two. -/
def unF (k : Nat) (x : Int) : Int :=
  match k with
  | 28 => 65535 - (x - 1) % 65536
  | 29 => if x < 32768 then x else 65535 - (x - 1) % 65536
  | 32 => (x + 1) % 65536
  | 33 => (x - 1) % 65536
  | 34 => (x + x) % 65536
  | 35 => sgn x / 2 % 65536
  | 39 => 65535 - x
  | 48 => flagB (x == 0)
  | 49 => flagB (decide (32768 ≤ x))
  | _ => 0
def binF (k : Nat) (x y : Int) : Int :=
  match k with
  | 21 => (x + y) % 65536
  | 22 => (x + -y % 65536) % 65536
  | 23 => x * y % 65536
  | 24 => if y = 0 then 0 else (sgn x).tdiv (sgn y) % 65536
  | 25 => if y = 0 then 0 else (sgn x).tmod (sgn y) % 65536
  | 26 => if y = 0 then 0 else x / y % 65536
  | 27 => if y = 0 then 0 else x % y % 65536
  | 30 => if sgn y < sgn x then y else x
  | 31 => if sgn x < sgn y then y else x
  | 36 => bits BinOp.and .u16 x y
  | 37 => bits BinOp.or .u16 x y
  | 38 => bits BinOp.xor .u16 x y
  | 40 => x * 2 ^ min y.toNat 16 % 65536
  | 41 => x / 2 ^ min y.toNat 16
  | 42 => flagB (x == y)
  | 43 => flagB (x != y)
  | 44 => flagB (decide (sgn x < sgn y))
  | 45 => flagB (decide (sgn y < sgn x))
  | 46 => flagB (decide (x < y))
  | 47 => flagB (decide (y < x))
  | _ => 0
theorem not16 (x : Int) (h0 : 0 ≤ x) (h1 : x < 65536) : bits BinOp.xor .u16 IntKind.u16.max x = 65535 - x := by
  obtain ⟨n, rfl⟩ : ∃ n : Nat, x = n := ⟨x.toNat, by omega⟩
  exact bits_not n (by omega)
theorem un_28 (x : Int) (_ : 0 ≤ x) (_ : x < 65536) : bits BinOp.xor .u16 IntKind.u16.max (IntKind.u16.wrap (x - 1)) = unF 28 x := by
  rw [not16 _ (wrap_u16_rng _).1 (wrap_u16_rng _).2, wrap_u16_mod]; rfl
theorem un_29 (x : Int) (_ : 0 ≤ x) (_ : x < 65536) (h : x < 32768) : x = unF 29 x := (if_pos h).symm
theorem un_29' (x : Int) (_ : 0 ≤ x) (_ : x < 65536) (h : 32768 ≤ x) : bits BinOp.xor .u16 IntKind.u16.max (IntKind.u16.wrap (x - 1)) = unF 29 x := by
  rw [not16 _ (wrap_u16_rng _).1 (wrap_u16_rng _).2, wrap_u16_mod]; exact (if_neg (by omega)).symm
theorem un_29'' (x : Int) (_ : 0 ≤ x) (_ : x < 65536) (h : 32768 ≤ x) : bits BinOp.xor .u16 IntKind.u16.max (x - 1) = unF 29 x := by
  rw [not16 _ (by omega) (by omega)]; exact ((if_neg (by omega)).trans (by omega)).symm
theorem un_32 (x : Int) (_ : 0 ≤ x) (_ : x < 65536) : IntKind.u16.wrap (x + 1) = unF 32 x := wrap_u16_mod _
theorem un_33 (x : Int) (_ : 0 ≤ x) (_ : x < 65536) : IntKind.u16.wrap (x - 1) = unF 33 x := wrap_u16_mod _
theorem un_34 (x : Int) (_ : 0 ≤ x) (_ : x < 65536) : IntKind.u16.wrap (x + x) = unF 34 x := wrap_u16_mod _
theorem un_35 (x : Int) (_ : 0 ≤ x) (_ : x < 65536) : sgn x / 2 % 65536 = unF 35 x := rfl
theorem un_39 (x : Int) (h0 : 0 ≤ x) (h1 : x < 65536) : bits BinOp.xor .u16 IntKind.u16.max x = unF 39 x := not16 x h0 h1
theorem un_48 (x : Int) (_ : 0 ≤ x) (_ : x < 65536) : flagB (x == 0) = unF 48 x := rfl
theorem un_49 (x : Int) (_ : 0 ≤ x) (_ : x < 65536) : flagB (decide (32768 ≤ x)) = unF 49 x := rfl
theorem bin_21 (x y : Int) (_ : 0 ≤ x) (_ : x < 65536) (_ : 0 ≤ y) (_ : y < 65536) : IntKind.u16.wrap (x + y) = binF 21 x y := wrap_u16_mod _
theorem bin_22 (x y : Int) (_ : 0 ≤ x) (_ : x < 65536) (_ : 0 ≤ y) (_ : y < 65536) : IntKind.u16.wrap (x + IntKind.u16.wrap (-y)) = binF 22 x y := by rw [wrap_u16_mod, wrap_u16_mod]; rfl
theorem bin_23 (x y : Int) (_ : 0 ≤ x) (_ : x < 65536) (_ : 0 ≤ y) (_ : y < 65536) : IntKind.u16.wrap (x * y) = binF 23 x y := wrap_u16_mod _
theorem bin_24z (x : Int) : binF 24 x 0 = 0 := rfl
theorem bin_25z (x : Int) : binF 25 x 0 = 0 := rfl
theorem bin_26z (x : Int) : binF 26 x 0 = 0 := rfl
theorem bin_27z (x : Int) : binF 27 x 0 = 0 := rfl
theorem tdiv_rng (a b : Int) (h0 : -32768 ≤ a) (h1 : a < 65536) : -65536 ≤ a.tdiv b ∧ a.tdiv b ≤ 65536 := by
  have h := Int.natAbs_tdiv a b
  have h2 : (a.tdiv b).natAbs ≤ a.natAbs := by rw [h]; exact Nat.div_le_self _ _
  clear h
  generalize a.tdiv b = t at h2
  omega
theorem bin_24 (x y : Int) (h0 : 0 ≤ x) (h1 : x < 65536) (_ : 0 ≤ y) (_ : y < 65536) (h : y ≠ 0) : wrap64 ((sgn x).tdiv (sgn y)) % 65536 = binF 24 x y := by
  have hs := sgn_rng x h0 h1
  have ht := tdiv_rng (sgn x) (sgn y) hs.1 (by omega)
  rw [wrap64_id (by omega) (by omega)]; exact (if_neg h).symm
theorem bin_25 (x y : Int) (_ : 0 ≤ x) (_ : x < 65536) (_ : 0 ≤ y) (_ : y < 65536) (h : y ≠ 0) : (sgn x).tmod (sgn y) % 65536 = binF 25 x y := (if_neg h).symm
theorem bin_26 (x y : Int) (_ : 0 ≤ x) (_ : x < 65536) (_ : 0 ≤ y) (_ : y < 65536) (h : y ≠ 0) : x / y % 65536 = binF 26 x y := (if_neg h).symm
theorem bin_27 (x y : Int) (_ : 0 ≤ x) (_ : x < 65536) (_ : 0 ≤ y) (_ : y < 65536) (h : y ≠ 0) : x % y % 65536 = binF 27 x y := (if_neg h).symm
theorem bin_30 (x y : Int) (h : sgn y < sgn x) : y = binF 30 x y := (if_pos h).symm
theorem bin_30' (x y : Int) (h : sgn x ≤ sgn y) : x = binF 30 x y := (if_neg (by omega)).symm
theorem bin_31 (x y : Int) (h : sgn x < sgn y) : y = binF 31 x y := (if_pos h).symm
theorem bin_31' (x y : Int) (h : sgn y ≤ sgn x) : x = binF 31 x y := (if_neg (by omega)).symm
theorem bin_36 (x y : Int) (_ : 0 ≤ x) (_ : x < 65536) (_ : 0 ≤ y) (_ : y < 65536) : bits BinOp.and .u16 x y = binF 36 x y := rfl
theorem bin_37 (x y : Int) (_ : 0 ≤ x) (_ : x < 65536) (_ : 0 ≤ y) (_ : y < 65536) : bits BinOp.or .u16 x y = binF 37 x y := rfl
theorem bin_38 (x y : Int) (_ : 0 ≤ x) (_ : x < 65536) (_ : 0 ≤ y) (_ : y < 65536) : bits BinOp.xor .u16 x y = binF 38 x y := rfl
theorem bin_40 (x y : Int) (_ : 0 ≤ x) (_ : x < 65536) (_ : 0 ≤ y) (_ : y < 65536) : IntKind.u16.wrap (x * 2 ^ min y.toNat 16) = binF 40 x y := wrap_u16_mod _
theorem bin_41 (x y : Int) (_ : 0 ≤ x) (_ : x < 65536) (_ : 0 ≤ y) (_ : y < 65536) : x / 2 ^ min y.toNat 16 = binF 41 x y := rfl
theorem bin_42 (x y : Int) : flagB (x == y) = binF 42 x y := rfl
theorem bin_43 (x y : Int) : flagB (x != y) = binF 43 x y := rfl
theorem bin_44 (x y : Int) : flagB (decide (sgn x < sgn y)) = binF 44 x y := rfl
theorem bin_45 (x y : Int) : flagB (decide (sgn y < sgn x)) = binF 45 x y := rfl
theorem bin_46 (x y : Int) : flagB (decide (x < y)) = binF 46 x y := rfl
theorem bin_47 (x y : Int) : flagB (decide (y < x)) = binF 47 x y := rfl
theorem unF_rng (k : Nat) (x : Int) (h0 : 0 ≤ x) (h1 : x < 65536) : 0 ≤ unF k x ∧ unF k x < 65536 := by
  unfold unF
  split
  all_goals first | exact flagB_rng _ | (split <;> omega) | omega
theorem binF_rng (k : Nat) (x y : Int) (h0 : 0 ≤ x) (h1 : x < 65536) (y0 : 0 ≤ y) (y1 : y < 65536) : 0 ≤ binF k x y ∧ binF k x y < 65536 := by
  unfold binF
  split
  all_goals first | exact flagB_rng _ | exact bits16_rng _ _ _ | omega | (split <;> omega) | skip
  all_goals
    have hp : (0 : Int) < 2 ^ min y.toNat 16 := Int.pow_pos (by decide)
    exact ⟨Int.ediv_nonneg h0 (Int.le_of_lt hp), Int.lt_of_le_of_lt (Int.ediv_le_self _ h0) h1⟩
end Go.Proofs.YtdnalhjdmlkbmaaGreatDoor
namespace Go.Proofs.YtdnalhjdmlkbmaaGreatDoor
open Go.RowKit

theorem and255 (x : Int) (h0 : 0 ≤ x) (h1 : x < 65536) : IntKind.wrap .u8 (bits BinOp.and .u16 x 255) = x % 256 := by
  obtain ⟨n, rfl⟩ : ∃ n : Nat, x = n := ⟨x.toNat, by omega⟩
  have e : bits BinOp.and .u16 (n : Int) 255 = ((n % 256 : Nat) : Int) := by
    show IntKind.wrap .u16 ((BitVec.ofInt 16 (n : Int) &&& BitVec.ofInt 16 ((255 : Nat) : Int)).toNat : Nat) = _
    rw [BitVec.toNat_and, ofInt16 _ (by omega), ofInt16 255 (by omega), show (255 : Nat) = 2 ^ 8 - 1 from rfl, Nat.and_two_pow_sub_one_eq_mod]
    exact wrap_u16_id _ (by omega) (by omega)
  rw [e, wrap_u8_id _ (by omega) (by omega)]; omega
/-- Two bytes, the low one first, as the program makes a cell of them. -/
def pairF (lo hi : Int) : Int := bits BinOp.or .u16 (IntKind.wrap .u16 lo) (IntKind.wrap .u16 (IntKind.wrap .u16 hi * 256))
theorem pairF_rng (lo hi : Int) : 0 ≤ pairF lo hi ∧ pairF lo hi < 65536 := bits16_rng _ _ _
theorem pairF_eq (lo hi : Int) (l0 : 0 ≤ lo) (l1 : lo < 256) (h0 : 0 ≤ hi) (h1 : hi < 256) : pairF lo hi = hi * 256 + lo := by
  obtain ⟨l, rfl⟩ : ∃ l : Nat, lo = l := ⟨lo.toNat, by omega⟩
  obtain ⟨h, rfl⟩ : ∃ h : Nat, hi = h := ⟨hi.toNat, by omega⟩
  unfold pairF
  rw [wrap_u16_id (l : Int) (by omega) (by omega), wrap_u16_id (h : Int) (by omega) (by omega), wrap_u16_id _ (by omega) (by omega), bits_or_nat l h (by omega) (by omega)]
  simp
theorem cellF_pair (M : MemS) (a : Int) : cellF M a = pairF (loadF M a) (loadF M (nextA a)) := rfl

def B8 (l : List Int) : Prop := ∀ x ∈ l, 0 ≤ x ∧ x < 256
def D16 (l : List Int) : Prop := ∀ x ∈ l, 0 ≤ x ∧ x < 65536
def R16 (l : List (Int × Int)) : Prop := ∀ x ∈ l, 0 ≤ x.2 ∧ x.2 < 65536
theorem B8.getD {l : List Int} (h : B8 l) (k : Nat) : 0 ≤ l.getD k 0 ∧ l.getD k 0 < 256 := by
  rw [List.getD_eq_getElem?_getD]
  cases e : l[k]? with
  | none => exact ⟨Int.le_refl _, by decide⟩
  | some x => exact h x (List.mem_of_getElem? e)
theorem B8.set {l : List Int} (h : B8 l) (k : Nat) {x : Int} (hx : 0 ≤ x ∧ x < 256) : B8 (l.set k x) := by
  intro y hy
  rcases List.mem_or_eq_of_mem_set hy with h1 | rfl
  · exact h y h1
  · exact hx
theorem B8.nil : B8 [] := fun _ h => by simp at h
theorem D16.nil : D16 [] := fun _ h => by simp at h
theorem D16.append {l m : List Int} (h : D16 l) (k : D16 m) : D16 (l ++ m) := fun x hx => by
  rcases List.mem_append.1 hx with h1 | h1
  · exact h x h1
  · exact k x h1
theorem D16.one {x : Int} (h : 0 ≤ x ∧ x < 65536) : D16 [x] := fun y hy => by rw [List.mem_singleton.1 hy]; exact h
theorem D16.left {l m : List Int} (h : D16 (l ++ m)) : D16 l := fun x hx => h x (List.mem_append_left _ hx)
theorem D16.right {l m : List Int} (h : D16 (l ++ m)) : D16 m := fun x hx => h x (List.mem_append_right _ hx)
theorem R16.append {l m : List (Int × Int)} (h : R16 l) (k : R16 m) : R16 (l ++ m) := fun x hx => by
  rcases List.mem_append.1 hx with h1 | h1
  · exact h x h1
  · exact k x h1
theorem R16.left {l m : List (Int × Int)} (h : R16 (l ++ m)) : R16 l := fun x hx => h x (List.mem_append_left _ hx)
theorem R16.one {x : Int × Int} (h : 0 ≤ x.2 ∧ x.2 < 65536) : R16 [x] := fun y hy => by rw [List.mem_singleton.1 hy]; exact h
/-- All that a memory holds is within its ranges. -/
structure MemR (M : MemS) : Prop where
  banks : ∀ p ∈ M.banks, B8 p.2
  ram : B8 M.ram
  screen : B8 M.screen
  chosen : 0 ≤ M.chosen ∧ M.chosen < 16
  pad : 0 ≤ M.pad ∧ M.pad < 256
  volume : 0 ≤ M.volume ∧ M.volume < 256
  pitch : 0 ≤ M.pitch ∧ M.pitch < 65536
  time : 0 ≤ M.time ∧ M.time < 65536
theorem bankF_rng : ∀ (l : List (Int × List Int)) (c : Int), (∀ p ∈ l, B8 p.2) → B8 ((bankF l c).getD [])
  | [], _, _ => B8.nil
  | q :: l, c, h => by
    by_cases e : q.1 = c
    · simp only [bankF, if_pos e, Option.getD_some]; exact h q (by simp)
    · simp only [bankF, if_neg e]; exact bankF_rng l c fun p hp => h p (by simp [hp])
theorem portF_rng {M : MemS} (h : MemR M) (a : Int) : 0 ≤ portF M a ∧ portF M a < 256 := by
  have h1 := h.chosen
  unfold portF
  repeat' split
  all_goals first | exact wrap_u8_rng _ | exact h.pad | exact h.volume | exact ⟨h1.1, by omega⟩ | exact ⟨Int.le_refl _, by decide⟩
theorem loadF_rng {M : MemS} (h : MemR M) (a : Int) : 0 ≤ loadF M a ∧ loadF M a < 256 := by
  unfold loadF
  repeat' split
  · exact ⟨Int.le_refl _, by decide⟩
  · exact (bankF_rng _ _ h.banks).getD _
  · exact h.ram.getD _
  · exact h.screen.getD _
  · exact portF_rng h a
theorem cellF_rng (M : MemS) (a : Int) : 0 ≤ cellF M a ∧ cellF M a < 65536 := bits16_rng _ _ _
theorem bankSet_rng : ∀ (l : List (Int × List Int)) (c : Int) (k : Nat) (x : Int), (0 ≤ x ∧ x < 256) → (∀ p ∈ l, B8 p.2) → ∀ p ∈ bankSet l c k x, B8 p.2
  | [], _, _, _, _, _, p, hp => by simp [bankSet] at hp
  | q :: l, c, k, x, hx, h, p, hp => by
    by_cases e : q.1 = c
    · simp only [bankSet, if_pos e, List.mem_cons] at hp
      rcases hp with rfl | hp
      · exact (h q (by simp)).set _ hx
      · exact h p (by simp [hp])
    · simp only [bankSet, if_neg e, List.mem_cons] at hp
      rcases hp with rfl | hp
      · exact h _ (by simp)
      · exact bankSet_rng l c k x hx (fun p hp => h p (by simp [hp])) p hp
theorem storeF_rng {M : MemS} (h : MemR M) (a : Int) {x : Int} (hx : 0 ≤ x ∧ x < 256) : MemR (storeF M a x) := by
  obtain ⟨h1, h2, h3, h4, h5, h6, h7, h8⟩ := h
  unfold storeF
  repeat' split
  · exact ⟨h1, h2, h3, h4, h5, h6, h7, h8⟩
  · exact ⟨bankSet_rng _ _ _ _ hx h1, h2, h3, h4, h5, h6, h7, h8⟩
  · exact ⟨h1, h2.set _ hx, h3, h4, h5, h6, h7, h8⟩
  · exact ⟨h1, h2, h3.set _ hx, h4, h5, h6, h7, h8⟩
  · refine ⟨h1, h2, h3, ?_, h5, h6, h7, h8⟩
    show 0 ≤ x.tmod 16 ∧ x.tmod 16 < 16
    rw [Int.tmod_eq_emod_of_nonneg hx.1]; omega
  · have hb := bits16_rng BinOp.or (bits BinOp.and .u16 M.pitch 65280) (IntKind.wrap .u16 x)
    exact ⟨h1, h2, h3, h4, h5, h6, hb, h8⟩
  · have hb := bits16_rng BinOp.or (bits BinOp.and .u16 M.pitch 255) (IntKind.wrap .u16 (IntKind.wrap .u16 x * 256))
    exact ⟨h1, h2, h3, h4, h5, h6, hb, h8⟩
  · exact ⟨h1, h2, h3, h4, h5, hx, h7, h8⟩
  · exact ⟨h1, h2, h3, h4, h5, h6, h7, h8⟩
/-- SetCell's memory. -/
def setCellF (M : MemS) (a x : Int) : MemS := storeF (storeF M a (x % 256)) (nextA a) (x / 256 % 256)
theorem byte_rng (x : Int) : 0 ≤ x % 256 ∧ x % 256 < 256 := by omega
theorem setCellF_rng {M : MemS} (h : MemR M) (a x : Int) : MemR (setCellF M a x) := storeF_rng (storeF_rng h _ (byte_rng _)) _ (byte_rng _)
theorem setCellF_ok {M : MemS} (h : MemOk M) (a x : Int) : MemOk (setCellF M a x) := storeF_ok _ (storeF_ok _ h _ _) _ _
theorem setCellF_tones (M : MemS) (a x : Int) : (setCellF M a x).tones.length ≤ M.tones.length + 2 := by
  have h1 := storeF_tones M a (x % 256)
  have h2 := storeF_tones (storeF M a (x % 256)) (nextA a) (x / 256 % 256)
  unfold setCellF; omega
theorem plotF_rng {M : MemS} (h : MemR M) (x y c : Int) : MemR (plotF M x y c) := by
  unfold plotF; split
  · exact storeF_rng h _ (byte_rng _)
  · exact h
theorem plotF_ok {M : MemS} (h : MemOk M) (x y c : Int) : MemOk (plotF M x y c) := by
  unfold plotF; split
  · exact storeF_ok _ h _ _
  · exact h
theorem plotF_tones (M : MemS) (x y c : Int) : (plotF M x y c).tones.length ≤ M.tones.length + 1 := by
  unfold plotF; split
  · exact storeF_tones _ _ _
  · omega
theorem playF_rng {M : MemS} (h : MemR M) (p : Int) {v : Int} (hv : 0 ≤ v ∧ v < 256) : MemR (playF M p v) := storeF_rng (storeF_rng (storeF_rng h _ (byte_rng _)) _ (byte_rng _)) _ hv
theorem playF_ok {M : MemS} (h : MemOk M) (p v : Int) : MemOk (playF M p v) := storeF_ok _ (storeF_ok _ (storeF_ok _ h _ _) _ _) _ _
theorem playF_tones (M : MemS) (p v : Int) : (playF M p v).tones.length ≤ M.tones.length + 3 := by
  have h1 := setCellF_tones M 65284 p
  have h2 := storeF_tones (setCellF M 65284 p) 65286 v
  show (storeF (setCellF M 65284 p) 65286 v).tones.length ≤ _
  omega
end Go.Proofs.YtdnalhjdmlkbmaaGreatDoor
namespace Go.Proofs.YtdnalhjdmlkbmaaGreatDoor
open Go.RowKit
set_option linter.unusedVariables false

/-- One of three owners. -/
def S3 (i j q : Nat) : Nat → Prop := fun o => o = i ∨ o = j ∨ o = q
/-- Three owners, none of them nobody. -/
structure Own3 (i j q : Nat) : Prop where
  i0 : i ≠ 0
  j0 : j ≠ 0
  q0 : q ≠ 0
  ij : i ≠ j
  iq : i ≠ q
  jq : j ≠ q
theorem Own3.zero {i j q : Nat} (h : Own3 i j q) : ¬ S3 i j q 0 := by
  rintro (e | e | e)
  · exact h.i0 e.symm
  · exact h.j0 e.symm
  · exact h.q0 e.symm
/-- The two stacks and the memory. -/
structure Trio (w : World) (G : Nat → Nat) (i j q D R M : Nat) (d : List Int) (r : List (Int × Int)) (m : MemS) : Prop where
  pu : PU w G i D d
  pr : PR w G j R r
  pm : PM w G q M m
theorem Trio.adv {S : Nat → Prop} {w w' : World} {G G' : Nat → Nat} {i j q D R M : Nat} {d : List Int} {r : List (Int × Int)} {m : MemS} (h : Trio w G i j q D R M d r m) (ha : Adv S w G w' G') (h1 : ¬ S i) (h2 : ¬ S j) (h3 : ¬ S q) : Trio w' G' i j q D R M d r m :=
  ⟨h.pu.adv ha h1, h.pr.adv ha h2, h.pm.adv ha h3⟩
theorem Trio.still {w w' : World} {G G' : Nat → Nat} {i j q D R M : Nat} {d : List Int} {r : List (Int × Int)} {m : MemS} (h : Trio w G i j q D R M d r m) (ha : Adv (fun _ => False) w G w' G') : Trio w' G' i j q D R M d r m := h.adv ha id id id
/-- What a call leaves: its answer, the two stacks and the memory. -/
def Left3 (i j q D R M : Nat) (w : World) (G : Nat → Nat) (d : List Int) (r : List (Int × Int)) (m : MemS) (v : Value) (e : Ending) (w' : World) : Prop :=
  e = .returned v ∧ ∃ G', Adv (S3 i j q) w G w' G' ∧ Trio w' G' i j q D R M d r m
theorem Trio.drewN {w : World} {G : Nat → Nat} {i j q D R M : Nat} {d : List Int} {r : List (Int × Int)} {m : MemS} (h : Trio w G i j q D R M d r m) (n : Nat) : Trio (w.drewN n) G i j q D R M d r m := h.still ((Adv.refl _ w G).drewN n)
theorem Trio.drew {w : World} {G : Nat → Nat} {i j q D R M : Nat} {d : List Int} {r : List (Int × Int)} {m : MemS} (h : Trio w G i j q D R M d r m) : Trio w.drew G i j q D R M d r m := h.drewN 1
theorem Trio.alloc {w : World} {G : Nat → Nat} {i j q D R M : Nat} {d : List Int} {r : List (Int × Int)} {m : MemS} (h : Trio w G i j q D R M d r m) (o : Obj) (k : Nat) : Trio (w.alloc o) (own1 w G k) i j q D R M d r m := h.still ((Adv.refl _ w G).alloc o k)
section
variable {w : World} {G : Nat → Nat} {i j q D R M : Nat} {d : List Int} {r : List (Int × Int)} {m : MemS}

theorem Trio.pop {x : Int} (o : Own3 i j q) (h : Trio w G i j q D R M (d ++ [x]) r m) : Calls Tryz.prog 147 #[.pointer (some ⟨D, 0, none⟩)] w (Left3 i j q D R M w G d r m (.int .u16 x)) :=
  (popPU G i D d x w h.pu).mono fun e w' k => ⟨k.1, G, k.2.1.mono fun _ e => .inl e, k.2.2, h.pr.adv k.2.1 (Ne.symm o.ij), h.pm.adv k.2.1 (Ne.symm o.iq)⟩
theorem Trio.push {l : List Int} (o : Own3 i j q) (h : Trio w G i j q D R M d r m) (xa : Option Addr) (n c : Nat) (hn : l.length = n) (hroom : d.length + n ≤ 256) (hr : Reads w xa (cellsU l)) :
    Calls Tryz.prog 39 #[.pointer (some ⟨D, 0, none⟩), .slice xa n c] w (Left3 i j q D R M w G (d ++ l) r m (.int .i64 0)) :=
  (pushPU G i D d l xa n c w h.pu hn hroom hr).mono fun e w' k => by
    obtain ⟨k1, G', k2, k3⟩ := k
    exact ⟨k1, G', k2.mono fun _ e => .inl e, k3, h.pr.adv k2 (Ne.symm o.ij), h.pm.adv k2 (Ne.symm o.iq)⟩
theorem Trio.pushR {l : List (Int × Int)} (o : Own3 i j q) (h : Trio w G i j q D R M d r m) (xa : Option Addr) (n c : Nat) (hn : l.length = n) (hroom : r.length + n ≤ 128) (hr : Reads w xa (cellsR l)) :
    Calls Tryz.prog 41 #[.pointer (some ⟨R, 0, none⟩), .slice xa n c] w (Left3 i j q D R M w G d (r ++ l) m (.int .i64 0)) :=
  (pushPR G j R r l xa n c w h.pr hn hroom hr).mono fun e w' k => by
    obtain ⟨k1, G', k2, k3⟩ := k
    exact ⟨k1, G', k2.mono fun _ e => .inr (.inl e), h.pu.adv k2 o.ij, k3, h.pm.adv k2 (Ne.symm o.jq)⟩
theorem Trio.pushR_no (o : Own3 i j q) (h : Trio w G i j q D R M d r m) (xa : Option Addr) (n c : Nat) (hl : r.length ≤ 128) (hn : n ≤ 100000) (hfull : 128 < r.length + n) :
    Calls Tryz.prog 41 #[.pointer (some ⟨R, 0, none⟩), .slice xa n c] w (Left3 i j q D R M w G d r m (.int .i64 4)) :=
  (pushPR_no G j R r xa n c w h.pr hl (by omega) hfull).mono fun e w' k => by
    obtain ⟨k1, rfl⟩ := k
    exact ⟨k1, G, Adv.refl _ _ _, h⟩
theorem Trio.popR {c : Int × Int} (o : Own3 i j q) (h : Trio w G i j q D R M d (r ++ [c]) m) (hm : r.length < 100000) :
    Calls Tryz.prog 149 #[.pointer (some ⟨R, 0, none⟩), .int .i64 c.1] w (Left3 i j q D R M w G d r m (.tuple #[.int .u16 c.2, .int .i64 0])) :=
  (popPR G j R r c w h.pr hm).mono fun e w' k => by
    obtain ⟨k1, G', k2, k3⟩ := k
    exact ⟨k1, G', k2.mono fun _ e => .inr (.inl e), h.pu.adv k2 o.ij, k3, h.pm.adv k2 (Ne.symm o.jq)⟩
theorem Trio.popR_not (h : Trio w G i j q D R M d r m) (kind : Int) (hm : r.length ≤ 100000) (hne : (atE r 0 kind == 0) = false) :
    Calls Tryz.prog 149 #[.pointer (some ⟨R, 0, none⟩), .int .i64 kind] w (Left3 i j q D R M w G d r m (.tuple #[.int .u16 (atV r 0 kind), .int .i64 (atE r 0 kind)])) :=
  (popPR_not G j R r kind w h.pr hm hne).mono fun e w' k => by
    obtain ⟨k1, n, rfl⟩ := k
    exact ⟨k1, G, (Adv.refl _ _ _).drewN n, h.drewN n⟩
theorem Trio.setR {c : Int × Int} (o : Own3 i j q) (h : Trio w G i j q D R M d (r ++ [c]) m) (x : Int) (hm : r.length < 100000) :
    Calls Tryz.prog 169 #[.pointer (some ⟨R, 0, none⟩), .int .u16 x] w (Left3 i j q D R M w G d (r ++ [(c.1, x)]) m (.tuple #[])) :=
  (setPR G j R r c x w h.pr hm).mono fun e w' k => by
    obtain ⟨k1, k2, k3⟩ := k
    exact ⟨k1, G, k2.mono fun _ e => .inr (.inl e), h.pu.adv k2 o.ij, k3, h.pm.adv k2 (Ne.symm o.jq)⟩
theorem Trio.at (h : Trio w G i j q D R M d r m) (n kind : Int) (hm : r.length ≤ 100000) :
    Calls Tryz.prog 125 #[.pointer (some ⟨R, 0, none⟩), .int .i64 n, .int .i64 kind] w (Left3 i j q D R M w G d r m (.tuple #[.int .u16 (atV r n kind), .int .i64 (atE r n kind)])) :=
  (atPR G j R r n kind w h.pr hm).mono fun e w' k => by
    obtain ⟨k1, n, rfl⟩ := k
    exact ⟨k1, G, (Adv.refl _ _ _).drewN n, h.drewN n⟩
theorem Trio.load (h : Trio w G i j q D R M d r m) (hm : MemOk m) (a : Int) (h0 : 0 ≤ a) (h9 : a < 65536) :
    Calls Tryz.prog 69 #[.pointer (some ⟨M, 0, none⟩), .int .u16 a] w (Left3 i j q D R M w G d r m (.int .u8 (loadF m a))) :=
  (load_any G q M m hm a h0 h9 w h.pm).mono fun e w' k => by
    obtain ⟨k1, n, rfl⟩ := k
    exact ⟨k1, G, (Adv.refl _ _ _).drewN n, h.drewN n⟩
theorem Trio.cell (h : Trio w G i j q D R M d r m) (hm : MemOk m) (a : Int) (h0 : 0 ≤ a) (h9 : a < 65536) :
    Calls Tryz.prog 105 #[.pointer (some ⟨M, 0, none⟩), .int .u16 a] w (Left3 i j q D R M w G d r m (.int .u16 (cellF m a))) :=
  (cell_any G q M m hm a h0 h9 w h.pm).mono fun e w' k => by
    obtain ⟨k1, n, rfl⟩ := k
    exact ⟨k1, G, (Adv.refl _ _ _).drewN n, h.drewN n⟩
theorem Trio.pad (h : Trio w G i j q D R M d r m) (hm : MemOk m) :
    Calls Tryz.prog 202 #[.pointer (some ⟨M, 0, none⟩)] w (Left3 i j q D R M w G d r m (.int .u8 m.pad)) :=
  (pad_any G q M m hm w h.pm).mono fun e w' k => by
    obtain ⟨k1, n, rfl⟩ := k
    exact ⟨k1, G, (Adv.refl _ _ _).drewN n, h.drewN n⟩
theorem Trio.mem {m' : MemS} {w' : World} {G' : Nat → Nat} (o : Own3 i j q) (h : Trio w G i j q D R M d r m) (ha : Adv (fun o => o = q) w G w' G') (hp : PM w' G' q M m') : Adv (S3 i j q) w G w' G' ∧ Trio w' G' i j q D R M d r m' :=
  ⟨ha.mono fun _ e => .inr (.inr e), h.pu.adv ha o.iq, h.pr.adv ha o.jq, hp⟩
theorem Trio.store (o : Own3 i j q) (h : Trio w G i j q D R M d r m) (hm : MemOk m) (hn : m.tones.length ≤ 99999) (a : Int) (h0 : 0 ≤ a) (h9 : a < 65536) (x : Int) :
    Calls Tryz.prog 29 #[.pointer (some ⟨M, 0, none⟩), .int .u16 a, .int .u8 x] w (Left3 i j q D R M w G d r (storeF m a x) (.tuple #[])) :=
  (store_any G q M m hm (by omega) a h0 h9 x w h.pm).mono fun e w' k => by
    obtain ⟨k1, G', k2, k3⟩ := k
    exact ⟨k1, G', h.mem o k2 k3⟩
theorem Trio.setCell (o : Own3 i j q) (h : Trio w G i j q D R M d r m) (hm : MemOk m) (hn : m.tones.length ≤ 99999) (a : Int) (h0 : 0 ≤ a) (h9 : a < 65536) (x : Int) :
    Calls Tryz.prog 199 #[.pointer (some ⟨M, 0, none⟩), .int .u16 a, .int .u16 x] w (Left3 i j q D R M w G d r (setCellF m a x) (.tuple #[])) :=
  (setCell_any G q M m hm (by omega) a h0 h9 x w h.pm).mono fun e w' k => by
    obtain ⟨k1, G', k2, k3⟩ := k
    exact ⟨k1, G', h.mem o k2 k3⟩
theorem Trio.plot (o : Own3 i j q) (h : Trio w G i j q D R M d r m) (hm : MemOk m) (hn : m.tones.length ≤ 99999) (x y c : Int) (x0 : 0 ≤ x) (y0 : 0 ≤ y) (c0 : 0 ≤ c) (c1 : c < 65536) :
    Calls Tryz.prog 201 #[.pointer (some ⟨M, 0, none⟩), .int .u16 x, .int .u16 y, .int .u16 c] w (Left3 i j q D R M w G d r (plotF m x y c) (.tuple #[])) := by
  by_cases hb : x < 64 ∧ y < 48
  · exact (plot_in G q M m hm (by omega) x y c x0 hb.1 y0 hb.2 c0 c1 w h.pm).mono fun e w' k => by
      obtain ⟨k1, G', k2, k3⟩ := k
      exact ⟨k1, G', h.mem o k2 k3⟩
  · exact (plot_out M m x y c (by omega) w).mono fun e w' k => by
      obtain ⟨k1, rfl, k2⟩ := k
      exact ⟨k1, G, Adv.refl _ _ _, by rw [k2]; exact h⟩
theorem Trio.play (o : Own3 i j q) (h : Trio w G i j q D R M d r m) (hm : MemOk m) (hn : m.tones.length ≤ 99999) (p v : Int) (h0 : 0 ≤ p) (h9 : p < 65536) :
    Calls Tryz.prog 203 #[.pointer (some ⟨M, 0, none⟩), .int .u16 p, .int .u8 v] w (Left3 i j q D R M w G d r (playF m p v) (.tuple #[])) :=
  (play_any G q M m hm hn p v h0 h9 w h.pm).mono fun e w' k => by
    obtain ⟨k1, G', k2, k3⟩ := k
    exact ⟨k1, G', h.mem o k2 k3⟩
theorem Trio.choose (o : Own3 i j q) (h : Trio w G i j q D R M d r m) (hm : MemOk m) (hn : m.tones.length ≤ 99999) (n : Int) (h0 : 0 ≤ n) (h9 : n < 65536) :
    Calls Tryz.prog 204 #[.pointer (some ⟨M, 0, none⟩), .int .u16 n] w (Left3 i j q D R M w G d r (storeF m 65280 (n % 256)) (.tuple #[])) :=
  (choose_any G q M m hm (by omega) n h0 h9 w h.pm).mono fun e w' k => by
    obtain ⟨k1, G', k2, k3⟩ := k
    exact ⟨k1, G', h.mem o k2 k3⟩
theorem Trio.taken {t : List Int} {K : Nat} (o : Own3 i j q) (h : Trio w G i j q D R M (d ++ t) r m) (hk : Desk w G K D R (some ⟨M, 0, none⟩)) (n : Nat) (hn : t.length = n) (h0 : 0 < n) (h4 : n ≤ 100) :
    Calls Tryz.prog 179 #[.pointer (some ⟨K, 0, none⟩), .int .i64 n] w fun e w' =>
      ∃ b G', e = .returned (.slice (some ⟨b, 0, none⟩) n n) ∧ Adv (S3 i j q) w G w' G' ∧ Trio w' G' i j q D R M d r m ∧ Desk w' G' K D R (some ⟨M, 0, none⟩) ∧ Row 31 1 w' G' 0 (.slice (some ⟨b, 0, none⟩) n n) n (cellsU t) :=
  (taken_any G i D K R (some ⟨M, 0, none⟩) d t n hn h0 h4 o.i0 w h.pu hk).mono fun e w' k => by
    obtain ⟨b, G', k1, k2, k3, k4⟩ := k
    exact ⟨b, G', k1, k2.mono fun _ e => .inl e, ⟨k3, h.pr.adv k2 (Ne.symm o.ij), h.pm.adv k2 (Ne.symm o.iq)⟩, hk.adv k2 (Ne.symm o.i0), k4⟩
end
end Go.Proofs.YtdnalhjdmlkbmaaGreatDoor
namespace Go.Proofs.YtdnalhjdmlkbmaaGreatDoor
open Go.RowKit

theorem unary_no6 (x : Int) (w : World) : Calls Tryz.prog 155 #[.int .i64 6, .int .u16 x] w fun e w' => e = .returned (.tuple #[.int .u16 0, .bool false]) ∧ w = w' := by
  go_enter Tryz.func155, Tryz.ntmps155
  go_wp2
  go_ret2
  exact ⟨rfl, rfl⟩
theorem unary_no9 (x : Int) (w : World) : Calls Tryz.prog 155 #[.int .i64 9, .int .u16 x] w fun e w' => e = .returned (.tuple #[.int .u16 0, .bool false]) ∧ w = w' := by
  go_enter Tryz.func155, Tryz.ntmps155
  go_wp2
  go_ret2
  exact ⟨rfl, rfl⟩
theorem unary_no12 (x : Int) (w : World) : Calls Tryz.prog 155 #[.int .i64 12, .int .u16 x] w fun e w' => e = .returned (.tuple #[.int .u16 0, .bool false]) ∧ w = w' := by
  go_enter Tryz.func155, Tryz.ntmps155
  go_wp2
  go_ret2
  exact ⟨rfl, rfl⟩
theorem unary_no13 (x : Int) (w : World) : Calls Tryz.prog 155 #[.int .i64 13, .int .u16 x] w fun e w' => e = .returned (.tuple #[.int .u16 0, .bool false]) ∧ w = w' := by
  go_enter Tryz.func155, Tryz.ntmps155
  go_wp2
  go_ret2
  exact ⟨rfl, rfl⟩
theorem unary_no14 (x : Int) (w : World) : Calls Tryz.prog 155 #[.int .i64 14, .int .u16 x] w fun e w' => e = .returned (.tuple #[.int .u16 0, .bool false]) ∧ w = w' := by
  go_enter Tryz.func155, Tryz.ntmps155
  go_wp2
  go_ret2
  exact ⟨rfl, rfl⟩
theorem unary_no15 (x : Int) (w : World) : Calls Tryz.prog 155 #[.int .i64 15, .int .u16 x] w fun e w' => e = .returned (.tuple #[.int .u16 0, .bool false]) ∧ w = w' := by
  go_enter Tryz.func155, Tryz.ntmps155
  go_wp2
  go_ret2
  exact ⟨rfl, rfl⟩
theorem unary_no16 (x : Int) (w : World) : Calls Tryz.prog 155 #[.int .i64 16, .int .u16 x] w fun e w' => e = .returned (.tuple #[.int .u16 0, .bool false]) ∧ w = w' := by
  go_enter Tryz.func155, Tryz.ntmps155
  go_wp2
  go_ret2
  exact ⟨rfl, rfl⟩
theorem unary_no17 (x : Int) (w : World) : Calls Tryz.prog 155 #[.int .i64 17, .int .u16 x] w fun e w' => e = .returned (.tuple #[.int .u16 0, .bool false]) ∧ w = w' := by
  go_enter Tryz.func155, Tryz.ntmps155
  go_wp2
  go_ret2
  exact ⟨rfl, rfl⟩
theorem unary_no18 (x : Int) (w : World) : Calls Tryz.prog 155 #[.int .i64 18, .int .u16 x] w fun e w' => e = .returned (.tuple #[.int .u16 0, .bool false]) ∧ w = w' := by
  go_enter Tryz.func155, Tryz.ntmps155
  go_wp2
  go_ret2
  exact ⟨rfl, rfl⟩
theorem unary_no19 (x : Int) (w : World) : Calls Tryz.prog 155 #[.int .i64 19, .int .u16 x] w fun e w' => e = .returned (.tuple #[.int .u16 0, .bool false]) ∧ w = w' := by
  go_enter Tryz.func155, Tryz.ntmps155
  go_wp2
  go_ret2
  exact ⟨rfl, rfl⟩
theorem unary_no20 (x : Int) (w : World) : Calls Tryz.prog 155 #[.int .i64 20, .int .u16 x] w fun e w' => e = .returned (.tuple #[.int .u16 0, .bool false]) ∧ w = w' := by
  go_enter Tryz.func155, Tryz.ntmps155
  go_wp2
  go_ret2
  exact ⟨rfl, rfl⟩
theorem unary_no21 (x : Int) (w : World) : Calls Tryz.prog 155 #[.int .i64 21, .int .u16 x] w fun e w' => e = .returned (.tuple #[.int .u16 0, .bool false]) ∧ w = w' := by
  go_enter Tryz.func155, Tryz.ntmps155
  go_wp2
  go_ret2
  exact ⟨rfl, rfl⟩
theorem unary_no22 (x : Int) (w : World) : Calls Tryz.prog 155 #[.int .i64 22, .int .u16 x] w fun e w' => e = .returned (.tuple #[.int .u16 0, .bool false]) ∧ w = w' := by
  go_enter Tryz.func155, Tryz.ntmps155
  go_wp2
  go_ret2
  exact ⟨rfl, rfl⟩
theorem unary_no23 (x : Int) (w : World) : Calls Tryz.prog 155 #[.int .i64 23, .int .u16 x] w fun e w' => e = .returned (.tuple #[.int .u16 0, .bool false]) ∧ w = w' := by
  go_enter Tryz.func155, Tryz.ntmps155
  go_wp2
  go_ret2
  exact ⟨rfl, rfl⟩
theorem unary_no24 (x : Int) (w : World) : Calls Tryz.prog 155 #[.int .i64 24, .int .u16 x] w fun e w' => e = .returned (.tuple #[.int .u16 0, .bool false]) ∧ w = w' := by
  go_enter Tryz.func155, Tryz.ntmps155
  go_wp2
  go_ret2
  exact ⟨rfl, rfl⟩
theorem unary_no25 (x : Int) (w : World) : Calls Tryz.prog 155 #[.int .i64 25, .int .u16 x] w fun e w' => e = .returned (.tuple #[.int .u16 0, .bool false]) ∧ w = w' := by
  go_enter Tryz.func155, Tryz.ntmps155
  go_wp2
  go_ret2
  exact ⟨rfl, rfl⟩
theorem unary_no26 (x : Int) (w : World) : Calls Tryz.prog 155 #[.int .i64 26, .int .u16 x] w fun e w' => e = .returned (.tuple #[.int .u16 0, .bool false]) ∧ w = w' := by
  go_enter Tryz.func155, Tryz.ntmps155
  go_wp2
  go_ret2
  exact ⟨rfl, rfl⟩
theorem unary_no27 (x : Int) (w : World) : Calls Tryz.prog 155 #[.int .i64 27, .int .u16 x] w fun e w' => e = .returned (.tuple #[.int .u16 0, .bool false]) ∧ w = w' := by
  go_enter Tryz.func155, Tryz.ntmps155
  go_wp2
  go_ret2
  exact ⟨rfl, rfl⟩
theorem unary_no30 (x : Int) (w : World) : Calls Tryz.prog 155 #[.int .i64 30, .int .u16 x] w fun e w' => e = .returned (.tuple #[.int .u16 0, .bool false]) ∧ w = w' := by
  go_enter Tryz.func155, Tryz.ntmps155
  go_wp2
  go_ret2
  exact ⟨rfl, rfl⟩
theorem unary_no31 (x : Int) (w : World) : Calls Tryz.prog 155 #[.int .i64 31, .int .u16 x] w fun e w' => e = .returned (.tuple #[.int .u16 0, .bool false]) ∧ w = w' := by
  go_enter Tryz.func155, Tryz.ntmps155
  go_wp2
  go_ret2
  exact ⟨rfl, rfl⟩
theorem unary_no36 (x : Int) (w : World) : Calls Tryz.prog 155 #[.int .i64 36, .int .u16 x] w fun e w' => e = .returned (.tuple #[.int .u16 0, .bool false]) ∧ w = w' := by
  go_enter Tryz.func155, Tryz.ntmps155
  go_wp2
  go_ret2
  exact ⟨rfl, rfl⟩
theorem unary_no37 (x : Int) (w : World) : Calls Tryz.prog 155 #[.int .i64 37, .int .u16 x] w fun e w' => e = .returned (.tuple #[.int .u16 0, .bool false]) ∧ w = w' := by
  go_enter Tryz.func155, Tryz.ntmps155
  go_wp2
  go_ret2
  exact ⟨rfl, rfl⟩
theorem unary_no38 (x : Int) (w : World) : Calls Tryz.prog 155 #[.int .i64 38, .int .u16 x] w fun e w' => e = .returned (.tuple #[.int .u16 0, .bool false]) ∧ w = w' := by
  go_enter Tryz.func155, Tryz.ntmps155
  go_wp2
  go_ret2
  exact ⟨rfl, rfl⟩
theorem unary_no40 (x : Int) (w : World) : Calls Tryz.prog 155 #[.int .i64 40, .int .u16 x] w fun e w' => e = .returned (.tuple #[.int .u16 0, .bool false]) ∧ w = w' := by
  go_enter Tryz.func155, Tryz.ntmps155
  go_wp2
  go_ret2
  exact ⟨rfl, rfl⟩
theorem unary_no41 (x : Int) (w : World) : Calls Tryz.prog 155 #[.int .i64 41, .int .u16 x] w fun e w' => e = .returned (.tuple #[.int .u16 0, .bool false]) ∧ w = w' := by
  go_enter Tryz.func155, Tryz.ntmps155
  go_wp2
  go_ret2
  exact ⟨rfl, rfl⟩
theorem unary_no42 (x : Int) (w : World) : Calls Tryz.prog 155 #[.int .i64 42, .int .u16 x] w fun e w' => e = .returned (.tuple #[.int .u16 0, .bool false]) ∧ w = w' := by
  go_enter Tryz.func155, Tryz.ntmps155
  go_wp2
  go_ret2
  exact ⟨rfl, rfl⟩
theorem unary_no43 (x : Int) (w : World) : Calls Tryz.prog 155 #[.int .i64 43, .int .u16 x] w fun e w' => e = .returned (.tuple #[.int .u16 0, .bool false]) ∧ w = w' := by
  go_enter Tryz.func155, Tryz.ntmps155
  go_wp2
  go_ret2
  exact ⟨rfl, rfl⟩
theorem unary_no44 (x : Int) (w : World) : Calls Tryz.prog 155 #[.int .i64 44, .int .u16 x] w fun e w' => e = .returned (.tuple #[.int .u16 0, .bool false]) ∧ w = w' := by
  go_enter Tryz.func155, Tryz.ntmps155
  go_wp2
  go_ret2
  exact ⟨rfl, rfl⟩
theorem unary_no45 (x : Int) (w : World) : Calls Tryz.prog 155 #[.int .i64 45, .int .u16 x] w fun e w' => e = .returned (.tuple #[.int .u16 0, .bool false]) ∧ w = w' := by
  go_enter Tryz.func155, Tryz.ntmps155
  go_wp2
  go_ret2
  exact ⟨rfl, rfl⟩
theorem unary_no46 (x : Int) (w : World) : Calls Tryz.prog 155 #[.int .i64 46, .int .u16 x] w fun e w' => e = .returned (.tuple #[.int .u16 0, .bool false]) ∧ w = w' := by
  go_enter Tryz.func155, Tryz.ntmps155
  go_wp2
  go_ret2
  exact ⟨rfl, rfl⟩
theorem unary_no47 (x : Int) (w : World) : Calls Tryz.prog 155 #[.int .i64 47, .int .u16 x] w fun e w' => e = .returned (.tuple #[.int .u16 0, .bool false]) ∧ w = w' := by
  go_enter Tryz.func155, Tryz.ntmps155
  go_wp2
  go_ret2
  exact ⟨rfl, rfl⟩
theorem unary_no50 (x : Int) (w : World) : Calls Tryz.prog 155 #[.int .i64 50, .int .u16 x] w fun e w' => e = .returned (.tuple #[.int .u16 0, .bool false]) ∧ w = w' := by
  go_enter Tryz.func155, Tryz.ntmps155
  go_wp2
  go_ret2
  exact ⟨rfl, rfl⟩
theorem unary_no51 (x : Int) (w : World) : Calls Tryz.prog 155 #[.int .i64 51, .int .u16 x] w fun e w' => e = .returned (.tuple #[.int .u16 0, .bool false]) ∧ w = w' := by
  go_enter Tryz.func155, Tryz.ntmps155
  go_wp2
  go_ret2
  exact ⟨rfl, rfl⟩
theorem unary_no52 (x : Int) (w : World) : Calls Tryz.prog 155 #[.int .i64 52, .int .u16 x] w fun e w' => e = .returned (.tuple #[.int .u16 0, .bool false]) ∧ w = w' := by
  go_enter Tryz.func155, Tryz.ntmps155
  go_wp2
  go_ret2
  exact ⟨rfl, rfl⟩
theorem unary_no53 (x : Int) (w : World) : Calls Tryz.prog 155 #[.int .i64 53, .int .u16 x] w fun e w' => e = .returned (.tuple #[.int .u16 0, .bool false]) ∧ w = w' := by
  go_enter Tryz.func155, Tryz.ntmps155
  go_wp2
  go_ret2
  exact ⟨rfl, rfl⟩
theorem unary_no54 (x : Int) (w : World) : Calls Tryz.prog 155 #[.int .i64 54, .int .u16 x] w fun e w' => e = .returned (.tuple #[.int .u16 0, .bool false]) ∧ w = w' := by
  go_enter Tryz.func155, Tryz.ntmps155
  go_wp2
  go_ret2
  exact ⟨rfl, rfl⟩
theorem unary_no55 (x : Int) (w : World) : Calls Tryz.prog 155 #[.int .i64 55, .int .u16 x] w fun e w' => e = .returned (.tuple #[.int .u16 0, .bool false]) ∧ w = w' := by
  go_enter Tryz.func155, Tryz.ntmps155
  go_wp2
  go_ret2
  exact ⟨rfl, rfl⟩
theorem unary_no56 (x : Int) (w : World) : Calls Tryz.prog 155 #[.int .i64 56, .int .u16 x] w fun e w' => e = .returned (.tuple #[.int .u16 0, .bool false]) ∧ w = w' := by
  go_enter Tryz.func155, Tryz.ntmps155
  go_wp2
  go_ret2
  exact ⟨rfl, rfl⟩
theorem unary_no57 (x : Int) (w : World) : Calls Tryz.prog 155 #[.int .i64 57, .int .u16 x] w fun e w' => e = .returned (.tuple #[.int .u16 0, .bool false]) ∧ w = w' := by
  go_enter Tryz.func155, Tryz.ntmps155
  go_wp2
  go_ret2
  exact ⟨rfl, rfl⟩
theorem unary_no58 (x : Int) (w : World) : Calls Tryz.prog 155 #[.int .i64 58, .int .u16 x] w fun e w' => e = .returned (.tuple #[.int .u16 0, .bool false]) ∧ w = w' := by
  go_enter Tryz.func155, Tryz.ntmps155
  go_wp2
  go_ret2
  exact ⟨rfl, rfl⟩
theorem unary_no59 (x : Int) (w : World) : Calls Tryz.prog 155 #[.int .i64 59, .int .u16 x] w fun e w' => e = .returned (.tuple #[.int .u16 0, .bool false]) ∧ w = w' := by
  go_enter Tryz.func155, Tryz.ntmps155
  go_wp2
  go_ret2
  exact ⟨rfl, rfl⟩
theorem unary_no60 (x : Int) (w : World) : Calls Tryz.prog 155 #[.int .i64 60, .int .u16 x] w fun e w' => e = .returned (.tuple #[.int .u16 0, .bool false]) ∧ w = w' := by
  go_enter Tryz.func155, Tryz.ntmps155
  go_wp2
  go_ret2
  exact ⟨rfl, rfl⟩
theorem unary_no61 (x : Int) (w : World) : Calls Tryz.prog 155 #[.int .i64 61, .int .u16 x] w fun e w' => e = .returned (.tuple #[.int .u16 0, .bool false]) ∧ w = w' := by
  go_enter Tryz.func155, Tryz.ntmps155
  go_wp2
  go_ret2
  exact ⟨rfl, rfl⟩
theorem unary_no62 (x : Int) (w : World) : Calls Tryz.prog 155 #[.int .i64 62, .int .u16 x] w fun e w' => e = .returned (.tuple #[.int .u16 0, .bool false]) ∧ w = w' := by
  go_enter Tryz.func155, Tryz.ntmps155
  go_wp2
  go_ret2
  exact ⟨rfl, rfl⟩
theorem unary_no63 (x : Int) (w : World) : Calls Tryz.prog 155 #[.int .i64 63, .int .u16 x] w fun e w' => e = .returned (.tuple #[.int .u16 0, .bool false]) ∧ w = w' := by
  go_enter Tryz.func155, Tryz.ntmps155
  go_wp2
  go_ret2
  exact ⟨rfl, rfl⟩
theorem compared_no6 (x y : Int) (w : World) : Calls Tryz.prog 176 #[.int .i64 6, .int .u16 x, .int .u16 y] w fun e w' => e = .returned (.tuple #[.int .u16 0, .bool false]) ∧ w = w' := by
  go_enter Tryz.func176, Tryz.ntmps176
  go_wp2
  go_ret2
  exact ⟨rfl, rfl⟩
theorem binary_no6 (x y : Int) (w : World) : Calls Tryz.prog 157 #[.int .i64 6, .int .u16 x, .int .u16 y] w fun e w' => e = .returned (.tuple #[.int .u16 0, .bool false]) ∧ w = w' := by
  go_enter Tryz.func157, Tryz.ntmps157
  go_wp2_with (go_at_call 176; refine (compared_no6 _ _ _).mono ?_; rintro e w' ⟨rfl, rfl⟩)
  go_ret2
  exact ⟨rfl, rfl⟩
theorem compared_no9 (x y : Int) (w : World) : Calls Tryz.prog 176 #[.int .i64 9, .int .u16 x, .int .u16 y] w fun e w' => e = .returned (.tuple #[.int .u16 0, .bool false]) ∧ w = w' := by
  go_enter Tryz.func176, Tryz.ntmps176
  go_wp2
  go_ret2
  exact ⟨rfl, rfl⟩
theorem binary_no9 (x y : Int) (w : World) : Calls Tryz.prog 157 #[.int .i64 9, .int .u16 x, .int .u16 y] w fun e w' => e = .returned (.tuple #[.int .u16 0, .bool false]) ∧ w = w' := by
  go_enter Tryz.func157, Tryz.ntmps157
  go_wp2_with (go_at_call 176; refine (compared_no9 _ _ _).mono ?_; rintro e w' ⟨rfl, rfl⟩)
  go_ret2
  exact ⟨rfl, rfl⟩
theorem compared_no12 (x y : Int) (w : World) : Calls Tryz.prog 176 #[.int .i64 12, .int .u16 x, .int .u16 y] w fun e w' => e = .returned (.tuple #[.int .u16 0, .bool false]) ∧ w = w' := by
  go_enter Tryz.func176, Tryz.ntmps176
  go_wp2
  go_ret2
  exact ⟨rfl, rfl⟩
theorem binary_no12 (x y : Int) (w : World) : Calls Tryz.prog 157 #[.int .i64 12, .int .u16 x, .int .u16 y] w fun e w' => e = .returned (.tuple #[.int .u16 0, .bool false]) ∧ w = w' := by
  go_enter Tryz.func157, Tryz.ntmps157
  go_wp2_with (go_at_call 176; refine (compared_no12 _ _ _).mono ?_; rintro e w' ⟨rfl, rfl⟩)
  go_ret2
  exact ⟨rfl, rfl⟩
theorem compared_no13 (x y : Int) (w : World) : Calls Tryz.prog 176 #[.int .i64 13, .int .u16 x, .int .u16 y] w fun e w' => e = .returned (.tuple #[.int .u16 0, .bool false]) ∧ w = w' := by
  go_enter Tryz.func176, Tryz.ntmps176
  go_wp2
  go_ret2
  exact ⟨rfl, rfl⟩
theorem binary_no13 (x y : Int) (w : World) : Calls Tryz.prog 157 #[.int .i64 13, .int .u16 x, .int .u16 y] w fun e w' => e = .returned (.tuple #[.int .u16 0, .bool false]) ∧ w = w' := by
  go_enter Tryz.func157, Tryz.ntmps157
  go_wp2_with (go_at_call 176; refine (compared_no13 _ _ _).mono ?_; rintro e w' ⟨rfl, rfl⟩)
  go_ret2
  exact ⟨rfl, rfl⟩
theorem compared_no14 (x y : Int) (w : World) : Calls Tryz.prog 176 #[.int .i64 14, .int .u16 x, .int .u16 y] w fun e w' => e = .returned (.tuple #[.int .u16 0, .bool false]) ∧ w = w' := by
  go_enter Tryz.func176, Tryz.ntmps176
  go_wp2
  go_ret2
  exact ⟨rfl, rfl⟩
theorem binary_no14 (x y : Int) (w : World) : Calls Tryz.prog 157 #[.int .i64 14, .int .u16 x, .int .u16 y] w fun e w' => e = .returned (.tuple #[.int .u16 0, .bool false]) ∧ w = w' := by
  go_enter Tryz.func157, Tryz.ntmps157
  go_wp2_with (go_at_call 176; refine (compared_no14 _ _ _).mono ?_; rintro e w' ⟨rfl, rfl⟩)
  go_ret2
  exact ⟨rfl, rfl⟩
theorem compared_no15 (x y : Int) (w : World) : Calls Tryz.prog 176 #[.int .i64 15, .int .u16 x, .int .u16 y] w fun e w' => e = .returned (.tuple #[.int .u16 0, .bool false]) ∧ w = w' := by
  go_enter Tryz.func176, Tryz.ntmps176
  go_wp2
  go_ret2
  exact ⟨rfl, rfl⟩
theorem binary_no15 (x y : Int) (w : World) : Calls Tryz.prog 157 #[.int .i64 15, .int .u16 x, .int .u16 y] w fun e w' => e = .returned (.tuple #[.int .u16 0, .bool false]) ∧ w = w' := by
  go_enter Tryz.func157, Tryz.ntmps157
  go_wp2_with (go_at_call 176; refine (compared_no15 _ _ _).mono ?_; rintro e w' ⟨rfl, rfl⟩)
  go_ret2
  exact ⟨rfl, rfl⟩
theorem compared_no16 (x y : Int) (w : World) : Calls Tryz.prog 176 #[.int .i64 16, .int .u16 x, .int .u16 y] w fun e w' => e = .returned (.tuple #[.int .u16 0, .bool false]) ∧ w = w' := by
  go_enter Tryz.func176, Tryz.ntmps176
  go_wp2
  go_ret2
  exact ⟨rfl, rfl⟩
theorem binary_no16 (x y : Int) (w : World) : Calls Tryz.prog 157 #[.int .i64 16, .int .u16 x, .int .u16 y] w fun e w' => e = .returned (.tuple #[.int .u16 0, .bool false]) ∧ w = w' := by
  go_enter Tryz.func157, Tryz.ntmps157
  go_wp2_with (go_at_call 176; refine (compared_no16 _ _ _).mono ?_; rintro e w' ⟨rfl, rfl⟩)
  go_ret2
  exact ⟨rfl, rfl⟩
theorem compared_no17 (x y : Int) (w : World) : Calls Tryz.prog 176 #[.int .i64 17, .int .u16 x, .int .u16 y] w fun e w' => e = .returned (.tuple #[.int .u16 0, .bool false]) ∧ w = w' := by
  go_enter Tryz.func176, Tryz.ntmps176
  go_wp2
  go_ret2
  exact ⟨rfl, rfl⟩
theorem binary_no17 (x y : Int) (w : World) : Calls Tryz.prog 157 #[.int .i64 17, .int .u16 x, .int .u16 y] w fun e w' => e = .returned (.tuple #[.int .u16 0, .bool false]) ∧ w = w' := by
  go_enter Tryz.func157, Tryz.ntmps157
  go_wp2_with (go_at_call 176; refine (compared_no17 _ _ _).mono ?_; rintro e w' ⟨rfl, rfl⟩)
  go_ret2
  exact ⟨rfl, rfl⟩
theorem compared_no18 (x y : Int) (w : World) : Calls Tryz.prog 176 #[.int .i64 18, .int .u16 x, .int .u16 y] w fun e w' => e = .returned (.tuple #[.int .u16 0, .bool false]) ∧ w = w' := by
  go_enter Tryz.func176, Tryz.ntmps176
  go_wp2
  go_ret2
  exact ⟨rfl, rfl⟩
theorem binary_no18 (x y : Int) (w : World) : Calls Tryz.prog 157 #[.int .i64 18, .int .u16 x, .int .u16 y] w fun e w' => e = .returned (.tuple #[.int .u16 0, .bool false]) ∧ w = w' := by
  go_enter Tryz.func157, Tryz.ntmps157
  go_wp2_with (go_at_call 176; refine (compared_no18 _ _ _).mono ?_; rintro e w' ⟨rfl, rfl⟩)
  go_ret2
  exact ⟨rfl, rfl⟩
theorem compared_no19 (x y : Int) (w : World) : Calls Tryz.prog 176 #[.int .i64 19, .int .u16 x, .int .u16 y] w fun e w' => e = .returned (.tuple #[.int .u16 0, .bool false]) ∧ w = w' := by
  go_enter Tryz.func176, Tryz.ntmps176
  go_wp2
  go_ret2
  exact ⟨rfl, rfl⟩
theorem binary_no19 (x y : Int) (w : World) : Calls Tryz.prog 157 #[.int .i64 19, .int .u16 x, .int .u16 y] w fun e w' => e = .returned (.tuple #[.int .u16 0, .bool false]) ∧ w = w' := by
  go_enter Tryz.func157, Tryz.ntmps157
  go_wp2_with (go_at_call 176; refine (compared_no19 _ _ _).mono ?_; rintro e w' ⟨rfl, rfl⟩)
  go_ret2
  exact ⟨rfl, rfl⟩
theorem compared_no20 (x y : Int) (w : World) : Calls Tryz.prog 176 #[.int .i64 20, .int .u16 x, .int .u16 y] w fun e w' => e = .returned (.tuple #[.int .u16 0, .bool false]) ∧ w = w' := by
  go_enter Tryz.func176, Tryz.ntmps176
  go_wp2
  go_ret2
  exact ⟨rfl, rfl⟩
theorem binary_no20 (x y : Int) (w : World) : Calls Tryz.prog 157 #[.int .i64 20, .int .u16 x, .int .u16 y] w fun e w' => e = .returned (.tuple #[.int .u16 0, .bool false]) ∧ w = w' := by
  go_enter Tryz.func157, Tryz.ntmps157
  go_wp2_with (go_at_call 176; refine (compared_no20 _ _ _).mono ?_; rintro e w' ⟨rfl, rfl⟩)
  go_ret2
  exact ⟨rfl, rfl⟩
theorem compared_no50 (x y : Int) (w : World) : Calls Tryz.prog 176 #[.int .i64 50, .int .u16 x, .int .u16 y] w fun e w' => e = .returned (.tuple #[.int .u16 0, .bool false]) ∧ w = w' := by
  go_enter Tryz.func176, Tryz.ntmps176
  go_wp2
  go_ret2
  exact ⟨rfl, rfl⟩
theorem binary_no50 (x y : Int) (w : World) : Calls Tryz.prog 157 #[.int .i64 50, .int .u16 x, .int .u16 y] w fun e w' => e = .returned (.tuple #[.int .u16 0, .bool false]) ∧ w = w' := by
  go_enter Tryz.func157, Tryz.ntmps157
  go_wp2_with (go_at_call 176; refine (compared_no50 _ _ _).mono ?_; rintro e w' ⟨rfl, rfl⟩)
  go_ret2
  exact ⟨rfl, rfl⟩
theorem compared_no51 (x y : Int) (w : World) : Calls Tryz.prog 176 #[.int .i64 51, .int .u16 x, .int .u16 y] w fun e w' => e = .returned (.tuple #[.int .u16 0, .bool false]) ∧ w = w' := by
  go_enter Tryz.func176, Tryz.ntmps176
  go_wp2
  go_ret2
  exact ⟨rfl, rfl⟩
theorem binary_no51 (x y : Int) (w : World) : Calls Tryz.prog 157 #[.int .i64 51, .int .u16 x, .int .u16 y] w fun e w' => e = .returned (.tuple #[.int .u16 0, .bool false]) ∧ w = w' := by
  go_enter Tryz.func157, Tryz.ntmps157
  go_wp2_with (go_at_call 176; refine (compared_no51 _ _ _).mono ?_; rintro e w' ⟨rfl, rfl⟩)
  go_ret2
  exact ⟨rfl, rfl⟩
theorem compared_no52 (x y : Int) (w : World) : Calls Tryz.prog 176 #[.int .i64 52, .int .u16 x, .int .u16 y] w fun e w' => e = .returned (.tuple #[.int .u16 0, .bool false]) ∧ w = w' := by
  go_enter Tryz.func176, Tryz.ntmps176
  go_wp2
  go_ret2
  exact ⟨rfl, rfl⟩
theorem binary_no52 (x y : Int) (w : World) : Calls Tryz.prog 157 #[.int .i64 52, .int .u16 x, .int .u16 y] w fun e w' => e = .returned (.tuple #[.int .u16 0, .bool false]) ∧ w = w' := by
  go_enter Tryz.func157, Tryz.ntmps157
  go_wp2_with (go_at_call 176; refine (compared_no52 _ _ _).mono ?_; rintro e w' ⟨rfl, rfl⟩)
  go_ret2
  exact ⟨rfl, rfl⟩
theorem compared_no53 (x y : Int) (w : World) : Calls Tryz.prog 176 #[.int .i64 53, .int .u16 x, .int .u16 y] w fun e w' => e = .returned (.tuple #[.int .u16 0, .bool false]) ∧ w = w' := by
  go_enter Tryz.func176, Tryz.ntmps176
  go_wp2
  go_ret2
  exact ⟨rfl, rfl⟩
theorem binary_no53 (x y : Int) (w : World) : Calls Tryz.prog 157 #[.int .i64 53, .int .u16 x, .int .u16 y] w fun e w' => e = .returned (.tuple #[.int .u16 0, .bool false]) ∧ w = w' := by
  go_enter Tryz.func157, Tryz.ntmps157
  go_wp2_with (go_at_call 176; refine (compared_no53 _ _ _).mono ?_; rintro e w' ⟨rfl, rfl⟩)
  go_ret2
  exact ⟨rfl, rfl⟩
theorem compared_no54 (x y : Int) (w : World) : Calls Tryz.prog 176 #[.int .i64 54, .int .u16 x, .int .u16 y] w fun e w' => e = .returned (.tuple #[.int .u16 0, .bool false]) ∧ w = w' := by
  go_enter Tryz.func176, Tryz.ntmps176
  go_wp2
  go_ret2
  exact ⟨rfl, rfl⟩
theorem binary_no54 (x y : Int) (w : World) : Calls Tryz.prog 157 #[.int .i64 54, .int .u16 x, .int .u16 y] w fun e w' => e = .returned (.tuple #[.int .u16 0, .bool false]) ∧ w = w' := by
  go_enter Tryz.func157, Tryz.ntmps157
  go_wp2_with (go_at_call 176; refine (compared_no54 _ _ _).mono ?_; rintro e w' ⟨rfl, rfl⟩)
  go_ret2
  exact ⟨rfl, rfl⟩
theorem compared_no55 (x y : Int) (w : World) : Calls Tryz.prog 176 #[.int .i64 55, .int .u16 x, .int .u16 y] w fun e w' => e = .returned (.tuple #[.int .u16 0, .bool false]) ∧ w = w' := by
  go_enter Tryz.func176, Tryz.ntmps176
  go_wp2
  go_ret2
  exact ⟨rfl, rfl⟩
theorem binary_no55 (x y : Int) (w : World) : Calls Tryz.prog 157 #[.int .i64 55, .int .u16 x, .int .u16 y] w fun e w' => e = .returned (.tuple #[.int .u16 0, .bool false]) ∧ w = w' := by
  go_enter Tryz.func157, Tryz.ntmps157
  go_wp2_with (go_at_call 176; refine (compared_no55 _ _ _).mono ?_; rintro e w' ⟨rfl, rfl⟩)
  go_ret2
  exact ⟨rfl, rfl⟩
theorem compared_no56 (x y : Int) (w : World) : Calls Tryz.prog 176 #[.int .i64 56, .int .u16 x, .int .u16 y] w fun e w' => e = .returned (.tuple #[.int .u16 0, .bool false]) ∧ w = w' := by
  go_enter Tryz.func176, Tryz.ntmps176
  go_wp2
  go_ret2
  exact ⟨rfl, rfl⟩
theorem binary_no56 (x y : Int) (w : World) : Calls Tryz.prog 157 #[.int .i64 56, .int .u16 x, .int .u16 y] w fun e w' => e = .returned (.tuple #[.int .u16 0, .bool false]) ∧ w = w' := by
  go_enter Tryz.func157, Tryz.ntmps157
  go_wp2_with (go_at_call 176; refine (compared_no56 _ _ _).mono ?_; rintro e w' ⟨rfl, rfl⟩)
  go_ret2
  exact ⟨rfl, rfl⟩
theorem compared_no57 (x y : Int) (w : World) : Calls Tryz.prog 176 #[.int .i64 57, .int .u16 x, .int .u16 y] w fun e w' => e = .returned (.tuple #[.int .u16 0, .bool false]) ∧ w = w' := by
  go_enter Tryz.func176, Tryz.ntmps176
  go_wp2
  go_ret2
  exact ⟨rfl, rfl⟩
theorem binary_no57 (x y : Int) (w : World) : Calls Tryz.prog 157 #[.int .i64 57, .int .u16 x, .int .u16 y] w fun e w' => e = .returned (.tuple #[.int .u16 0, .bool false]) ∧ w = w' := by
  go_enter Tryz.func157, Tryz.ntmps157
  go_wp2_with (go_at_call 176; refine (compared_no57 _ _ _).mono ?_; rintro e w' ⟨rfl, rfl⟩)
  go_ret2
  exact ⟨rfl, rfl⟩
theorem compared_no58 (x y : Int) (w : World) : Calls Tryz.prog 176 #[.int .i64 58, .int .u16 x, .int .u16 y] w fun e w' => e = .returned (.tuple #[.int .u16 0, .bool false]) ∧ w = w' := by
  go_enter Tryz.func176, Tryz.ntmps176
  go_wp2
  go_ret2
  exact ⟨rfl, rfl⟩
theorem binary_no58 (x y : Int) (w : World) : Calls Tryz.prog 157 #[.int .i64 58, .int .u16 x, .int .u16 y] w fun e w' => e = .returned (.tuple #[.int .u16 0, .bool false]) ∧ w = w' := by
  go_enter Tryz.func157, Tryz.ntmps157
  go_wp2_with (go_at_call 176; refine (compared_no58 _ _ _).mono ?_; rintro e w' ⟨rfl, rfl⟩)
  go_ret2
  exact ⟨rfl, rfl⟩
theorem compared_no59 (x y : Int) (w : World) : Calls Tryz.prog 176 #[.int .i64 59, .int .u16 x, .int .u16 y] w fun e w' => e = .returned (.tuple #[.int .u16 0, .bool false]) ∧ w = w' := by
  go_enter Tryz.func176, Tryz.ntmps176
  go_wp2
  go_ret2
  exact ⟨rfl, rfl⟩
theorem binary_no59 (x y : Int) (w : World) : Calls Tryz.prog 157 #[.int .i64 59, .int .u16 x, .int .u16 y] w fun e w' => e = .returned (.tuple #[.int .u16 0, .bool false]) ∧ w = w' := by
  go_enter Tryz.func157, Tryz.ntmps157
  go_wp2_with (go_at_call 176; refine (compared_no59 _ _ _).mono ?_; rintro e w' ⟨rfl, rfl⟩)
  go_ret2
  exact ⟨rfl, rfl⟩
theorem compared_no60 (x y : Int) (w : World) : Calls Tryz.prog 176 #[.int .i64 60, .int .u16 x, .int .u16 y] w fun e w' => e = .returned (.tuple #[.int .u16 0, .bool false]) ∧ w = w' := by
  go_enter Tryz.func176, Tryz.ntmps176
  go_wp2
  go_ret2
  exact ⟨rfl, rfl⟩
theorem binary_no60 (x y : Int) (w : World) : Calls Tryz.prog 157 #[.int .i64 60, .int .u16 x, .int .u16 y] w fun e w' => e = .returned (.tuple #[.int .u16 0, .bool false]) ∧ w = w' := by
  go_enter Tryz.func157, Tryz.ntmps157
  go_wp2_with (go_at_call 176; refine (compared_no60 _ _ _).mono ?_; rintro e w' ⟨rfl, rfl⟩)
  go_ret2
  exact ⟨rfl, rfl⟩
theorem compared_no61 (x y : Int) (w : World) : Calls Tryz.prog 176 #[.int .i64 61, .int .u16 x, .int .u16 y] w fun e w' => e = .returned (.tuple #[.int .u16 0, .bool false]) ∧ w = w' := by
  go_enter Tryz.func176, Tryz.ntmps176
  go_wp2
  go_ret2
  exact ⟨rfl, rfl⟩
theorem binary_no61 (x y : Int) (w : World) : Calls Tryz.prog 157 #[.int .i64 61, .int .u16 x, .int .u16 y] w fun e w' => e = .returned (.tuple #[.int .u16 0, .bool false]) ∧ w = w' := by
  go_enter Tryz.func157, Tryz.ntmps157
  go_wp2_with (go_at_call 176; refine (compared_no61 _ _ _).mono ?_; rintro e w' ⟨rfl, rfl⟩)
  go_ret2
  exact ⟨rfl, rfl⟩
theorem compared_no62 (x y : Int) (w : World) : Calls Tryz.prog 176 #[.int .i64 62, .int .u16 x, .int .u16 y] w fun e w' => e = .returned (.tuple #[.int .u16 0, .bool false]) ∧ w = w' := by
  go_enter Tryz.func176, Tryz.ntmps176
  go_wp2
  go_ret2
  exact ⟨rfl, rfl⟩
theorem binary_no62 (x y : Int) (w : World) : Calls Tryz.prog 157 #[.int .i64 62, .int .u16 x, .int .u16 y] w fun e w' => e = .returned (.tuple #[.int .u16 0, .bool false]) ∧ w = w' := by
  go_enter Tryz.func157, Tryz.ntmps157
  go_wp2_with (go_at_call 176; refine (compared_no62 _ _ _).mono ?_; rintro e w' ⟨rfl, rfl⟩)
  go_ret2
  exact ⟨rfl, rfl⟩
theorem compared_no63 (x y : Int) (w : World) : Calls Tryz.prog 176 #[.int .i64 63, .int .u16 x, .int .u16 y] w fun e w' => e = .returned (.tuple #[.int .u16 0, .bool false]) ∧ w = w' := by
  go_enter Tryz.func176, Tryz.ntmps176
  go_wp2
  go_ret2
  exact ⟨rfl, rfl⟩
theorem binary_no63 (x y : Int) (w : World) : Calls Tryz.prog 157 #[.int .i64 63, .int .u16 x, .int .u16 y] w fun e w' => e = .returned (.tuple #[.int .u16 0, .bool false]) ∧ w = w' := by
  go_enter Tryz.func157, Tryz.ntmps157
  go_wp2_with (go_at_call 176; refine (compared_no63 _ _ _).mono ?_; rintro e w' ⟨rfl, rfl⟩)
  go_ret2
  exact ⟨rfl, rfl⟩
end Go.Proofs.YtdnalhjdmlkbmaaGreatDoor
namespace Go.Proofs.YtdnalhjdmlkbmaaGreatDoor
open Go.RowKit

/-- What a shuffle's closure holds. -/
def ShufCl (n : Nat) (ps : List Nat) (w : World) (G : Nat → Nat) (c : Array Value) : Prop :=
  ∃ B1 B2 la lc, c = #[.pointer (some ⟨B1, 0, none⟩), .pointer (some ⟨B2, 0, none⟩)] ∧ w.cell? ⟨B1, 0, none⟩ = some (.int .i64 n) ∧ G B1 = 0 ∧ w.cell? ⟨B2, 0, none⟩ = some (.slice la ps.length lc) ∧ G B2 = 0 ∧
    Reads w la (cellsI ps) ∧ ∀ ad, la = some ad → G ad.block = 0 ∧ ad.block < w.heap.size
theorem ShufCl.adv {n : Nat} {ps : List Nat} {S : Nat → Prop} {w w' : World} {G G' : Nat → Nat} {c : Array Value} (h : ShufCl n ps w G c) (ha : Adv S w G w' G') (hs : ¬ S 0) : ShufCl n ps w' G' c := by
  obtain ⟨B1, B2, la, lc, h1, h2, h3, h4, h5, h6, h7⟩ := h
  exact ⟨B1, B2, la, lc, h1, ha.cell_some h2 (by rw [h3]; exact hs), (ha.own _ (World.block_lt_of_cell? w _ h2)).trans h3, ha.cell_some h4 (by rw [h5]; exact hs), (ha.own _ (World.block_lt_of_cell? w _ h4)).trans h5,
    h6.adv ha (fun ad e => by rw [(h7 ad e).1]; exact hs), fun ad e => ⟨(ha.own _ (h7 ad e).2).trans (h7 ad e).1, Nat.lt_of_lt_of_le (h7 ad e).2 ha.size⟩⟩
theorem shufCl_new (w : World) (G : Nat → Nat) (n : Nat) (ps : List Nat) :
    ∃ G', Adv (fun _ => False) w G (((w.alloc (.cells (cellsI ps).toArray 3)).alloc (.cells #[.int .i64 n] 3)).alloc (.cells #[.slice (some ⟨w.heap.size, 0, none⟩) ps.length ps.length] 25)) G' ∧
      ShufCl n ps (((w.alloc (.cells (cellsI ps).toArray 3)).alloc (.cells #[.int .i64 n] 3)).alloc (.cells #[.slice (some ⟨w.heap.size, 0, none⟩) ps.length ps.length] 25)) G' #[.pointer (some ⟨w.heap.size + 1, 0, none⟩), .pointer (some ⟨w.heap.size + 2, 0, none⟩)] := by
  have h1 := (Adv.refl (fun _ => False) w G).alloc (.cells (cellsI ps).toArray 3) 0
  have h2 := h1.alloc (.cells #[.int .i64 n] 3) 0
  have h3 := h2.alloc (.cells #[.slice (some ⟨w.heap.size, 0, none⟩) ps.length ps.length] 25) 0
  refine ⟨_, h3, w.heap.size + 1, w.heap.size + 2, some ⟨w.heap.size, 0, none⟩, ps.length, rfl, ?_, ?_, ?_, ?_, ((Reads.new w (cellsI ps) 3).alloc _).alloc _, ?_⟩
  · exact block_cell (C := #[.int .i64 n]) (T := 3) ((heap_past _ _ _ (by simp)).trans (heap_at _ _ _ (by simp))) 0 _ rfl
  · simp [own1]
  · exact block_cell (C := #[.slice (some ⟨w.heap.size, 0, none⟩) ps.length ps.length]) (T := 25) (heap_at _ _ _ (by simp)) 0 _ rfl
  · simp [own1]
  · rintro ad ⟨⟩; simp [own1]; omega
theorem shufCl_nil (w : World) (G : Nat → Nat) (n : Nat) :
    ∃ G', Adv (fun _ => False) w G ((w.alloc (.cells #[.int .i64 n] 3)).alloc (.cells #[.slice none 0 0] 25)) G' ∧
      ShufCl n [] ((w.alloc (.cells #[.int .i64 n] 3)).alloc (.cells #[.slice none 0 0] 25)) G' #[.pointer (some ⟨w.heap.size, 0, none⟩), .pointer (some ⟨w.heap.size + 1, 0, none⟩)] := by
  have h2 := (Adv.refl (fun _ => False) w G).alloc (.cells #[.int .i64 n] 3) 0
  have h3 := h2.alloc (.cells #[.slice none 0 0] 25) 0
  refine ⟨_, h3, w.heap.size, w.heap.size + 1, none, 0, rfl, ?_, ?_, ?_, ?_, .inl rfl, ?_⟩
  · exact block_cell (C := #[.int .i64 n]) (T := 3) ((heap_past _ _ _ (by simp)).trans (heap_at _ _ _ (by simp))) 0 _ rfl
  · simp [own1]
  · exact block_cell (C := #[.slice none 0 0]) (T := 25) (heap_at _ _ _ (by simp)) 0 _ rfl
  · simp [own1]
  · rintro ad ⟨⟩

set_option maxRecDepth 100000 in
theorem does_12 (G : Nat → Nat) (w : World) : Calls Tryz.prog 123 #[.int .i64 12] w fun e w' => ∃ c G', e = .returned (.func (.func 178) #[] c) ∧ Adv (fun _ => False) w G w' G' ∧ ShufCl 1 [0, 0] w' G' c := by
  have hmf : ∀ (fn : Fn) (first cap : Array Value) (w : World), (Instr.makeFunc fn first cap).run Tryz.prog w = .ok (.func fn first cap) w := fun _ _ _ _ => rfl
  go_enter Tryz.func123, Tryz.ntmps123
  go_wp2_with (first | (go_at_call 155; refine (unary_no12 _ _).mono ?_; rintro e w' ⟨rfl, rfl⟩) | (go_at_call 157; refine (binary_no12 _ _ _).mono ?_; rintro e w' ⟨rfl, rfl⟩) | (go_at_call 160; go_in))
  go_ret
  obtain ⟨G', h1, h2⟩ := shufCl_new w G 1 [0, 0]
  exact ⟨_, G', rfl, h1, h2⟩
set_option maxRecDepth 100000 in
theorem does_13 (G : Nat → Nat) (w : World) : Calls Tryz.prog 123 #[.int .i64 13] w fun e w' => ∃ c G', e = .returned (.func (.func 178) #[] c) ∧ Adv (fun _ => False) w G w' G' ∧ ShufCl 1 [] w' G' c := by
  have hmf : ∀ (fn : Fn) (first cap : Array Value) (w : World), (Instr.makeFunc fn first cap).run Tryz.prog w = .ok (.func fn first cap) w := fun _ _ _ _ => rfl
  go_enter Tryz.func123, Tryz.ntmps123
  go_wp2_with (first | (go_at_call 155; refine (unary_no13 _ _).mono ?_; rintro e w' ⟨rfl, rfl⟩) | (go_at_call 157; refine (binary_no13 _ _ _).mono ?_; rintro e w' ⟨rfl, rfl⟩) | (go_at_call 160; go_in))
  go_ret
  obtain ⟨G', h1, h2⟩ := shufCl_nil w G 1
  exact ⟨_, G', rfl, h1, h2⟩
set_option maxRecDepth 100000 in
theorem does_14 (G : Nat → Nat) (w : World) : Calls Tryz.prog 123 #[.int .i64 14] w fun e w' => ∃ c G', e = .returned (.func (.func 178) #[] c) ∧ Adv (fun _ => False) w G w' G' ∧ ShufCl 2 [1, 0] w' G' c := by
  have hmf : ∀ (fn : Fn) (first cap : Array Value) (w : World), (Instr.makeFunc fn first cap).run Tryz.prog w = .ok (.func fn first cap) w := fun _ _ _ _ => rfl
  go_enter Tryz.func123, Tryz.ntmps123
  go_wp2_with (first | (go_at_call 155; refine (unary_no14 _ _).mono ?_; rintro e w' ⟨rfl, rfl⟩) | (go_at_call 157; refine (binary_no14 _ _ _).mono ?_; rintro e w' ⟨rfl, rfl⟩) | (go_at_call 160; go_in))
  go_ret
  obtain ⟨G', h1, h2⟩ := shufCl_new w G 2 [1, 0]
  exact ⟨_, G', rfl, h1, h2⟩
set_option maxRecDepth 100000 in
theorem does_15 (G : Nat → Nat) (w : World) : Calls Tryz.prog 123 #[.int .i64 15] w fun e w' => ∃ c G', e = .returned (.func (.func 178) #[] c) ∧ Adv (fun _ => False) w G w' G' ∧ ShufCl 2 [0, 1, 0] w' G' c := by
  have hmf : ∀ (fn : Fn) (first cap : Array Value) (w : World), (Instr.makeFunc fn first cap).run Tryz.prog w = .ok (.func fn first cap) w := fun _ _ _ _ => rfl
  go_enter Tryz.func123, Tryz.ntmps123
  go_wp2_with (first | (go_at_call 155; refine (unary_no15 _ _).mono ?_; rintro e w' ⟨rfl, rfl⟩) | (go_at_call 157; refine (binary_no15 _ _ _).mono ?_; rintro e w' ⟨rfl, rfl⟩) | (go_at_call 160; go_in))
  go_ret
  obtain ⟨G', h1, h2⟩ := shufCl_new w G 2 [0, 1, 0]
  exact ⟨_, G', rfl, h1, h2⟩
set_option maxRecDepth 100000 in
theorem does_16 (G : Nat → Nat) (w : World) : Calls Tryz.prog 123 #[.int .i64 16] w fun e w' => ∃ c G', e = .returned (.func (.func 178) #[] c) ∧ Adv (fun _ => False) w G w' G' ∧ ShufCl 3 [1, 2, 0] w' G' c := by
  have hmf : ∀ (fn : Fn) (first cap : Array Value) (w : World), (Instr.makeFunc fn first cap).run Tryz.prog w = .ok (.func fn first cap) w := fun _ _ _ _ => rfl
  go_enter Tryz.func123, Tryz.ntmps123
  go_wp2_with (first | (go_at_call 155; refine (unary_no16 _ _).mono ?_; rintro e w' ⟨rfl, rfl⟩) | (go_at_call 157; refine (binary_no16 _ _ _).mono ?_; rintro e w' ⟨rfl, rfl⟩) | (go_at_call 160; go_in))
  go_ret
  obtain ⟨G', h1, h2⟩ := shufCl_new w G 3 [1, 2, 0]
  exact ⟨_, G', rfl, h1, h2⟩
set_option maxRecDepth 100000 in
theorem does_17 (G : Nat → Nat) (w : World) : Calls Tryz.prog 123 #[.int .i64 17] w fun e w' => ∃ c G', e = .returned (.func (.func 178) #[] c) ∧ Adv (fun _ => False) w G w' G' ∧ ShufCl 2 [1] w' G' c := by
  have hmf : ∀ (fn : Fn) (first cap : Array Value) (w : World), (Instr.makeFunc fn first cap).run Tryz.prog w = .ok (.func fn first cap) w := fun _ _ _ _ => rfl
  go_enter Tryz.func123, Tryz.ntmps123
  go_wp2_with (first | (go_at_call 155; refine (unary_no17 _ _).mono ?_; rintro e w' ⟨rfl, rfl⟩) | (go_at_call 157; refine (binary_no17 _ _ _).mono ?_; rintro e w' ⟨rfl, rfl⟩) | (go_at_call 160; go_in))
  go_ret
  obtain ⟨G', h1, h2⟩ := shufCl_new w G 2 [1]
  exact ⟨_, G', rfl, h1, h2⟩
set_option maxRecDepth 100000 in
theorem does_18 (G : Nat → Nat) (w : World) : Calls Tryz.prog 123 #[.int .i64 18] w fun e w' => ∃ c G', e = .returned (.func (.func 178) #[] c) ∧ Adv (fun _ => False) w G w' G' ∧ ShufCl 2 [1, 0, 1] w' G' c := by
  have hmf : ∀ (fn : Fn) (first cap : Array Value) (w : World), (Instr.makeFunc fn first cap).run Tryz.prog w = .ok (.func fn first cap) w := fun _ _ _ _ => rfl
  go_enter Tryz.func123, Tryz.ntmps123
  go_wp2_with (first | (go_at_call 155; refine (unary_no18 _ _).mono ?_; rintro e w' ⟨rfl, rfl⟩) | (go_at_call 157; refine (binary_no18 _ _ _).mono ?_; rintro e w' ⟨rfl, rfl⟩) | (go_at_call 160; go_in))
  go_ret
  obtain ⟨G', h1, h2⟩ := shufCl_new w G 2 [1, 0, 1]
  exact ⟨_, G', rfl, h1, h2⟩
set_option maxRecDepth 100000 in
theorem does_19 (G : Nat → Nat) (w : World) : Calls Tryz.prog 123 #[.int .i64 19] w fun e w' => ∃ c G', e = .returned (.func (.func 178) #[] c) ∧ Adv (fun _ => False) w G w' G' ∧ ShufCl 2 [0, 1, 0, 1] w' G' c := by
  have hmf : ∀ (fn : Fn) (first cap : Array Value) (w : World), (Instr.makeFunc fn first cap).run Tryz.prog w = .ok (.func fn first cap) w := fun _ _ _ _ => rfl
  go_enter Tryz.func123, Tryz.ntmps123
  go_wp2_with (first | (go_at_call 155; refine (unary_no19 _ _).mono ?_; rintro e w' ⟨rfl, rfl⟩) | (go_at_call 157; refine (binary_no19 _ _ _).mono ?_; rintro e w' ⟨rfl, rfl⟩) | (go_at_call 160; go_in))
  go_ret
  obtain ⟨G', h1, h2⟩ := shufCl_new w G 2 [0, 1, 0, 1]
  exact ⟨_, G', rfl, h1, h2⟩
set_option maxRecDepth 100000 in
theorem does_20 (G : Nat → Nat) (w : World) : Calls Tryz.prog 123 #[.int .i64 20] w fun e w' => ∃ c G', e = .returned (.func (.func 178) #[] c) ∧ Adv (fun _ => False) w G w' G' ∧ ShufCl 2 [] w' G' c := by
  have hmf : ∀ (fn : Fn) (first cap : Array Value) (w : World), (Instr.makeFunc fn first cap).run Tryz.prog w = .ok (.func fn first cap) w := fun _ _ _ _ => rfl
  go_enter Tryz.func123, Tryz.ntmps123
  go_wp2_with (first | (go_at_call 155; refine (unary_no20 _ _).mono ?_; rintro e w' ⟨rfl, rfl⟩) | (go_at_call 157; refine (binary_no20 _ _ _).mono ?_; rintro e w' ⟨rfl, rfl⟩) | (go_at_call 160; go_in))
  go_ret
  obtain ⟨G', h1, h2⟩ := shufCl_nil w G 2
  exact ⟨_, G', rfl, h1, h2⟩
theorem does_6 (w : World) : Calls Tryz.prog 123 #[.int .i64 6] w fun e w' => e = .returned (.func (.func 180) #[] #[]) ∧ w = w' := by
  go_enter Tryz.func123, Tryz.ntmps123
  go_wp2_with (first | (go_at_call 155; refine (unary_no6 _ _).mono ?_; rintro e w' ⟨rfl, rfl⟩) | (go_at_call 157; refine (binary_no6 _ _ _).mono ?_; rintro e w' ⟨rfl, rfl⟩) | (go_at_call 161; go_in))
  go_ret
  exact ⟨rfl, rfl⟩
theorem does_50 (w : World) : Calls Tryz.prog 123 #[.int .i64 50] w fun e w' => e = .returned (.func (.func 181) #[] #[]) ∧ w = w' := by
  go_enter Tryz.func123, Tryz.ntmps123
  go_wp2_with (first | (go_at_call 155; refine (unary_no50 _ _).mono ?_; rintro e w' ⟨rfl, rfl⟩) | (go_at_call 157; refine (binary_no50 _ _ _).mono ?_; rintro e w' ⟨rfl, rfl⟩) | (go_at_call 161; go_in))
  go_ret
  exact ⟨rfl, rfl⟩
theorem does_51 (w : World) : Calls Tryz.prog 123 #[.int .i64 51] w fun e w' => e = .returned (.func (.func 182) #[] #[]) ∧ w = w' := by
  go_enter Tryz.func123, Tryz.ntmps123
  go_wp2_with (first | (go_at_call 155; refine (unary_no51 _ _).mono ?_; rintro e w' ⟨rfl, rfl⟩) | (go_at_call 157; refine (binary_no51 _ _ _).mono ?_; rintro e w' ⟨rfl, rfl⟩) | (go_at_call 161; go_in))
  go_ret
  exact ⟨rfl, rfl⟩
theorem does_52 (w : World) : Calls Tryz.prog 123 #[.int .i64 52] w fun e w' => e = .returned (.func (.func 183) #[] #[]) ∧ w = w' := by
  go_enter Tryz.func123, Tryz.ntmps123
  go_wp2_with (first | (go_at_call 155; refine (unary_no52 _ _).mono ?_; rintro e w' ⟨rfl, rfl⟩) | (go_at_call 157; refine (binary_no52 _ _ _).mono ?_; rintro e w' ⟨rfl, rfl⟩) | (go_at_call 161; go_in))
  go_ret
  exact ⟨rfl, rfl⟩
theorem does_53 (w : World) : Calls Tryz.prog 123 #[.int .i64 53] w fun e w' => e = .returned (.func (.func 184) #[] #[]) ∧ w = w' := by
  go_enter Tryz.func123, Tryz.ntmps123
  go_wp2_with (first | (go_at_call 155; refine (unary_no53 _ _).mono ?_; rintro e w' ⟨rfl, rfl⟩) | (go_at_call 157; refine (binary_no53 _ _ _).mono ?_; rintro e w' ⟨rfl, rfl⟩) | (go_at_call 161; go_in))
  go_ret
  exact ⟨rfl, rfl⟩
theorem does_54 (w : World) : Calls Tryz.prog 123 #[.int .i64 54] w fun e w' => e = .returned (.func (.func 185) #[] #[]) ∧ w = w' := by
  go_enter Tryz.func123, Tryz.ntmps123
  go_wp2_with (first | (go_at_call 155; refine (unary_no54 _ _).mono ?_; rintro e w' ⟨rfl, rfl⟩) | (go_at_call 157; refine (binary_no54 _ _ _).mono ?_; rintro e w' ⟨rfl, rfl⟩) | (go_at_call 161; go_in))
  go_ret
  exact ⟨rfl, rfl⟩
theorem does_55 (w : World) : Calls Tryz.prog 123 #[.int .i64 55] w fun e w' => e = .returned (.func (.func 186) #[] #[]) ∧ w = w' := by
  go_enter Tryz.func123, Tryz.ntmps123
  go_wp2_with (first | (go_at_call 155; refine (unary_no55 _ _).mono ?_; rintro e w' ⟨rfl, rfl⟩) | (go_at_call 157; refine (binary_no55 _ _ _).mono ?_; rintro e w' ⟨rfl, rfl⟩) | (go_at_call 161; go_in))
  go_ret
  exact ⟨rfl, rfl⟩
theorem does_56 (w : World) : Calls Tryz.prog 123 #[.int .i64 56] w fun e w' => e = .returned (.func (.func 187) #[] #[]) ∧ w = w' := by
  go_enter Tryz.func123, Tryz.ntmps123
  go_wp2_with (first | (go_at_call 155; refine (unary_no56 _ _).mono ?_; rintro e w' ⟨rfl, rfl⟩) | (go_at_call 157; refine (binary_no56 _ _ _).mono ?_; rintro e w' ⟨rfl, rfl⟩) | (go_at_call 161; go_in))
  go_ret
  exact ⟨rfl, rfl⟩
theorem does_57 (w : World) : Calls Tryz.prog 123 #[.int .i64 57] w fun e w' => e = .returned (.func (.func 188) #[] #[]) ∧ w = w' := by
  go_enter Tryz.func123, Tryz.ntmps123
  go_wp2_with (first | (go_at_call 155; refine (unary_no57 _ _).mono ?_; rintro e w' ⟨rfl, rfl⟩) | (go_at_call 157; refine (binary_no57 _ _ _).mono ?_; rintro e w' ⟨rfl, rfl⟩) | (go_at_call 161; go_in))
  go_ret
  exact ⟨rfl, rfl⟩
theorem does_58 (w : World) : Calls Tryz.prog 123 #[.int .i64 58] w fun e w' => e = .returned (.func (.func 189) #[] #[]) ∧ w = w' := by
  go_enter Tryz.func123, Tryz.ntmps123
  go_wp2_with (first | (go_at_call 155; refine (unary_no58 _ _).mono ?_; rintro e w' ⟨rfl, rfl⟩) | (go_at_call 157; refine (binary_no58 _ _ _).mono ?_; rintro e w' ⟨rfl, rfl⟩) | (go_at_call 161; go_in))
  go_ret
  exact ⟨rfl, rfl⟩
theorem does_59 (w : World) : Calls Tryz.prog 123 #[.int .i64 59] w fun e w' => e = .returned (.func (.func 190) #[] #[]) ∧ w = w' := by
  go_enter Tryz.func123, Tryz.ntmps123
  go_wp2_with (first | (go_at_call 155; refine (unary_no59 _ _).mono ?_; rintro e w' ⟨rfl, rfl⟩) | (go_at_call 157; refine (binary_no59 _ _ _).mono ?_; rintro e w' ⟨rfl, rfl⟩) | (go_at_call 161; go_in))
  go_ret
  exact ⟨rfl, rfl⟩
theorem does_60 (w : World) : Calls Tryz.prog 123 #[.int .i64 60] w fun e w' => e = .returned (.func (.func 191) #[] #[]) ∧ w = w' := by
  go_enter Tryz.func123, Tryz.ntmps123
  go_wp2_with (first | (go_at_call 155; refine (unary_no60 _ _).mono ?_; rintro e w' ⟨rfl, rfl⟩) | (go_at_call 157; refine (binary_no60 _ _ _).mono ?_; rintro e w' ⟨rfl, rfl⟩) | (go_at_call 161; go_in))
  go_ret
  exact ⟨rfl, rfl⟩
theorem does_61 (w : World) : Calls Tryz.prog 123 #[.int .i64 61] w fun e w' => e = .returned (.func (.func 192) #[] #[]) ∧ w = w' := by
  go_enter Tryz.func123, Tryz.ntmps123
  go_wp2_with (first | (go_at_call 155; refine (unary_no61 _ _).mono ?_; rintro e w' ⟨rfl, rfl⟩) | (go_at_call 157; refine (binary_no61 _ _ _).mono ?_; rintro e w' ⟨rfl, rfl⟩) | (go_at_call 161; go_in))
  go_ret
  exact ⟨rfl, rfl⟩
theorem does_62 (w : World) : Calls Tryz.prog 123 #[.int .i64 62] w fun e w' => e = .returned (.func (.func 193) #[] #[]) ∧ w = w' := by
  go_enter Tryz.func123, Tryz.ntmps123
  go_wp2_with (first | (go_at_call 155; refine (unary_no62 _ _).mono ?_; rintro e w' ⟨rfl, rfl⟩) | (go_at_call 157; refine (binary_no62 _ _ _).mono ?_; rintro e w' ⟨rfl, rfl⟩) | (go_at_call 161; go_in))
  go_ret
  exact ⟨rfl, rfl⟩
theorem does_63 (w : World) : Calls Tryz.prog 123 #[.int .i64 63] w fun e w' => e = .returned (.func (.func 194) #[] #[]) ∧ w = w' := by
  go_enter Tryz.func123, Tryz.ntmps123
  go_wp2_with (first | (go_at_call 155; refine (unary_no63 _ _).mono ?_; rintro e w' ⟨rfl, rfl⟩) | (go_at_call 157; refine (binary_no63 _ _ _).mono ?_; rintro e w' ⟨rfl, rfl⟩) | (go_at_call 161; go_in))
  go_ret
  exact ⟨rfl, rfl⟩
theorem does_9 (w : World) : Calls Tryz.prog 123 #[.int .i64 9] w fun e w' => e = .returned (.func (.func 159) #[] #[]) ∧ w = w' := by
  go_enter Tryz.func123, Tryz.ntmps123
  go_wp2_with (first | (go_at_call 155; refine (unary_no9 _ _).mono ?_; rintro e w' ⟨rfl, rfl⟩) | (go_at_call 157; refine (binary_no9 _ _ _).mono ?_; rintro e w' ⟨rfl, rfl⟩))
  go_ret
  exact ⟨rfl, rfl⟩
end Go.Proofs.YtdnalhjdmlkbmaaGreatDoor
namespace Go.Proofs.YtdnalhjdmlkbmaaGreatDoor
open Go.RowKit

set_option maxRecDepth 100000 in
theorem of_in (G : Nat → Nat) (k : Nat) (h1 : 1 ≤ k) (hk : k < 64) (w : World) (ht : Tabs w G) :
    Calls Tryz.prog 27 #[.int .i64 k] w fun e w' => e = .returned (.tuple #[primV k, .int .i64 0]) ∧ ∃ G', Adv (fun _ => False) w G w' G' := by
  have a1 : decide ((k : Int) < 1) = false := by simp; omega
  have a2 : decide (64 ≤ (k : Int)) = false := by simp; omega
  have HT := Lib.hid (ht.adv ((Adv.refl (fun _ => False) w G).alloc (.cells #[.int .i64 0, .string ⟨#[]⟩, .int .i64 0, .int .i64 0, .int .i64 0, .bool false] 85) 0) id)
  clear ht
  go_enter Tryz.func27, Tryz.ntmps27
  go_wp2_with fail
  refine (primOf_any _ k hk _ HT.out).mono ?_
  rintro e w' ⟨rfl, G', ha⟩
  have hc := (ha.keep w.heap.size (by simp) id).trans (heap_alloc_new w _)
  have c0 := block_cell hc 0 _ rfl
  have c1 := block_cell hc 1 _ rfl
  have c2 := block_cell hc 2 _ rfl
  have c3 := block_cell hc 3 _ rfl
  have c4 := block_cell hc 4 _ rfl
  have c5 := block_cell hc 5 _ rfl
  have f0 := block_free hc
  have HA := Lib.hid (((Adv.refl (fun _ => False) w G).alloc _ 0).trans ha)
  clear ha hc
  unfold primV
  go_wp2
  exact bodyPost_ret (v := .tuple #[primV k, .int .i64 0]) (by simp [results, Tryz.results27, go_sem, primV, c0, c1, c2, c3, c4, c5]) rfl
    ⟨rfl, _, (((((HA.out.setNew (Nat.le_refl _) _).setNew (Nat.le_refl _) _).setNew (Nat.le_refl _) _).setNew (Nat.le_refl _) _).setNew (Nat.le_refl _) _).setNew (Nat.le_refl _) _⟩
theorem of_out (G : Nat → Nat) (x : Int) (hx : x < 1 ∨ 64 ≤ x) (w : World) :
    Calls Tryz.prog 27 #[.int .i64 x] w fun e w' => e = .returned (.tuple #[primV0, .int .i64 60]) ∧ ∃ G', Adv (fun _ => False) w G w' G' := by
  by_cases h : x < 1
  · have a1 : decide (x < 1) = true := by simpa using h
    go_enter Tryz.func27, Tryz.ntmps27
    go_wp2
    exact bodyPost_ret (v := .tuple #[primV0, .int .i64 60]) (by simp [results, Tryz.results27, go_sem, primV0]) rfl ⟨rfl, _, (Adv.refl _ w G).alloc _ 0⟩
  · have a1 : decide (x < 1) = false := by simpa using h
    have a2 : decide (64 ≤ x) = true := by simp; omega
    go_enter Tryz.func27, Tryz.ntmps27
    go_wp2
    exact bodyPost_ret (v := .tuple #[primV0, .int .i64 60]) (by simp [results, Tryz.results27, go_sem, primV0]) rfl ⟨rfl, _, (Adv.refl _ w G).alloc _ 0⟩
/-- Plain's answer. -/
def plainB (x : Int) : Bool := x == 9 || (x == 6 || decide (12 ≤ x ∧ x < 64))
theorem ret_bool {a b : Bool} (h : a = b) : Ending.returned (.bool a) = .returned (.bool b) := by rw [h]
theorem plain_any (x : Int) (w : World) : Calls Tryz.prog 24 #[.int .i64 x] w fun e w' => e = .returned (.bool (plainB x)) ∧ w = w' := by
  by_cases h9 : x = 9
  · subst h9
    go_enter Tryz.func24, Tryz.ntmps24
    go_wp2
    go_ret
    exact ⟨rfl, rfl⟩
  · by_cases h6 : x = 6
    · subst h6
      go_enter Tryz.func24, Tryz.ntmps24
      go_wp2
      go_ret
      exact ⟨rfl, rfl⟩
    · have e9 : (x == 9) = false := by simpa using h9
      have e6 : (x == 6) = false := by simpa using h6
      by_cases hl : 12 ≤ x
      · have el : decide (12 ≤ x) = true := by simpa using hl
        by_cases hh : x < 64
        · have eh : decide (x < 64) = true := by simpa using hh
          have hf : plainB x = true := by simp [plainB, hl, hh]
          have HF := Lib.hid hf
          clear hf
          go_enter Tryz.func24, Tryz.ntmps24
          go_wp2
          go_ret
          exact ⟨ret_bool HF.out.symm, rfl⟩
        · have eh : decide (x < 64) = false := by simpa using hh
          have hf : plainB x = false := by simp [plainB, h9, h6, hh]
          have HF := Lib.hid hf
          clear hf
          go_enter Tryz.func24, Tryz.ntmps24
          go_wp2
          go_ret
          exact ⟨ret_bool HF.out.symm, rfl⟩
      · have el : decide (12 ≤ x) = false := by simpa using hl
        have hf : plainB x = false := by simp [plainB, h9, h6, hl]
        have HF := Lib.hid hf
        clear hf
        go_enter Tryz.func24, Tryz.ntmps24
        go_wp2
        go_ret
        exact ⟨ret_bool HF.out.symm, rfl⟩
end Go.Proofs.YtdnalhjdmlkbmaaGreatDoor
namespace Go.Proofs.YtdnalhjdmlkbmaaGreatDoor
open Go.RowKit

/-- An entry. -/
def entryV (k : Nat) (v : Value) : Value := .agg #[.int .i64 k, .string (nameB k), .int .i64 (takesN k), .int .i64 (leavesN k), .int .i64 (costsN k), .bool (operandB k), v]
/-- What holds of a closure's captured values stays, whatever others do. -/
def Keeps (Cl : World → (Nat → Nat) → Array Value → Prop) : Prop := ∀ (S : Nat → Prop) (w w' : World) (G G' : Nat → Nat) (c : Array Value), Cl w G c → Adv S w G w' G' → ¬ S 0 → Cl w' G' c
/-- What does hands back for a number. -/
def DoesIs (k f : Nat) (Cl : World → (Nat → Nat) → Array Value → Prop) : Prop :=
  ∀ (G : Nat → Nat) (w : World), Calls Tryz.prog 123 #[.int .i64 k] w fun e w' => ∃ c G', e = .returned (.func (.func f) #[] c) ∧ Adv (fun _ => False) w G w' G' ∧ Cl w' G' c
set_option maxRecDepth 100000 in
set_option maxHeartbeats 400000 in
theorem entry_any (G : Nat → Nat) (k : Nat) (hk : k < 64) (f : Nat) (Cl : World → (Nat → Nat) → Array Value → Prop)
    (hd : DoesIs k f Cl) (hcl : Keeps Cl) (w : World) (ht : Tabs w G) :
    Calls Tryz.prog 76 #[.int .i64 k] w fun e w' => ∃ c G', e = .returned (entryV k (.func (.func f) #[] c)) ∧ Adv (fun _ => False) w G w' G' ∧ Cl w' G' c := by
  have hA0 := (Adv.refl (fun _ => False) w G).alloc (.cells #[.int .i64 0, .string ⟨#[]⟩, .int .i64 0, .int .i64 0, .int .i64 0, .bool false, .nilFunc] 174) 1000
  have HT := Lib.hid (ht.adv hA0 id)
  have HA0 := Lib.hid hA0
  have HC := Lib.hid hcl
  clear ht hcl hA0
  go_enter Tryz.func76, Tryz.ntmps76
  go_wp2_with fail
  refine (primOf_any _ k hk _ HT.out).mono ?_
  rintro e w1 ⟨rfl, G1, ha1⟩
  have HA1 := Lib.hid ha1
  clear ha1
  go_wp2_with fail
  refine (hd G1 _).mono ?_
  rintro e w2 ⟨c, G2, rfl, ha2, hc2⟩
  have ha := HA1.out.trans ha2
  have hc := (ha.keep w.heap.size (by simp) id).trans (heap_alloc_new w _)
  have c0 := block_cell hc 0 _ rfl
  have c1 := block_cell hc 1 _ rfl
  have c2 := block_cell hc 2 _ rfl
  have c3 := block_cell hc 3 _ rfl
  have c4 := block_cell hc 4 _ rfl
  have c5 := block_cell hc 5 _ rfl
  have c6 := block_cell hc 6 _ rfl
  have f0 := block_free hc
  have hs := HA0.out.trans ha
  have HS := Lib.hid hs
  have HC2 := Lib.hid hc2
  have hG : G2 w.heap.size = 1000 := (ha.own _ (by simp)).trans (own1_new _ _ _)
  have HG := Lib.hid hG
  clear ha hc hs ha2 hc2 hG
  unfold primV
  go_wp2
  refine bodyPost_ret (v := entryV k (.func (.func f) #[] c)) (by simp [results, Tryz.results76, go_sem, entryV, c0, c1, c2, c3, c4, c5, c6]) rfl ⟨c, G2, rfl, ?_, ?_⟩
  · exact ((((((HS.out.setNew (Nat.le_refl _) _).setNew (Nat.le_refl _) _).setNew (Nat.le_refl _) _).setNew (Nat.le_refl _) _).setNew (Nat.le_refl _) _).setNew (Nat.le_refl _) _).setNew (Nat.le_refl _) _
  · refine HC.out (fun i => i = 1000) w2 _ G2 G2 c HC2.out ?_ (by omega)
    exact (((((((Adv.refl (fun i => i = 1000) w2 G2).setCell HG.out _).setCell HG.out _).setCell HG.out _).setCell HG.out _).setCell HG.out _).setCell HG.out _).setCell HG.out _

/-- How many cells a primitive puts on the return stack. -/
def addsF (k : Int) : Int := if k = 55 then 1 else if k = 6 then 2 else 0
theorem adds_any (k : Int) (w : World) : Calls Tryz.prog 80 #[.int .i64 k] w fun e w' => e = .returned (.int .i64 (addsF k)) ∧ w = w' := by
  by_cases h1 : k = 55
  · subst h1
    go_enter Tryz.func80, Tryz.ntmps80
    go_wp2
    go_ret
    exact ⟨rfl, rfl⟩
  · by_cases h2 : k = 6
    · subst h2
      go_enter Tryz.func80, Tryz.ntmps80
      go_wp2
      go_ret
      exact ⟨rfl, rfl⟩
    · have e1 : (k == 55) = false := by simpa using h1
      have e2 : (k == 6) = false := by simpa using h2
      have HF := Lib.hid (show addsF k = 0 by simp [addsF, h1, h2])
      clear h1 h2
      go_enter Tryz.func80, Tryz.ntmps80
      go_wp2
      go_ret
      exact ⟨ret_int HF.out.symm, rfl⟩
/-- The fault of what a primitive looks at on the return stack. -/
def looksF (k : Int) (l : List (Int × Int)) : Int := if k = 56 ∨ k = 57 then atE l 0 4 else if k = 58 then atE l 0 3 else if k = 59 then atE l 2 3 else 0
theorem looks_any (G : Nat → Nat) (i R : Nat) (l : List (Int × Int)) (k : Int) (w : World) (hp : PR w G i R l) (hm : l.length ≤ 100000) :
    Calls Tryz.prog 78 #[.int .i64 k, .pointer (some ⟨R, 0, none⟩)] w fun e w' => e = .returned (.int .i64 (looksF k l)) ∧ ∃ d, w' = w.drewN d := by
  have at1 : ∀ (n : Int) (kind : Int) (w' : World), w = w' → Calls Tryz.prog 125 #[.pointer (some ⟨R, 0, none⟩), .int .i64 n, .int .i64 kind] w' fun e w' => e = .returned (.tuple #[.int .u16 (atV l n kind), .int .i64 (atE l n kind)]) ∧ ∃ d, w' = w.drewN d := by
    rintro n kind w' rfl
    exact atPR G i R l n kind w hp hm
  have AT := Lib.hid at1
  clear at1
  by_cases h1 : k = 56
  · subst h1
    go_enter Tryz.func78, Tryz.ntmps78
    go_wp2_with (go_at_call 125; refine (AT.out 0 4 _ rfl).mono ?_; rintro e w' ⟨rfl, d, rfl⟩)
    go_ret
    exact ⟨rfl, d, rfl⟩
  · by_cases h2 : k = 57
    · subst h2
      go_enter Tryz.func78, Tryz.ntmps78
      go_wp2_with (go_at_call 125; refine (AT.out 0 4 _ rfl).mono ?_; rintro e w' ⟨rfl, d, rfl⟩)
      go_ret
      exact ⟨rfl, d, rfl⟩
    · by_cases h3 : k = 58
      · subst h3
        go_enter Tryz.func78, Tryz.ntmps78
        go_wp2_with (go_at_call 125; refine (AT.out 0 3 _ rfl).mono ?_; rintro e w' ⟨rfl, d, rfl⟩)
        go_ret
        exact ⟨rfl, d, rfl⟩
      · by_cases h4 : k = 59
        · subst h4
          go_enter Tryz.func78, Tryz.ntmps78
          go_wp2_with (go_at_call 125; refine (AT.out 2 3 _ rfl).mono ?_; rintro e w' ⟨rfl, d, rfl⟩)
          go_ret
          exact ⟨rfl, d, rfl⟩
        · have e1 : (k == 56) = false := by simpa using h1
          have e2 : (k == 57) = false := by simpa using h2
          have e3 : (k == 58) = false := by simpa using h3
          have e4 : (k == 59) = false := by simpa using h4
          have HF := Lib.hid (show looksF k l = 0 by simp [looksF, h1, h2, h3, h4])
          clear h1 h2 h3 h4
          go_enter Tryz.func78, Tryz.ntmps78
          go_wp2
          go_ret
          exact ⟨ret_int HF.out.symm, 0, rfl⟩
end Go.Proofs.YtdnalhjdmlkbmaaGreatDoor
namespace Go.Proofs.YtdnalhjdmlkbmaaGreatDoor
open Go.RowKit
set_option linter.unusedVariables false

set_option maxRecDepth 100000 in
set_option maxHeartbeats 1000000 in
/-- Do, where nothing is missing: what the primitive's function does on a desk is what Do does. -/
theorem do_ok (G : Nat → Nat) (k : Nat) (hk : k < 64) (hpl : plainB k = true) (f : Nat) (he : ∀ (args : Array Value) (w : World), (callFunc f args).run Tryz.prog w = .ok (.enter f args) w) (Cl : World → (Nat → Nat) → Array Value → Prop) (hd : DoesIs k f Cl) (hcl : Keeps Cl)
    (i j D R : Nat) (M : Addr) (l : List Int) (rl : List (Int × Int)) (_hi : i ≠ 0) (_hj : j ≠ 0) (S : Nat → Prop) (Post : World → (Nat → Nat) → Prop) (hl : l.length ≤ 256) (hrl : rl.length ≤ 128)
    (hneed : needF l.length (takesN k) (leavesN k) = 0) (hlooks : looksF k rl = 0) (hadds : (rl.length : Int) + addsF k ≤ 128) (w : World) (ht : Tabs w G) (hp : PU w G i D l) (hr : PR w G j R rl)
    (hf : ∀ (w1 : World) (G1 : Nat → Nat) (K : Nat) (c : Array Value), Adv (fun _ => False) w G w1 G1 → Cl w1 G1 c → Desk w1 G1 K D R (some M) →
      Calls Tryz.prog f (#[.pointer (some ⟨K, 0, none⟩)] ++ c) w1 fun e w' => e = .returned (.tuple #[]) ∧ ∃ G', Adv S w1 G1 w' G' ∧ Post w' G') :
    Calls Tryz.prog 23 #[.int .i64 k, .pointer (some ⟨D, 0, none⟩), .pointer (some ⟨R, 0, none⟩), .pointer (some M)] w fun e w' => e = .returned (.int .i64 0) ∧ ∃ G', Adv S w G w' G' ∧ Post w' G' := by
  have b1 := takes_le k hk
  have b2 := leaves_le k hk
  have HPL := Lib.hid hpl
  have HT := Lib.hid ht
  have HP := Lib.hid hp
  have HR := Lib.hid hr
  have HF := Lib.hid hf
  have HN := Lib.hid hneed
  have HL := Lib.hid hlooks
  have HAD := Lib.hid hadds
  have HCL := Lib.hid hcl
  clear ht hp hr hf hneed hlooks hadds hcl hpl
  go_enter Tryz.func23, Tryz.ntmps23
  go_wp2_with fail
  refine (plain_any k _).mono ?_
  rintro e w' ⟨rfl, rfl⟩
  rw [HPL.out]
  go_wp2_with fail
  refine (entry_any G k hk f Cl hd HCL.out _ HT.out).mono ?_
  rintro e w1 ⟨c, G1, rfl, ha1, hc1⟩
  unfold entryV
  have hA2 := ha1.alloc (.cells #[.int .i64 k, .string (nameB k), .int .i64 (takesN k), .int .i64 (leavesN k), .int .i64 (costsN k), .bool (operandB k), .func (.func f) #[] c] 174) 1000
  have HC2 := Lib.hid (HCL.out _ _ _ _ _ _ hc1 ((Adv.refl (fun _ => False) w1 G1).alloc (.cells #[.int .i64 k, .string (nameB k), .int .i64 (takesN k), .int .i64 (leavesN k), .int .i64 (costsN k), .bool (operandB k), .func (.func f) #[] c] 174) 1000) id)
  have HP2 := Lib.hid (HP.out.adv hA2 id)
  have HR2 := Lib.hid (HR.out.adv hA2 id)
  have HA2 := Lib.hid hA2
  clear ha1 hc1 hA2
  go_wp2_with fail
  refine (needPU _ i D l (takesN k) (leavesN k) _ HP2.out (by omega) (by omega) (by omega)).mono ?_
  rintro e w' ⟨rfl, rfl⟩
  rw [HN.out]
  go_wp2_with fail
  refine (looks_any _ j R rl k _ HR2.out (by omega)).mono ?_
  rintro e w' ⟨rfl, d, rfl⟩
  rw [HL.out]
  go_wp2_with fail
  refine (lenPR _ j R rl _ (HR2.out.drewN d)).mono ?_
  rintro e w' ⟨rfl, rfl⟩
  go_wp2_with fail
  refine (adds_any k _).mono ?_
  rintro e w' ⟨rfl, rfl⟩
  have hadd := HAD.out
  have hadd0 : 0 ≤ addsF k ∧ addsF k ≤ 2 := by unfold addsF; constructor <;> (repeat' split) <;> omega
  have hgt : decide (128 < (rl.length : Int) + addsF k) = false := by simp; omega
  go_wp2_with fail
  have hA3 := (HA2.out.drewN d).alloc (.cells #[.pointer (some ⟨D, 0, none⟩), .pointer (some ⟨R, 0, none⟩), .pointer (some M)] 181) 0
  have hC3 := HCL.out (fun _ => False) _ _ _ _ _ HC2.out (((Adv.refl (fun _ => False) _ _).drewN d).alloc (.cells #[.pointer (some ⟨D, 0, none⟩), .pointer (some ⟨R, 0, none⟩), .pointer (some M)] 181) 0) id
  refine (HF.out _ _ (w1.heap.size + 1) c hA3 hC3 ⟨heap_at _ _ _ (by simp), by simp [own1]⟩).mono ?_
  rintro e w2 ⟨rfl, G2, ha2, hpost⟩
  have HE := Lib.hid (And.intro (hA3.mono (T := S) (fun _ h => h.elim) |>.trans ha2) hpost)
  clear hA3 hC3 ha2 hpost
  go_wp2
  go_ret
  exact ⟨rfl, G2, HE.out.1, HE.out.2⟩
end Go.Proofs.YtdnalhjdmlkbmaaGreatDoor
namespace Go.Proofs.YtdnalhjdmlkbmaaGreatDoor
open Go.RowKit

set_option maxRecDepth 100000 in
set_option maxHeartbeats 1000000 in
theorem doDo_any (G : Nat → Nat) (i j D K R : Nat) (M : Option Addr) (base : List Int) (a b : Int) (rl : List (Int × Int)) (hi : i ≠ 0) (hj : j ≠ 0) (hij : i ≠ j) (hroom : rl.length + 2 ≤ 128)
    (w : World) (hp : PU w G i D (base ++ [a, b])) (hr : PR w G j R rl) (hk : Desk w G K D R M) :
    Calls Tryz.prog 180 #[.pointer (some ⟨K, 0, none⟩)] w fun e w' => e = .returned (.tuple #[]) ∧ ∃ G', Adv (fun o => o = i ∨ o = j) w G w' G' ∧ PU w' G' i D base ∧ PR w' G' j R (rl ++ [(2, a), (3, b)]) := by
  have HP := Lib.hid hp
  have HR := Lib.hid hr
  have HK := Lib.hid hk
  clear hp hr hk
  go_enter Tryz.func180, Tryz.ntmps180
  go_wp2_with fail
  refine (taken_any G i D K R M base [a, b] 2 rfl (by decide) (by decide) hi _ HP.out HK.out).mono ?_
  rintro e w1 ⟨B, G1, rfl, ha1, hp1, hrow⟩
  have HK1 := HK.out.adv ha1 (Ne.symm hi)
  have HR1 := Lib.hid (HR.out.adv ha1 (Ne.symm hij))
  have cR := HK1.r
  have c0 := (hrow.at (by decide)).2.2.2 0 _ rfl
  have c1 := (hrow.at (by decide)).2.2.2 1 _ rfl
  have gB := (hrow.at (by decide)).2.1
  have gK := HK1.2
  have hkk : ∀ (S : Nat → Prop) (w' : World) (G' : Nat → Nat), ¬ S 0 → Adv S w1 G1 w' G' → w'.cell? ⟨K, 1, none⟩ = some (.pointer (some ⟨R, 0, none⟩)) ∧ w'.cell? ⟨B, 0, none⟩ = some (.int .u16 a) ∧ w'.cell? ⟨B, 1, none⟩ = some (.int .u16 b) := fun S w' G' hs h =>
    ⟨h.cell_some (p := ⟨K, 1, none⟩) cR (by show ¬ S (G1 K); rw [gK]; exact hs), h.cell_some (p := ⟨B, 0, none⟩) c0 (by show ¬ S (G1 B); rw [gB]; exact hs), h.cell_some (p := ⟨B, 1, none⟩) c1 (by show ¬ S (G1 B); rw [gB]; exact hs)⟩
  have HKK := Lib.hid hkk
  have HA1 := Lib.hid ha1
  have HP1 := Lib.hid hp1
  clear ha1 hp1 HK1 hrow gB gK hkk
  go_upto_region 1 with fail
  go_region_held3 (fun w' => w'.cell? ⟨K, 1, none⟩ = some (.pointer (some ⟨R, 0, none⟩)) ∧ w'.cell? ⟨B, 0, none⟩ = some (.int .u16 a) ∧ w'.cell? ⟨B, 1, none⟩ = some (.int .u16 b)) (first | exact ⟨cR, c0, c1⟩ | exact HKK.out (fun _ => False) _ _ id ((Adv.refl _ w1 G1).alloc _ 0).drew | exact KR.out)
    ((go_at_call 41; refine (pushPR (own1 w1 G1 0) j R rl [(2, a), (3, b)] _ 2 2 _ (HR1.out.alloc _ 0).drew rfl hroom (Reads.new _ (cellsR [(2, a), (3, b)]) 111)).mono ?_; rintro e w2 ⟨rfl, G2, ha2, hr2⟩; have HA2 := Lib.hid (((Adv.refl (fun o => o = j) w1 G1).alloc _ 0).drew.trans ha2); have KR := Lib.hid (HKK.out (fun o => o = j) _ _ (Ne.symm hj) HA2.out); have HR2 := Lib.hid hr2; clear ha2 hr2))
  go_wp2_with fail
  go_end0
  exact ⟨rfl, G2, (HA1.out.mono fun _ h => .inl h).trans (HA2.out.mono fun _ h => .inr h), HP1.out.adv HA2.out hij, HR2.out⟩
set_option maxRecDepth 100000 in
set_option maxHeartbeats 1000000 in
theorem sees_any (G : Nat → Nat) (i j D K R : Nat) (M : Option Addr) (l : List Int) (rl : List (Int × Int)) (n kind : Int) (hroom : l.length + 1 ≤ 256) (hrl : rl.length ≤ 128)
    (w : World) (hp : PU w G i D l) (hr : PR w G j R rl) (hk : Desk w G K D R M) :
    Calls Tryz.prog 200 #[.pointer (some ⟨K, 0, none⟩), .int .i64 n, .int .i64 kind] w fun e w' => e = .returned (.tuple #[]) ∧ ∃ G', Adv (fun o => o = i) w G w' G' ∧ PU w' G' i D (l ++ [atV rl n kind]) := by
  have HP := Lib.hid hp
  have cR := hk.r
  have cD := hk.d
  have HR := Lib.hid hr
  clear hp hr
  go_enter Tryz.func200, Tryz.ntmps200
  go_wp2_with fail
  refine (atPR G j R rl n kind _ HR.out (by omega)).mono ?_
  rintro e w1 ⟨rfl, d, rfl⟩
  have HA := Lib.hid (((Adv.refl (fun o => o = i) w G).drewN d).alloc (.cells #[.int .u16 (atV rl n kind)] 31) 0)
  have HPd := Lib.hid ((HP.out.drewN d).alloc (.cells #[.int .u16 (atV rl n kind)] 31) 0)
  go_wp2_with fail
  refine (pushPU (own1 (w.drewN d) G 0) i D l [atV rl n kind] _ 1 1 _ HPd.out rfl hroom (Reads.new (w.drewN d) (cellsU [atV rl n kind]) 31)).mono ?_
  rintro e w2 ⟨rfl, G2, ha2, hp2⟩
  have HF := Lib.hid (And.intro (HA.out.trans ha2) hp2)
  clear ha2 hp2
  go_wp2_with fail
  go_end0
  exact ⟨rfl, G2, HF.out.1, HF.out.2⟩
theorem doIndex_any (G : Nat → Nat) (i j D K R : Nat) (M : Option Addr) (l : List Int) (rl : List (Int × Int)) (hroom : l.length + 1 ≤ 256) (hrl : rl.length ≤ 128)
    (w : World) (hp : PU w G i D l) (hr : PR w G j R rl) (hk : Desk w G K D R M) :
    Calls Tryz.prog 189 #[.pointer (some ⟨K, 0, none⟩)] w fun e w' => e = .returned (.tuple #[]) ∧ ∃ G', Adv (fun o => o = i) w G w' G' ∧ PU w' G' i D (l ++ [atV rl 0 3]) := by
  have HP := Lib.hid hp
  have HR := Lib.hid hr
  have HK := Lib.hid hk
  clear hp hr hk
  go_enter Tryz.func189, Tryz.ntmps189
  go_wp2_with fail
  refine (sees_any G i j D K R M l rl 0 3 hroom hrl _ HP.out HR.out HK.out).mono ?_
  rintro e w2 ⟨rfl, G2, ha2, hp2⟩
  have HF := Lib.hid (And.intro ha2 hp2)
  clear ha2 hp2
  go_wp2_with fail
  go_end0
  exact ⟨rfl, G2, HF.out.1, HF.out.2⟩
end Go.Proofs.YtdnalhjdmlkbmaaGreatDoor
namespace Go.Proofs.YtdnalhjdmlkbmaaGreatDoor
open Go.RowKit

theorem tup2 {a b : Int} (h : a = b) : Ending.returned (.tuple #[.int .u16 a, .bool true]) = .returned (.tuple #[.int .u16 b, .bool true]) := by rw [h]
theorem ret16 {a b : Int} (h : a = b) : Ending.returned (.int .u16 a) = .returned (.int .u16 b) := by rw [h]
theorem signed_any (x : Int) (w : World) (h0 : 0 ≤ x) (h1 : x < 65536) : Calls Tryz.prog 172 #[.int .u16 x] w fun e w' => e = .returned (.int .i64 (sgn x)) ∧ w = w' := by
  have hs := sgn_wrap x h0 h1
  have h2 := sgn_rng x h0 h1
  go_enter Tryz.func172, Tryz.ntmps172
  go_wp2
  go_ret
  exact ⟨rfl, rfl⟩
theorem flag_any (b : Bool) (w : World) : Calls Tryz.prog 173 #[.bool b] w fun e w' => e = .returned (.int .u16 (flagB b)) ∧ w = w' := by
  cases b
  · go_enter Tryz.func173, Tryz.ntmps173
    go_wp2
    go_ret
    exact ⟨rfl, rfl⟩
  · go_enter Tryz.func173, Tryz.ntmps173
    go_wp2
    go_ret
    exact ⟨rfl, rfl⟩
theorem cell16_any (n : Int) (w : World) : Calls Tryz.prog 171 #[.int .i64 n] w fun e w' => e = .returned (.int .u16 (n % 65536)) ∧ w = w' := by
  go_enter Tryz.func171, Tryz.ntmps171
  go_wp2
  go_ret
  exact ⟨ret16 (wrap_u16_mod n), rfl⟩
set_option maxHeartbeats 400000 in
theorem unary_28 (x : Int) (h0 : 0 ≤ x) (h1 : x < 65536) (w : World) : Calls Tryz.prog 155 #[.int .i64 28, .int .u16 x] w fun e w' => e = .returned (.tuple #[.int .u16 (unF 28 x), .bool true]) ∧ w = w' := by
  have hr := sgn_rng x h0 h1
  go_enter Tryz.func155, Tryz.ntmps155
  go_wp2_with (first | (go_at_call 172; refine (signed_any _ _ (by assumption) (by assumption)).mono ?_; rintro e w' ⟨rfl, rfl⟩) | (go_at_call 173; refine (flag_any _ _).mono ?_; rintro e w' ⟨rfl, rfl⟩) | (go_at_call 171; refine (cell16_any _ _).mono ?_; rintro e w' ⟨rfl, rfl⟩))
  all_goals
    go_ret2
    exact ⟨tup2 (by first | exact un_28 x h0 h1 | exact un_28 x h0 h1 (by assumption) | exact un_28' x h0 h1 (by omega) | exact un_28'' x h0 h1 (by omega)), rfl⟩
set_option maxHeartbeats 400000 in
theorem unary_29 (x : Int) (h0 : 0 ≤ x) (h1 : x < 65536) (w : World) : Calls Tryz.prog 155 #[.int .i64 29, .int .u16 x] w fun e w' => e = .returned (.tuple #[.int .u16 (unF 29 x), .bool true]) ∧ w = w' := by
  have hr := sgn_rng x h0 h1
  go_enter Tryz.func155, Tryz.ntmps155
  go_wp2_with (first | (go_at_call 172; refine (signed_any _ _ (by assumption) (by assumption)).mono ?_; rintro e w' ⟨rfl, rfl⟩) | (go_at_call 173; refine (flag_any _ _).mono ?_; rintro e w' ⟨rfl, rfl⟩) | (go_at_call 171; refine (cell16_any _ _).mono ?_; rintro e w' ⟨rfl, rfl⟩))
  all_goals
    go_ret2
    exact ⟨tup2 (by first | exact un_29 x h0 h1 | exact un_29 x h0 h1 (by assumption) | exact un_29' x h0 h1 (by omega) | exact un_29'' x h0 h1 (by omega)), rfl⟩
set_option maxHeartbeats 400000 in
theorem unary_32 (x : Int) (h0 : 0 ≤ x) (h1 : x < 65536) (w : World) : Calls Tryz.prog 155 #[.int .i64 32, .int .u16 x] w fun e w' => e = .returned (.tuple #[.int .u16 (unF 32 x), .bool true]) ∧ w = w' := by
  have hr := sgn_rng x h0 h1
  go_enter Tryz.func155, Tryz.ntmps155
  go_wp2_with (first | (go_at_call 172; refine (signed_any _ _ (by assumption) (by assumption)).mono ?_; rintro e w' ⟨rfl, rfl⟩) | (go_at_call 173; refine (flag_any _ _).mono ?_; rintro e w' ⟨rfl, rfl⟩) | (go_at_call 171; refine (cell16_any _ _).mono ?_; rintro e w' ⟨rfl, rfl⟩))
  all_goals
    go_ret2
    exact ⟨tup2 (by first | exact un_32 x h0 h1 | exact un_32 x h0 h1 (by assumption) | exact un_32' x h0 h1 (by omega) | exact un_32'' x h0 h1 (by omega)), rfl⟩
set_option maxHeartbeats 400000 in
theorem unary_33 (x : Int) (h0 : 0 ≤ x) (h1 : x < 65536) (w : World) : Calls Tryz.prog 155 #[.int .i64 33, .int .u16 x] w fun e w' => e = .returned (.tuple #[.int .u16 (unF 33 x), .bool true]) ∧ w = w' := by
  have hr := sgn_rng x h0 h1
  go_enter Tryz.func155, Tryz.ntmps155
  go_wp2_with (first | (go_at_call 172; refine (signed_any _ _ (by assumption) (by assumption)).mono ?_; rintro e w' ⟨rfl, rfl⟩) | (go_at_call 173; refine (flag_any _ _).mono ?_; rintro e w' ⟨rfl, rfl⟩) | (go_at_call 171; refine (cell16_any _ _).mono ?_; rintro e w' ⟨rfl, rfl⟩))
  all_goals
    go_ret2
    exact ⟨tup2 (by first | exact un_33 x h0 h1 | exact un_33 x h0 h1 (by assumption) | exact un_33' x h0 h1 (by omega) | exact un_33'' x h0 h1 (by omega)), rfl⟩
set_option maxHeartbeats 400000 in
theorem unary_34 (x : Int) (h0 : 0 ≤ x) (h1 : x < 65536) (w : World) : Calls Tryz.prog 155 #[.int .i64 34, .int .u16 x] w fun e w' => e = .returned (.tuple #[.int .u16 (unF 34 x), .bool true]) ∧ w = w' := by
  have hr := sgn_rng x h0 h1
  go_enter Tryz.func155, Tryz.ntmps155
  go_wp2_with (first | (go_at_call 172; refine (signed_any _ _ (by assumption) (by assumption)).mono ?_; rintro e w' ⟨rfl, rfl⟩) | (go_at_call 173; refine (flag_any _ _).mono ?_; rintro e w' ⟨rfl, rfl⟩) | (go_at_call 171; refine (cell16_any _ _).mono ?_; rintro e w' ⟨rfl, rfl⟩))
  all_goals
    go_ret2
    exact ⟨tup2 (by first | exact un_34 x h0 h1 | exact un_34 x h0 h1 (by assumption) | exact un_34' x h0 h1 (by omega) | exact un_34'' x h0 h1 (by omega)), rfl⟩
set_option maxHeartbeats 400000 in
theorem unary_35 (x : Int) (h0 : 0 ≤ x) (h1 : x < 65536) (w : World) : Calls Tryz.prog 155 #[.int .i64 35, .int .u16 x] w fun e w' => e = .returned (.tuple #[.int .u16 (unF 35 x), .bool true]) ∧ w = w' := by
  have hr := sgn_rng x h0 h1
  go_enter Tryz.func155, Tryz.ntmps155
  go_wp2_with (first | (go_at_call 172; refine (signed_any _ _ (by assumption) (by assumption)).mono ?_; rintro e w' ⟨rfl, rfl⟩) | (go_at_call 173; refine (flag_any _ _).mono ?_; rintro e w' ⟨rfl, rfl⟩) | (go_at_call 171; refine (cell16_any _ _).mono ?_; rintro e w' ⟨rfl, rfl⟩))
  all_goals
    go_ret2
    exact ⟨tup2 (by first | exact un_35 x h0 h1 | exact un_35 x h0 h1 (by assumption) | exact un_35' x h0 h1 (by omega) | exact un_35'' x h0 h1 (by omega)), rfl⟩
set_option maxHeartbeats 400000 in
theorem unary_39 (x : Int) (h0 : 0 ≤ x) (h1 : x < 65536) (w : World) : Calls Tryz.prog 155 #[.int .i64 39, .int .u16 x] w fun e w' => e = .returned (.tuple #[.int .u16 (unF 39 x), .bool true]) ∧ w = w' := by
  have hr := sgn_rng x h0 h1
  go_enter Tryz.func155, Tryz.ntmps155
  go_wp2_with (first | (go_at_call 172; refine (signed_any _ _ (by assumption) (by assumption)).mono ?_; rintro e w' ⟨rfl, rfl⟩) | (go_at_call 173; refine (flag_any _ _).mono ?_; rintro e w' ⟨rfl, rfl⟩) | (go_at_call 171; refine (cell16_any _ _).mono ?_; rintro e w' ⟨rfl, rfl⟩))
  all_goals
    go_ret2
    exact ⟨tup2 (by first | exact un_39 x h0 h1 | exact un_39 x h0 h1 (by assumption) | exact un_39' x h0 h1 (by omega) | exact un_39'' x h0 h1 (by omega)), rfl⟩
set_option maxHeartbeats 400000 in
theorem unary_48 (x : Int) (h0 : 0 ≤ x) (h1 : x < 65536) (w : World) : Calls Tryz.prog 155 #[.int .i64 48, .int .u16 x] w fun e w' => e = .returned (.tuple #[.int .u16 (unF 48 x), .bool true]) ∧ w = w' := by
  have hr := sgn_rng x h0 h1
  go_enter Tryz.func155, Tryz.ntmps155
  go_wp2_with (first | (go_at_call 172; refine (signed_any _ _ (by assumption) (by assumption)).mono ?_; rintro e w' ⟨rfl, rfl⟩) | (go_at_call 173; refine (flag_any _ _).mono ?_; rintro e w' ⟨rfl, rfl⟩) | (go_at_call 171; refine (cell16_any _ _).mono ?_; rintro e w' ⟨rfl, rfl⟩))
  all_goals
    go_ret2
    exact ⟨tup2 (by first | exact un_48 x h0 h1 | exact un_48 x h0 h1 (by assumption) | exact un_48' x h0 h1 (by omega) | exact un_48'' x h0 h1 (by omega)), rfl⟩
set_option maxHeartbeats 400000 in
theorem unary_49 (x : Int) (h0 : 0 ≤ x) (h1 : x < 65536) (w : World) : Calls Tryz.prog 155 #[.int .i64 49, .int .u16 x] w fun e w' => e = .returned (.tuple #[.int .u16 (unF 49 x), .bool true]) ∧ w = w' := by
  have hr := sgn_rng x h0 h1
  go_enter Tryz.func155, Tryz.ntmps155
  go_wp2_with (first | (go_at_call 172; refine (signed_any _ _ (by assumption) (by assumption)).mono ?_; rintro e w' ⟨rfl, rfl⟩) | (go_at_call 173; refine (flag_any _ _).mono ?_; rintro e w' ⟨rfl, rfl⟩) | (go_at_call 171; refine (cell16_any _ _).mono ?_; rintro e w' ⟨rfl, rfl⟩))
  all_goals
    go_ret2
    exact ⟨tup2 (by first | exact un_49 x h0 h1 | exact un_49 x h0 h1 (by assumption) | exact un_49' x h0 h1 (by omega) | exact un_49'' x h0 h1 (by omega)), rfl⟩
set_option maxHeartbeats 400000 in
theorem divided_24 (x y : Int) (h0 : 0 ≤ x) (h1 : x < 65536) (y0 : 0 ≤ y) (y1 : y < 65536) (w : World) : Calls Tryz.prog 175 #[.int .i64 24, .int .u16 x, .int .u16 y] w fun e w' => e = .returned (.int .u16 (binF 24 x y)) ∧ w = w' := by
  have hr := sgn_rng x h0 h1
  have hq := sgn_rng y y0 y1
  by_cases hy : y = 0
  · subst hy
    go_enter Tryz.func175, Tryz.ntmps175
    go_wp2
    go_ret
    exact ⟨ret16 (bin_24z x).symm, rfl⟩
  · have hyb : (y == 0) = false := by simpa using hy
    have hsb : ¬ sgn y = 0 := sgn_ne y y0 y1 hy
    have hyn : ¬ y = 0 := hy
    have HY := Lib.hid hy
    clear hy
    go_enter Tryz.func175, Tryz.ntmps175
    go_wp2_with (first | (go_at_call 172; refine (signed_any _ _ (by assumption) (by assumption)).mono ?_; rintro e w' ⟨rfl, rfl⟩) | (go_at_call 173; refine (flag_any _ _).mono ?_; rintro e w' ⟨rfl, rfl⟩) | (go_at_call 171; refine (cell16_any _ _).mono ?_; rintro e w' ⟨rfl, rfl⟩))
    go_ret
    exact ⟨ret16 (bin_24 x y h0 h1 y0 y1 HY.out), rfl⟩
set_option maxHeartbeats 400000 in
theorem divided_25 (x y : Int) (h0 : 0 ≤ x) (h1 : x < 65536) (y0 : 0 ≤ y) (y1 : y < 65536) (w : World) : Calls Tryz.prog 175 #[.int .i64 25, .int .u16 x, .int .u16 y] w fun e w' => e = .returned (.int .u16 (binF 25 x y)) ∧ w = w' := by
  have hr := sgn_rng x h0 h1
  have hq := sgn_rng y y0 y1
  by_cases hy : y = 0
  · subst hy
    go_enter Tryz.func175, Tryz.ntmps175
    go_wp2
    go_ret
    exact ⟨ret16 (bin_25z x).symm, rfl⟩
  · have hyb : (y == 0) = false := by simpa using hy
    have hsb : ¬ sgn y = 0 := sgn_ne y y0 y1 hy
    have hyn : ¬ y = 0 := hy
    have HY := Lib.hid hy
    clear hy
    go_enter Tryz.func175, Tryz.ntmps175
    go_wp2_with (first | (go_at_call 172; refine (signed_any _ _ (by assumption) (by assumption)).mono ?_; rintro e w' ⟨rfl, rfl⟩) | (go_at_call 173; refine (flag_any _ _).mono ?_; rintro e w' ⟨rfl, rfl⟩) | (go_at_call 171; refine (cell16_any _ _).mono ?_; rintro e w' ⟨rfl, rfl⟩))
    go_ret
    exact ⟨ret16 (bin_25 x y h0 h1 y0 y1 HY.out), rfl⟩
set_option maxHeartbeats 400000 in
theorem divided_26 (x y : Int) (h0 : 0 ≤ x) (h1 : x < 65536) (y0 : 0 ≤ y) (y1 : y < 65536) (w : World) : Calls Tryz.prog 175 #[.int .i64 26, .int .u16 x, .int .u16 y] w fun e w' => e = .returned (.int .u16 (binF 26 x y)) ∧ w = w' := by
  have hr := sgn_rng x h0 h1
  have hq := sgn_rng y y0 y1
  by_cases hy : y = 0
  · subst hy
    go_enter Tryz.func175, Tryz.ntmps175
    go_wp2
    go_ret
    exact ⟨ret16 (bin_26z x).symm, rfl⟩
  · have hyb : (y == 0) = false := by simpa using hy
    have hsb : ¬ sgn y = 0 := sgn_ne y y0 y1 hy
    have hyn : ¬ y = 0 := hy
    have HY := Lib.hid hy
    clear hy
    go_enter Tryz.func175, Tryz.ntmps175
    go_wp2_with (first | (go_at_call 172; refine (signed_any _ _ (by assumption) (by assumption)).mono ?_; rintro e w' ⟨rfl, rfl⟩) | (go_at_call 173; refine (flag_any _ _).mono ?_; rintro e w' ⟨rfl, rfl⟩) | (go_at_call 171; refine (cell16_any _ _).mono ?_; rintro e w' ⟨rfl, rfl⟩))
    go_ret
    exact ⟨ret16 (bin_26 x y h0 h1 y0 y1 HY.out), rfl⟩
set_option maxHeartbeats 400000 in
theorem divided_27 (x y : Int) (h0 : 0 ≤ x) (h1 : x < 65536) (y0 : 0 ≤ y) (y1 : y < 65536) (w : World) : Calls Tryz.prog 175 #[.int .i64 27, .int .u16 x, .int .u16 y] w fun e w' => e = .returned (.int .u16 (binF 27 x y)) ∧ w = w' := by
  have hr := sgn_rng x h0 h1
  have hq := sgn_rng y y0 y1
  by_cases hy : y = 0
  · subst hy
    go_enter Tryz.func175, Tryz.ntmps175
    go_wp2
    go_ret
    exact ⟨ret16 (bin_27z x).symm, rfl⟩
  · have hyb : (y == 0) = false := by simpa using hy
    have hsb : ¬ sgn y = 0 := sgn_ne y y0 y1 hy
    have hyn : ¬ y = 0 := hy
    have HY := Lib.hid hy
    clear hy
    go_enter Tryz.func175, Tryz.ntmps175
    go_wp2_with (first | (go_at_call 172; refine (signed_any _ _ (by assumption) (by assumption)).mono ?_; rintro e w' ⟨rfl, rfl⟩) | (go_at_call 173; refine (flag_any _ _).mono ?_; rintro e w' ⟨rfl, rfl⟩) | (go_at_call 171; refine (cell16_any _ _).mono ?_; rintro e w' ⟨rfl, rfl⟩))
    go_ret
    exact ⟨ret16 (bin_27 x y h0 h1 y0 y1 HY.out), rfl⟩
set_option maxHeartbeats 400000 in
theorem compared_30 (x y : Int) (h0 : 0 ≤ x) (h1 : x < 65536) (y0 : 0 ≤ y) (y1 : y < 65536) (w : World) : Calls Tryz.prog 176 #[.int .i64 30, .int .u16 x, .int .u16 y] w fun e w' => e = .returned (.tuple #[.int .u16 (binF 30 x y), .bool true]) ∧ w = w' := by
  have hr := sgn_rng x h0 h1
  have hq := sgn_rng y y0 y1
  go_enter Tryz.func176, Tryz.ntmps176
  go_wp2_with (first | (go_at_call 172; refine (signed_any _ _ (by assumption) (by assumption)).mono ?_; rintro e w' ⟨rfl, rfl⟩) | (go_at_call 173; refine (flag_any _ _).mono ?_; rintro e w' ⟨rfl, rfl⟩))
  all_goals
    go_ret2
    exact ⟨tup2 (by first | exact bin_30 x y | exact bin_30 x y (by assumption) | exact bin_30' x y (by omega)), rfl⟩
set_option maxHeartbeats 400000 in
theorem compared_31 (x y : Int) (h0 : 0 ≤ x) (h1 : x < 65536) (y0 : 0 ≤ y) (y1 : y < 65536) (w : World) : Calls Tryz.prog 176 #[.int .i64 31, .int .u16 x, .int .u16 y] w fun e w' => e = .returned (.tuple #[.int .u16 (binF 31 x y), .bool true]) ∧ w = w' := by
  have hr := sgn_rng x h0 h1
  have hq := sgn_rng y y0 y1
  go_enter Tryz.func176, Tryz.ntmps176
  go_wp2_with (first | (go_at_call 172; refine (signed_any _ _ (by assumption) (by assumption)).mono ?_; rintro e w' ⟨rfl, rfl⟩) | (go_at_call 173; refine (flag_any _ _).mono ?_; rintro e w' ⟨rfl, rfl⟩))
  all_goals
    go_ret2
    exact ⟨tup2 (by first | exact bin_31 x y | exact bin_31 x y (by assumption) | exact bin_31' x y (by omega)), rfl⟩
set_option maxHeartbeats 400000 in
theorem compared_42 (x y : Int) (h0 : 0 ≤ x) (h1 : x < 65536) (y0 : 0 ≤ y) (y1 : y < 65536) (w : World) : Calls Tryz.prog 176 #[.int .i64 42, .int .u16 x, .int .u16 y] w fun e w' => e = .returned (.tuple #[.int .u16 (binF 42 x y), .bool true]) ∧ w = w' := by
  have hr := sgn_rng x h0 h1
  have hq := sgn_rng y y0 y1
  go_enter Tryz.func176, Tryz.ntmps176
  go_wp2_with (first | (go_at_call 172; refine (signed_any _ _ (by assumption) (by assumption)).mono ?_; rintro e w' ⟨rfl, rfl⟩) | (go_at_call 173; refine (flag_any _ _).mono ?_; rintro e w' ⟨rfl, rfl⟩))
  all_goals
    go_ret2
    exact ⟨tup2 (by first | exact bin_42 x y | exact bin_42 x y (by assumption) | exact bin_42' x y (by omega)), rfl⟩
set_option maxHeartbeats 400000 in
theorem compared_43 (x y : Int) (h0 : 0 ≤ x) (h1 : x < 65536) (y0 : 0 ≤ y) (y1 : y < 65536) (w : World) : Calls Tryz.prog 176 #[.int .i64 43, .int .u16 x, .int .u16 y] w fun e w' => e = .returned (.tuple #[.int .u16 (binF 43 x y), .bool true]) ∧ w = w' := by
  have hr := sgn_rng x h0 h1
  have hq := sgn_rng y y0 y1
  go_enter Tryz.func176, Tryz.ntmps176
  go_wp2_with (first | (go_at_call 172; refine (signed_any _ _ (by assumption) (by assumption)).mono ?_; rintro e w' ⟨rfl, rfl⟩) | (go_at_call 173; refine (flag_any _ _).mono ?_; rintro e w' ⟨rfl, rfl⟩))
  all_goals
    go_ret2
    exact ⟨tup2 (by first | exact bin_43 x y | exact bin_43 x y (by assumption) | exact bin_43' x y (by omega)), rfl⟩
set_option maxHeartbeats 400000 in
theorem compared_44 (x y : Int) (h0 : 0 ≤ x) (h1 : x < 65536) (y0 : 0 ≤ y) (y1 : y < 65536) (w : World) : Calls Tryz.prog 176 #[.int .i64 44, .int .u16 x, .int .u16 y] w fun e w' => e = .returned (.tuple #[.int .u16 (binF 44 x y), .bool true]) ∧ w = w' := by
  have hr := sgn_rng x h0 h1
  have hq := sgn_rng y y0 y1
  go_enter Tryz.func176, Tryz.ntmps176
  go_wp2_with (first | (go_at_call 172; refine (signed_any _ _ (by assumption) (by assumption)).mono ?_; rintro e w' ⟨rfl, rfl⟩) | (go_at_call 173; refine (flag_any _ _).mono ?_; rintro e w' ⟨rfl, rfl⟩))
  all_goals
    go_ret2
    exact ⟨tup2 (by first | exact bin_44 x y | exact bin_44 x y (by assumption) | exact bin_44' x y (by omega)), rfl⟩
set_option maxHeartbeats 400000 in
theorem compared_45 (x y : Int) (h0 : 0 ≤ x) (h1 : x < 65536) (y0 : 0 ≤ y) (y1 : y < 65536) (w : World) : Calls Tryz.prog 176 #[.int .i64 45, .int .u16 x, .int .u16 y] w fun e w' => e = .returned (.tuple #[.int .u16 (binF 45 x y), .bool true]) ∧ w = w' := by
  have hr := sgn_rng x h0 h1
  have hq := sgn_rng y y0 y1
  go_enter Tryz.func176, Tryz.ntmps176
  go_wp2_with (first | (go_at_call 172; refine (signed_any _ _ (by assumption) (by assumption)).mono ?_; rintro e w' ⟨rfl, rfl⟩) | (go_at_call 173; refine (flag_any _ _).mono ?_; rintro e w' ⟨rfl, rfl⟩))
  all_goals
    go_ret2
    exact ⟨tup2 (by first | exact bin_45 x y | exact bin_45 x y (by assumption) | exact bin_45' x y (by omega)), rfl⟩
set_option maxHeartbeats 400000 in
theorem compared_46 (x y : Int) (h0 : 0 ≤ x) (h1 : x < 65536) (y0 : 0 ≤ y) (y1 : y < 65536) (w : World) : Calls Tryz.prog 176 #[.int .i64 46, .int .u16 x, .int .u16 y] w fun e w' => e = .returned (.tuple #[.int .u16 (binF 46 x y), .bool true]) ∧ w = w' := by
  have hr := sgn_rng x h0 h1
  have hq := sgn_rng y y0 y1
  go_enter Tryz.func176, Tryz.ntmps176
  go_wp2_with (first | (go_at_call 172; refine (signed_any _ _ (by assumption) (by assumption)).mono ?_; rintro e w' ⟨rfl, rfl⟩) | (go_at_call 173; refine (flag_any _ _).mono ?_; rintro e w' ⟨rfl, rfl⟩))
  all_goals
    go_ret2
    exact ⟨tup2 (by first | exact bin_46 x y | exact bin_46 x y (by assumption) | exact bin_46' x y (by omega)), rfl⟩
set_option maxHeartbeats 400000 in
theorem compared_47 (x y : Int) (h0 : 0 ≤ x) (h1 : x < 65536) (y0 : 0 ≤ y) (y1 : y < 65536) (w : World) : Calls Tryz.prog 176 #[.int .i64 47, .int .u16 x, .int .u16 y] w fun e w' => e = .returned (.tuple #[.int .u16 (binF 47 x y), .bool true]) ∧ w = w' := by
  have hr := sgn_rng x h0 h1
  have hq := sgn_rng y y0 y1
  go_enter Tryz.func176, Tryz.ntmps176
  go_wp2_with (first | (go_at_call 172; refine (signed_any _ _ (by assumption) (by assumption)).mono ?_; rintro e w' ⟨rfl, rfl⟩) | (go_at_call 173; refine (flag_any _ _).mono ?_; rintro e w' ⟨rfl, rfl⟩))
  all_goals
    go_ret2
    exact ⟨tup2 (by first | exact bin_47 x y | exact bin_47 x y (by assumption) | exact bin_47' x y (by omega)), rfl⟩
set_option maxHeartbeats 400000 in
theorem binary_21 (x y : Int) (h0 : 0 ≤ x) (h1 : x < 65536) (y0 : 0 ≤ y) (y1 : y < 65536) (w : World) : Calls Tryz.prog 157 #[.int .i64 21, .int .u16 x, .int .u16 y] w fun e w' => e = .returned (.tuple #[.int .u16 (binF 21 x y), .bool true]) ∧ w = w' := by
  go_enter Tryz.func157, Tryz.ntmps157
  go_wp2
  go_ret2
  exact ⟨tup2 (bin_21 x y h0 h1 y0 y1), rfl⟩
set_option maxHeartbeats 400000 in
theorem binary_22 (x y : Int) (h0 : 0 ≤ x) (h1 : x < 65536) (y0 : 0 ≤ y) (y1 : y < 65536) (w : World) : Calls Tryz.prog 157 #[.int .i64 22, .int .u16 x, .int .u16 y] w fun e w' => e = .returned (.tuple #[.int .u16 (binF 22 x y), .bool true]) ∧ w = w' := by
  go_enter Tryz.func157, Tryz.ntmps157
  go_wp2
  go_ret2
  exact ⟨tup2 (bin_22 x y h0 h1 y0 y1), rfl⟩
set_option maxHeartbeats 400000 in
theorem binary_23 (x y : Int) (h0 : 0 ≤ x) (h1 : x < 65536) (y0 : 0 ≤ y) (y1 : y < 65536) (w : World) : Calls Tryz.prog 157 #[.int .i64 23, .int .u16 x, .int .u16 y] w fun e w' => e = .returned (.tuple #[.int .u16 (binF 23 x y), .bool true]) ∧ w = w' := by
  go_enter Tryz.func157, Tryz.ntmps157
  go_wp2
  go_ret2
  exact ⟨tup2 (bin_23 x y h0 h1 y0 y1), rfl⟩
set_option maxHeartbeats 400000 in
theorem binary_24 (x y : Int) (h0 : 0 ≤ x) (h1 : x < 65536) (y0 : 0 ≤ y) (y1 : y < 65536) (w : World) : Calls Tryz.prog 157 #[.int .i64 24, .int .u16 x, .int .u16 y] w fun e w' => e = .returned (.tuple #[.int .u16 (binF 24 x y), .bool true]) ∧ w = w' := by
  go_enter Tryz.func157, Tryz.ntmps157
  go_wp2_with (first | (go_at_call 175; refine (divided_24 _ _ (by assumption) (by assumption) (by assumption) (by assumption) _).mono ?_; rintro e w' ⟨rfl, rfl⟩))
  go_ret2
  exact ⟨rfl, rfl⟩
set_option maxHeartbeats 400000 in
theorem binary_25 (x y : Int) (h0 : 0 ≤ x) (h1 : x < 65536) (y0 : 0 ≤ y) (y1 : y < 65536) (w : World) : Calls Tryz.prog 157 #[.int .i64 25, .int .u16 x, .int .u16 y] w fun e w' => e = .returned (.tuple #[.int .u16 (binF 25 x y), .bool true]) ∧ w = w' := by
  go_enter Tryz.func157, Tryz.ntmps157
  go_wp2_with (first | (go_at_call 175; refine (divided_25 _ _ (by assumption) (by assumption) (by assumption) (by assumption) _).mono ?_; rintro e w' ⟨rfl, rfl⟩))
  go_ret2
  exact ⟨rfl, rfl⟩
set_option maxHeartbeats 400000 in
theorem binary_26 (x y : Int) (h0 : 0 ≤ x) (h1 : x < 65536) (y0 : 0 ≤ y) (y1 : y < 65536) (w : World) : Calls Tryz.prog 157 #[.int .i64 26, .int .u16 x, .int .u16 y] w fun e w' => e = .returned (.tuple #[.int .u16 (binF 26 x y), .bool true]) ∧ w = w' := by
  go_enter Tryz.func157, Tryz.ntmps157
  go_wp2_with (first | (go_at_call 175; refine (divided_26 _ _ (by assumption) (by assumption) (by assumption) (by assumption) _).mono ?_; rintro e w' ⟨rfl, rfl⟩))
  go_ret2
  exact ⟨rfl, rfl⟩
set_option maxHeartbeats 400000 in
theorem binary_27 (x y : Int) (h0 : 0 ≤ x) (h1 : x < 65536) (y0 : 0 ≤ y) (y1 : y < 65536) (w : World) : Calls Tryz.prog 157 #[.int .i64 27, .int .u16 x, .int .u16 y] w fun e w' => e = .returned (.tuple #[.int .u16 (binF 27 x y), .bool true]) ∧ w = w' := by
  go_enter Tryz.func157, Tryz.ntmps157
  go_wp2_with (first | (go_at_call 175; refine (divided_27 _ _ (by assumption) (by assumption) (by assumption) (by assumption) _).mono ?_; rintro e w' ⟨rfl, rfl⟩))
  go_ret2
  exact ⟨rfl, rfl⟩
set_option maxHeartbeats 400000 in
theorem binary_30 (x y : Int) (h0 : 0 ≤ x) (h1 : x < 65536) (y0 : 0 ≤ y) (y1 : y < 65536) (w : World) : Calls Tryz.prog 157 #[.int .i64 30, .int .u16 x, .int .u16 y] w fun e w' => e = .returned (.tuple #[.int .u16 (binF 30 x y), .bool true]) ∧ w = w' := by
  go_enter Tryz.func157, Tryz.ntmps157
  go_wp2_with (first | (go_at_call 176; refine (compared_30 _ _ (by assumption) (by assumption) (by assumption) (by assumption) _).mono ?_; rintro e w' ⟨rfl, rfl⟩))
  go_ret2
  exact ⟨rfl, rfl⟩
set_option maxHeartbeats 400000 in
theorem binary_31 (x y : Int) (h0 : 0 ≤ x) (h1 : x < 65536) (y0 : 0 ≤ y) (y1 : y < 65536) (w : World) : Calls Tryz.prog 157 #[.int .i64 31, .int .u16 x, .int .u16 y] w fun e w' => e = .returned (.tuple #[.int .u16 (binF 31 x y), .bool true]) ∧ w = w' := by
  go_enter Tryz.func157, Tryz.ntmps157
  go_wp2_with (first | (go_at_call 176; refine (compared_31 _ _ (by assumption) (by assumption) (by assumption) (by assumption) _).mono ?_; rintro e w' ⟨rfl, rfl⟩))
  go_ret2
  exact ⟨rfl, rfl⟩
set_option maxHeartbeats 400000 in
theorem binary_36 (x y : Int) (h0 : 0 ≤ x) (h1 : x < 65536) (y0 : 0 ≤ y) (y1 : y < 65536) (w : World) : Calls Tryz.prog 157 #[.int .i64 36, .int .u16 x, .int .u16 y] w fun e w' => e = .returned (.tuple #[.int .u16 (binF 36 x y), .bool true]) ∧ w = w' := by
  go_enter Tryz.func157, Tryz.ntmps157
  go_wp2
  go_ret2
  exact ⟨tup2 (bin_36 x y h0 h1 y0 y1), rfl⟩
set_option maxHeartbeats 400000 in
theorem binary_37 (x y : Int) (h0 : 0 ≤ x) (h1 : x < 65536) (y0 : 0 ≤ y) (y1 : y < 65536) (w : World) : Calls Tryz.prog 157 #[.int .i64 37, .int .u16 x, .int .u16 y] w fun e w' => e = .returned (.tuple #[.int .u16 (binF 37 x y), .bool true]) ∧ w = w' := by
  go_enter Tryz.func157, Tryz.ntmps157
  go_wp2
  go_ret2
  exact ⟨tup2 (bin_37 x y h0 h1 y0 y1), rfl⟩
set_option maxHeartbeats 400000 in
theorem binary_38 (x y : Int) (h0 : 0 ≤ x) (h1 : x < 65536) (y0 : 0 ≤ y) (y1 : y < 65536) (w : World) : Calls Tryz.prog 157 #[.int .i64 38, .int .u16 x, .int .u16 y] w fun e w' => e = .returned (.tuple #[.int .u16 (binF 38 x y), .bool true]) ∧ w = w' := by
  go_enter Tryz.func157, Tryz.ntmps157
  go_wp2
  go_ret2
  exact ⟨tup2 (bin_38 x y h0 h1 y0 y1), rfl⟩
set_option maxHeartbeats 400000 in
theorem binary_40 (x y : Int) (h0 : 0 ≤ x) (h1 : x < 65536) (y0 : 0 ≤ y) (y1 : y < 65536) (w : World) : Calls Tryz.prog 157 #[.int .i64 40, .int .u16 x, .int .u16 y] w fun e w' => e = .returned (.tuple #[.int .u16 (binF 40 x y), .bool true]) ∧ w = w' := by
  go_enter Tryz.func157, Tryz.ntmps157
  go_wp2
  go_ret2
  exact ⟨tup2 (bin_40 x y h0 h1 y0 y1), rfl⟩
set_option maxHeartbeats 400000 in
theorem binary_41 (x y : Int) (h0 : 0 ≤ x) (h1 : x < 65536) (y0 : 0 ≤ y) (y1 : y < 65536) (w : World) : Calls Tryz.prog 157 #[.int .i64 41, .int .u16 x, .int .u16 y] w fun e w' => e = .returned (.tuple #[.int .u16 (binF 41 x y), .bool true]) ∧ w = w' := by
  go_enter Tryz.func157, Tryz.ntmps157
  go_wp2
  go_ret2
  exact ⟨tup2 (bin_41 x y h0 h1 y0 y1), rfl⟩
set_option maxHeartbeats 400000 in
theorem binary_42 (x y : Int) (h0 : 0 ≤ x) (h1 : x < 65536) (y0 : 0 ≤ y) (y1 : y < 65536) (w : World) : Calls Tryz.prog 157 #[.int .i64 42, .int .u16 x, .int .u16 y] w fun e w' => e = .returned (.tuple #[.int .u16 (binF 42 x y), .bool true]) ∧ w = w' := by
  go_enter Tryz.func157, Tryz.ntmps157
  go_wp2_with (first | (go_at_call 176; refine (compared_42 _ _ (by assumption) (by assumption) (by assumption) (by assumption) _).mono ?_; rintro e w' ⟨rfl, rfl⟩))
  go_ret2
  exact ⟨rfl, rfl⟩
set_option maxHeartbeats 400000 in
theorem binary_43 (x y : Int) (h0 : 0 ≤ x) (h1 : x < 65536) (y0 : 0 ≤ y) (y1 : y < 65536) (w : World) : Calls Tryz.prog 157 #[.int .i64 43, .int .u16 x, .int .u16 y] w fun e w' => e = .returned (.tuple #[.int .u16 (binF 43 x y), .bool true]) ∧ w = w' := by
  go_enter Tryz.func157, Tryz.ntmps157
  go_wp2_with (first | (go_at_call 176; refine (compared_43 _ _ (by assumption) (by assumption) (by assumption) (by assumption) _).mono ?_; rintro e w' ⟨rfl, rfl⟩))
  go_ret2
  exact ⟨rfl, rfl⟩
set_option maxHeartbeats 400000 in
theorem binary_44 (x y : Int) (h0 : 0 ≤ x) (h1 : x < 65536) (y0 : 0 ≤ y) (y1 : y < 65536) (w : World) : Calls Tryz.prog 157 #[.int .i64 44, .int .u16 x, .int .u16 y] w fun e w' => e = .returned (.tuple #[.int .u16 (binF 44 x y), .bool true]) ∧ w = w' := by
  go_enter Tryz.func157, Tryz.ntmps157
  go_wp2_with (first | (go_at_call 176; refine (compared_44 _ _ (by assumption) (by assumption) (by assumption) (by assumption) _).mono ?_; rintro e w' ⟨rfl, rfl⟩))
  go_ret2
  exact ⟨rfl, rfl⟩
set_option maxHeartbeats 400000 in
theorem binary_45 (x y : Int) (h0 : 0 ≤ x) (h1 : x < 65536) (y0 : 0 ≤ y) (y1 : y < 65536) (w : World) : Calls Tryz.prog 157 #[.int .i64 45, .int .u16 x, .int .u16 y] w fun e w' => e = .returned (.tuple #[.int .u16 (binF 45 x y), .bool true]) ∧ w = w' := by
  go_enter Tryz.func157, Tryz.ntmps157
  go_wp2_with (first | (go_at_call 176; refine (compared_45 _ _ (by assumption) (by assumption) (by assumption) (by assumption) _).mono ?_; rintro e w' ⟨rfl, rfl⟩))
  go_ret2
  exact ⟨rfl, rfl⟩
set_option maxHeartbeats 400000 in
theorem binary_46 (x y : Int) (h0 : 0 ≤ x) (h1 : x < 65536) (y0 : 0 ≤ y) (y1 : y < 65536) (w : World) : Calls Tryz.prog 157 #[.int .i64 46, .int .u16 x, .int .u16 y] w fun e w' => e = .returned (.tuple #[.int .u16 (binF 46 x y), .bool true]) ∧ w = w' := by
  go_enter Tryz.func157, Tryz.ntmps157
  go_wp2_with (first | (go_at_call 176; refine (compared_46 _ _ (by assumption) (by assumption) (by assumption) (by assumption) _).mono ?_; rintro e w' ⟨rfl, rfl⟩))
  go_ret2
  exact ⟨rfl, rfl⟩
set_option maxHeartbeats 400000 in
theorem binary_47 (x y : Int) (h0 : 0 ≤ x) (h1 : x < 65536) (y0 : 0 ≤ y) (y1 : y < 65536) (w : World) : Calls Tryz.prog 157 #[.int .i64 47, .int .u16 x, .int .u16 y] w fun e w' => e = .returned (.tuple #[.int .u16 (binF 47 x y), .bool true]) ∧ w = w' := by
  go_enter Tryz.func157, Tryz.ntmps157
  go_wp2_with (first | (go_at_call 176; refine (compared_47 _ _ (by assumption) (by assumption) (by assumption) (by assumption) _).mono ?_; rintro e w' ⟨rfl, rfl⟩))
  go_ret2
  exact ⟨rfl, rfl⟩
end Go.Proofs.YtdnalhjdmlkbmaaGreatDoor
namespace Go.Proofs.YtdnalhjdmlkbmaaGreatDoor
open Go.RowKit

theorem Tryz.stood111 : Tryz.prog.stoodInHeld 111 = false := by kernel_rfl
theorem eql43 (a b c d : Int) (w : World) : (Op.equalIn 10000 111 (.agg #[.int .i64 a, .int .u16 b]) (.agg #[.int .i64 c, .int .u16 d])).run Tryz.prog w = .ok (a == c && b == d) w := by
  have ht : Tryz.prog.underlying 111 = some (.struct (Tryz.prog.fieldsOf 111)) := by simp only [Program.fieldsOf, Tryz.underlying111]
  rw [show (10000 : Nat) = 9998 + 1 + 1 from rfl, run_equalIn_struct w (9998 + 1) 111 _ _ ht Tryz.stood111]
  simp only [Program.fieldsOf, Tryz.underlying111]
  by_cases e : a = c
  · by_cases e2 : b = d
    · simp [Op.eqFields, go_sem, e, e2]
    · have e2' : (b == d) = false := by simpa using e2
      simp [Op.eqFields, go_sem, e, e2']
  · have e' : (a == c) = false := by simpa using e
    simp [Op.eqFields, go_sem, e']
theorem take_ext {α : Type} {l m : List α} {k : Nat} (h : l.take k = m.take k) {x y : α} (hx : l[k]? = some x) (hy : m[k]? = some y) (e : x = y) : l.take (k + 1) = m.take (k + 1) := by
  rw [List.take_add_one, List.take_add_one, h, hx, hy, e]

set_option maxHeartbeats 400000 in
theorem sameR_any (a b : Option Addr) (n c m d : Nat) (l k : List (Int × Int)) (w : World) (hl : l.length = n) (hk : k.length = m) (hn : n ≤ 9223372036854775807) (hm : m ≤ 9223372036854775807) (ha : Reads w a (cellsR l)) (hb : Reads w b (cellsR k)) :
    Calls Tryz.prog 81 #[.slice a n c, .slice b m d] w fun e w' => e = .returned (.bool (decide (l = k))) ∧ ∃ q, w' = w.drewN q := by
  have HL := Lib.hid hl
  have HK := Lib.hid hk
  have HA := Lib.hid ha
  have HB := Lib.hid hb
  clear hl hk ha hb
  by_cases hnm : n = m
  · subst hnm
    go_enter Tryz.func81, Tryz.ntmps81
    go_wp2
    go_loopw [5] (fun s5 wr => ∃ j : Nat, j ≤ n ∧ s5 = .int .i64 j ∧ l.take j = k.take j ∧ ∃ q, wr = w.drewN q) (fun s5 _ => n - (intOf s5).toNat)
    case atStart => exact ⟨0, by omega, rfl, rfl, 0, rfl⟩
    case round =>
      obtain ⟨j, hj, rfl, htk, q, rfl⟩ := hrel
      have HT := Lib.hid htk
      clear htk
      by_cases hlt : j < n
      · obtain ⟨x, hx⟩ : ∃ x, l[j]? = some x := ⟨l[j]'(by rw [HL.out]; omega), by simp⟩
        obtain ⟨y, hy⟩ : ∃ y, k[j]? = some y := ⟨k[j]'(by rw [HK.out]; omega), by simp⟩
        obtain ⟨ab, ao, rfl, hx1, hx2, _⟩ := HA.out.atR j x hx
        obtain ⟨bb, bo, rfl, hy1, hy2, _⟩ := HB.out.atR j y hy
        have HX := Lib.hid hx
        have HY := Lib.hid hy
        have hj0 : (0 : Int) ≤ (j : Int) := Int.natCast_nonneg _
        have hj1 : (j : Int) < (n : Int) := by omega
        clear hx hy
        have hE := eql43
        by_cases hxy : x = y
        · subst hxy
          go_wp2_with fail
          go_quiet (fail)
          go_wp2
          go_roundw
          case rel => exact ⟨j + 1, by omega, by go_num, take_ext HT.out HX.out HY.out rfl, _, rfl⟩
          case measure => simp [intOf]; omega
        · have hb : (x.1 == y.1 && x.2 == y.2) = false := by
            simp only [Bool.and_eq_false_iff, beq_eq_false_iff_ne]
            by_cases e : x.1 = y.1
            · exact .inr fun e2 => hxy (Prod.ext e e2)
            · exact .inl e
          have hne : l ≠ k := by
            intro e
            have h1 := HX.out
            have h2 := HY.out
            rw [e, h2] at h1
            exact hxy (by simpa using h1.symm)
          have HNE := Lib.hid hne
          clear hxy hne
          go_wp2_with fail
          go_quiet (fail)
          go_wp2
          go_ret
          exact ⟨by rw [decide_eq_false HNE.out]; rfl, q + nq, by simp⟩
      · have heq : l = k := by
          have h := HT.out
          rwa [List.take_of_length_le (by rw [HL.out]; omega), List.take_of_length_le (by rw [HK.out]; omega)] at h
        have HEQ := Lib.hid heq
        clear heq
        go_wp2
        go_ret
        exact ⟨by rw [decide_eq_true HEQ.out]; rfl, _, rfl⟩
  · have hne : l ≠ k := by
      intro e
      have h1 := HL.out
      rw [e, HK.out] at h1
      exact hnm h1.symm
    have HNE := Lib.hid hne
    have hb : ((n : Int) == (m : Int)) = false := by simp; omega
    have hb2 : ((n : Int) != (m : Int)) = true := by simp; omega
    clear hne
    go_enter Tryz.func81, Tryz.ntmps81
    go_wp2
    go_ret
    exact ⟨by rw [decide_eq_false HNE.out]; rfl, 0, rfl⟩

set_option maxHeartbeats 400000 in
theorem sameU_any (a b : Option Addr) (n c m d : Nat) (l k : List Int) (w : World) (hl : l.length = n) (hk : k.length = m) (hn : n ≤ 9223372036854775807) (hm : m ≤ 9223372036854775807) (ha : Reads w a (cellsU l)) (hb : Reads w b (cellsU k)) :
    Calls Tryz.prog 48 #[.slice a n c, .slice b m d] w fun e w' => e = .returned (.bool (decide (l = k))) ∧ ∃ q, w' = w.drewN q := by
  have HL := Lib.hid hl
  have HK := Lib.hid hk
  have HA := Lib.hid ha
  have HB := Lib.hid hb
  clear hl hk ha hb
  by_cases hnm : n = m
  · subst hnm
    go_enter Tryz.func48, Tryz.ntmps48
    go_wp2
    go_loopw [5] (fun s5 wr => ∃ j : Nat, j ≤ n ∧ s5 = .int .i64 j ∧ l.take j = k.take j ∧ ∃ q, wr = w.drewN q) (fun s5 _ => n - (intOf s5).toNat)
    case atStart => exact ⟨0, by omega, rfl, rfl, 0, rfl⟩
    case round =>
      obtain ⟨j, hj, rfl, htk, q, rfl⟩ := hrel
      have HT := Lib.hid htk
      clear htk
      by_cases hlt : j < n
      · obtain ⟨x, hx⟩ : ∃ x, l[j]? = some x := ⟨l[j]'(by rw [HL.out]; omega), by simp⟩
        obtain ⟨y, hy⟩ : ∃ y, k[j]? = some y := ⟨k[j]'(by rw [HK.out]; omega), by simp⟩
        obtain ⟨ab, ao, rfl, hx1, _⟩ := HA.out.atU j x hx
        obtain ⟨bb, bo, rfl, hy1, _⟩ := HB.out.atU j y hy
        have HX := Lib.hid hx
        have HY := Lib.hid hy
        have hj0 : (0 : Int) ≤ (j : Int) := Int.natCast_nonneg _
        have hj1 : (j : Int) < (n : Int) := by omega
        clear hx hy
        by_cases hxy : x = y
        · subst hxy
          go_wp2_with fail
          go_quiet (fail)
          go_wp2
          go_roundw
          case rel => exact ⟨j + 1, by omega, by go_num, take_ext HT.out HX.out HY.out rfl, _, rfl⟩
          case measure => simp [intOf]; omega
        · have hb : (x != y) = true := by simpa using hxy
          have hb2 : (x == y) = false := by simpa using hxy
          have hne : l ≠ k := by
            intro e
            have h1 := HX.out
            have h2 := HY.out
            rw [e, h2] at h1
            exact hxy (by simpa using h1.symm)
          have HNE := Lib.hid hne
          clear hne
          go_wp2_with fail
          go_quiet (fail)
          go_wp2
          go_ret
          exact ⟨by rw [decide_eq_false HNE.out]; rfl, q + nq, by simp⟩
      · have heq : l = k := by
          have h := HT.out
          rwa [List.take_of_length_le (by rw [HL.out]; omega), List.take_of_length_le (by rw [HK.out]; omega)] at h
        have HEQ := Lib.hid heq
        clear heq
        go_wp2
        go_ret
        exact ⟨by rw [decide_eq_true HEQ.out]; rfl, _, rfl⟩
  · have hne : l ≠ k := by
      intro e
      have h1 := HL.out
      rw [e, HK.out] at h1
      exact hnm h1.symm
    have HNE := Lib.hid hne
    have hb : ((n : Int) == (m : Int)) = false := by simp; omega
    have hb2 : ((n : Int) != (m : Int)) = true := by simp; omega
    clear hne
    go_enter Tryz.func48, Tryz.ntmps48
    go_wp2
    go_ret
    exact ⟨by rw [decide_eq_false HNE.out]; rfl, 0, rfl⟩

end Go.Proofs.YtdnalhjdmlkbmaaGreatDoor
