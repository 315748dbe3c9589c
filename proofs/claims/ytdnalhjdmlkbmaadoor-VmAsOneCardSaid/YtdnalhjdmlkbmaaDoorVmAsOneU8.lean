/- threads: the cart of a few cells; ownCart: a cart in new memory; cart.Check: of every cart; What Check's yes says of a cart; budget; awake: what its frame comes to; Calls of a machine that is none; Check of a plain cart; awake: a cart of four steps; Small facts for the laws over a cartridge; same of two states that are alike; VmAsOne: plain facts of twins; what the law's walk carries; VmAsOne: the walk; What is known of an argument that can be read as data: by its type; A cart, bytes, numbers that come in as arguments; VmAsOne, its arguments opened. -/
import Derived.BigQuiet
import Derived.Deep.QuietTactic
import Derived.Laws.BytesArg
import Derived.Laws.StructEq
import Derived.Deep.CutRange
import Derived.Deep.RegionHeldLaw
import Derived.ProofKit
import Derived.SizedLaws
import Derived.Deep.Slices
import Derived.OpenShut
import Derived.ChangeMaps5
import Derived.Test.YtdnalhjdmlkbmaaDoorVmAsOneU1
import Derived.Test.YtdnalhjdmlkbmaaDoorVmAsOneU2
import Derived.Test.YtdnalhjdmlkbmaaDoorVmAsOneU3
import Derived.Test.YtdnalhjdmlkbmaaDoorVmAsOneU4
import Derived.Test.YtdnalhjdmlkbmaaDoorVmAsOneU5
import Derived.Test.YtdnalhjdmlkbmaaDoorVmAsOneU6
import Derived.Test.YtdnalhjdmlkbmaaDoorVmAsOneU7
set_option linter.unusedVariables false
set_option linter.unusedSimpArgs false
set_option linter.unnecessarySimpa false
namespace Go.Proofs.YtdnalhjdmlkbmaaDoor
open Go.RowKit
set_option linter.unusedVariables false
def numsB : Nat → List Int
  | 0 => []
  | k + 1 => numsB k ++ [(k : Int) % 256, 0]
def cellsB : List Int → List Int
  | [] => []
  | x :: l => x % 256 :: x / 256 :: cellsB l
def threadB (l : List Int) : List Int := numsB 64 ++ [1, 0] ++ cellsB l
theorem cellsB_length : ∀ l : List Int, (cellsB l).length = 2 * l.length
  | [] => rfl
  | x :: l => by simp [cellsB, cellsB_length l]; omega
theorem numsB_length : ∀ k : Nat, (numsB k).length = 2 * k
  | 0 => rfl
  | k + 1 => by simp [numsB, numsB_length k]; omega
theorem cellsB_snoc : ∀ (l : List Int) (x : Int), cellsB (l ++ [x]) = cellsB l ++ [x % 256, x / 256]
  | [], x => rfl
  | y :: l, x => by simp [cellsB, cellsB_snoc l x]
theorem own4c {w : World} {G : Nat → Nat} {o : Nat} (b : Nat) (hb : G b = o) (v0 v1 v2 v3 : Value) : Adv (fun x => x = o) w G ((((w.setCell ⟨b, 0, none⟩ v0).setCell ⟨b, 1, none⟩ v1).setCell ⟨b, 2, none⟩ v2).setCell ⟨b, 3, none⟩ v3) G :=
  ((((Adv.refl (fun x => x = o) w G).setCell (p := ⟨b, 0, none⟩) hb v0).setCell (p := ⟨b, 1, none⟩) hb v1).setCell (p := ⟨b, 2, none⟩) hb v2).setCell (p := ⟨b, 3, none⟩) hb v3
/-- What threads answers. -/
def ThreadsIs (l : List Int) (w : World) (G : Nat → Nat) (e : Ending) (w' : World) : Prop :=
  ∃ ca cc G', e = .returned (cartV (some ca) (130 + 2 * l.length) cc 128 none 0 0 none 0 0) ∧ Adv (fun _ => False) w G w' G' ∧ Reads w' (some ca) (u8s (threadB l)) ∧ G' ca.block = 0 ∧ ca.block < w'.heap.size ∧ w.heap.size ≤ ca.block
set_option maxRecDepth 100000 in
set_option maxHeartbeats 2000000 in
theorem threads_any (G : Nat → Nat) (xa : Option Addr) (xc : Nat) (l : List Int) (hl : D16 l) (hn : l.length ≤ 1000) (w : World) (hr : Reads w xa (cellsU l)) :
    Calls Tryd.prog 69 #[.slice xa l.length xc] w (ThreadsIs l w G) := by
  obtain ⟨i0, hi, hz0, hz1, hz2⟩ := info_parts infoU8
  have Z0 := Lib.hid (Mine.made w (fun _ => 0) w (Nat.le_refl _) #[.slice none 0 0, .int .u16 0, .slice none 0 0, .slice none 0 0] 74)
  have A0 := Lib.hid ((Adv.refl (fun o => o = 9) w (fun _ => 0)).alloc (.cells #[.slice none 0 0, .int .u16 0, .slice none 0 0, .slice none 0 0] 74) 1000)
  have HR := Lib.hid hr
  have HL := Lib.hid hl
  clear hr hl
  go_enter Tryd.func69, Tryd.ntmps69
  go_wp2_with fail
  go_loopw [3, 4] (fun vb vk wr => ∃ k : Nat, k ≤ 64 ∧ vk = .int .i64 k ∧ ∃ va vc Gr, vb = .slice va (2 * k) vc ∧ Row 5 1 wr Gr 9 (.slice va (2 * k) vc) (2 * k) (u8s (numsB k)) ∧ Adv (fun o => o = 9) w (fun _ => 0) wr Gr ∧ Mine w wr Gr w.heap.size #[.slice none 0 0, .int .u16 0, .slice none 0 0, .slice none 0 0] 74) (fun _ vk _ => 64 - (intOf vk).toNat)
  case atStart => exact ⟨0, by omega, rfl, none, 0, _, rfl, Row.nil _ _ _ _ _, A0.out, Z0.out⟩
  case round =>
    obtain ⟨k, hk, rfl, va, vc, Gr, rfl, row, ar, mn⟩ := hrel
    have ROW := Lib.hid row
    have AR := Lib.hid ar
    clear row ar
    by_cases h : k < 64
    · have hb : decide ((k : Int) < 64) = true := by simp; omega
      have hwk : IntKind.wrap .u8 (k : Int) = k := wrap_u8_id _ (by omega) (by omega)
      have hwi : IntKind.i64.wrap ((k : Int) + 1) = (k : Int) + 1 := IntWalk.i64_in _ (by omega)
      have RN := Lib.hid (Reads.new wr [.int .u8 (k : Int), .int .u8 0] 5)
      have RW := Lib.hid (ROW.out.adv ((Adv.refl (fun _ => False) wr Gr).alloc (.cells #[.int .u8 (k : Int), .int .u8 0] 5) 9) id)
      have AW := Lib.hid (AR.out.alloc (.cells #[.int .u8 (k : Int), .int .u8 0] 5) 9)
      go_wp2_with (first
        | (at_builtin; refine wpList_append_reads rfl (.tmp 11) (.tmp 14) 70 rfl 5 i0 (.int .u8 0) 1 1 Tryd.underlying70 hi hz0 hz1 hz2 rfl (by decide) _ 9 va (2 * k) vc (u8s (numsB k)) rfl RW.out (some ⟨wr.heap.size, 0, none⟩) 2 2 [.int .u8 (k : Int), .int .u8 0] rfl rfl RN.out (by intro u hu; simp at hu; rcases hu with rfl | rfl <;> rfl) (by unfold maxLen; omega) (by omega) ?_; intro va1 vc1 w1 G1 h1 h2; have HR1 := Lib.hid h1; have HA1 := Lib.hid (AW.out.trans h2); have HS1 := Lib.hid (((Adv.refl (fun o => o = 9) wr Gr).alloc (.cells #[.int .u8 (k : Int), .int .u8 0] 5) 9).trans h2); clear h1 h2))
      refine ⟨⟨k + 1, by omega, by simp, va1, vc1, G1, rfl, ?_, HA1.out, mn.adv HS1.out (by decide)⟩, ?_⟩
      · have e := HR1.out
        rw [show u8s (numsB (k + 1)) = u8s (numsB k) ++ [.int .u8 (k : Int), .int .u8 0] from by rw [numsB, u8s_append]; simp only [u8s, List.map]; rw [Int.emod_eq_of_lt (by omega) (by omega)]]
        exact e
      · simp only [intOf]; omega
    · have hb : decide ((k : Int) < 64) = false := by simp; omega
      have AW := Lib.hid (AR.out.alloc (.cells #[.int .u8 1, .int .u8 0] 5) 9)
      have RN := Lib.hid (Reads.new wr [.int .u8 1, .int .u8 0] 5)
      have RW := Lib.hid (ROW.out.adv ((Adv.refl (fun _ => False) wr Gr).alloc (.cells #[.int .u8 1, .int .u8 0] 5) 9) id)
      go_wp2_with (first
        | (at_builtin; refine wpList_append_reads rfl (.tmp 16) (.tmp 17) 70 rfl 5 i0 (.int .u8 0) 1 1 Tryd.underlying70 hi hz0 hz1 hz2 rfl (by decide) _ 9 va (2 * k) vc (u8s (numsB k)) rfl RW.out (some ⟨wr.heap.size, 0, none⟩) 2 2 [.int .u8 1, .int .u8 0] rfl rfl RN.out (by intro u hu; simp at hu; rcases hu with rfl | rfl <;> rfl) (by unfold maxLen; omega) (by omega) ?_; intro va1 vc1 w1 G1 h1 h2; have HR1 := Lib.hid h1; have HA1 := Lib.hid (AW.out.trans h2); have HS1 := Lib.hid (((Adv.refl (fun o => o = 9) wr Gr).alloc (.cells #[.int .u8 1, .int .u8 0] 5) 9).trans h2); clear h1 h2))
      have HK := Lib.hid (show k = 64 by omega)
      clear h hk
      have RL := Lib.hid (HR.out.adv HA1.out (fun _ _ => by decide))
      go_loopw [3, 21] (fun vb vk wx => ∃ k : Nat, k ≤ l.length ∧ vk = .int .i64 k ∧ ∃ va vc Gr, vb = .slice va (130 + 2 * k) vc ∧ Row 5 1 wx Gr 9 (.slice va (130 + 2 * k) vc) (130 + 2 * k) (u8s (threadB (l.take k))) ∧ Adv (fun o => o = 9) w (fun _ => 0) wx Gr ∧ Mine w wx Gr w.heap.size #[.slice none 0 0, .int .u16 0, .slice none 0 0, .slice none 0 0] 74) (fun _ vk _ => l.length - (intOf vk).toNat)
      case atStart => exact ⟨0, by omega, rfl, va1, vc1, G1, by rw [HK.out], by have e := HR1.out; rw [show u8s (threadB (l.take 0)) = u8s (numsB k) ++ [.int .u8 1, .int .u8 0] from by rw [List.take_zero, threadB, u8s_append, u8s_append, HK.out]; simp [u8s, cellsB]]; rw [HK.out] at e ⊢; exact e, HA1.out, mn.adv HS1.out (by decide)⟩
      case round =>
        obtain ⟨k, hk, rfl, va, vc, Gr, rfl, row, ar, mn⟩ := hrel
        have ROW2 := Lib.hid row
        have AR2 := Lib.hid ar
        clear row ar
        by_cases h : k < l.length
        · obtain ⟨x, hx⟩ : ∃ x, l[k]? = some x := ⟨l[k], List.getElem?_eq_getElem h⟩
          obtain ⟨x0, x1⟩ := HL.out x (List.mem_of_getElem? hx)
          have hb : decide ((k : Int) < (l.length : Int)) = true := by simp; omega
          have hw1 : IntKind.wrap .u8 x = x % 256 := wrap_u8_mod x
          have hw2 : IntKind.wrap .u8 (x / 256) = x / 256 := wrap_u8_id _ (by omega) (by omega)
          have hq : Int.tdiv x 256 = x / 256 := Int.tdiv_eq_ediv_of_nonneg x0
          have hwi : IntKind.i64.wrap ((k : Int) + 1) = (k : Int) + 1 := IntWalk.i64_in _ (by omega)
          obtain ⟨b, o, e, hcell, hblt⟩ := (HR.out.adv AR2.out (fun _ _ => by decide)).atU k x hx
          subst e
          have hq16 : IntKind.wrap .u16 (x / 256) = x / 256 := wrap_u16_id _ (by omega) (by omega)
          have AW := Lib.hid (AR2.out.alloc (.cells #[.int .u8 (x % 256), .int .u8 (x / 256)] 5) 9)
          have RN := Lib.hid (Reads.new wr [.int .u8 (x % 256), .int .u8 (x / 256)] 5)
          have RW := Lib.hid (ROW2.out.adv ((Adv.refl (fun _ => False) wr Gr).alloc (.cells #[.int .u8 (x % 256), .int .u8 (x / 256)] 5) 9) id)
          go_wp2_with (first
            | (at_builtin; refine wpList_append_reads rfl (.tmp 25) (.tmp 31) 70 rfl 5 i0 (.int .u8 0) 1 1 Tryd.underlying70 hi hz0 hz1 hz2 rfl (by decide) _ 9 va (130 + 2 * k) vc (u8s (threadB (l.take k))) rfl RW.out (some ⟨wr.heap.size, 0, none⟩) 2 2 [.int .u8 (x % 256), .int .u8 (x / 256)] rfl rfl RN.out (by intro u hu; simp at hu; rcases hu with rfl | rfl <;> rfl) (by unfold maxLen; omega) (by omega) ?_; intro va2 vc2 w2 G2 h1 h2; have HR2 := Lib.hid h1; have HA2 := Lib.hid (AW.out.trans h2); have HS2 := Lib.hid (((Adv.refl (fun o => o = 9) wr Gr).alloc (.cells #[.int .u8 (x % 256), .int .u8 (x / 256)] 5) 9).trans h2); clear h1 h2))
          refine ⟨⟨k + 1, by omega, by simp, va2, vc2, G2, rfl, ?_, HA2.out, mn.adv HS2.out (by decide)⟩, ?_⟩
          · have e := HR2.out
            rw [show u8s (threadB (l.take (k + 1))) = u8s (threadB (l.take k)) ++ [.int .u8 (x % 256), .int .u8 (x / 256)] from by rw [List.take_add_one, hx, Option.toList_some, threadB, cellsB_snoc, ← List.append_assoc, u8s_append]; rfl]
            exact e
          · simp only [intOf]; omega
        · have hb : decide ((k : Int) < (l.length : Int)) = false := by simp; omega
          have hkk : k = l.length := by omega
          subst hkk
          have y0 := mn.cell 0 (.slice none 0 0) rfl
          have y1 := mn.cell 1 (.int .u16 0) rfl
          have y2 := mn.cell 2 (.slice none 0 0) rfl
          have y3 := mn.cell 3 (.slice none 0 0) rfl
          have yf := mn.free
          go_wp2_with fail
          have A5 := ((((AR2.out.setNew (p := ⟨w.heap.size, 0, none⟩) (Nat.le_refl _) (.slice va (130 + 2 * l.length) vc)).setNew (p := ⟨w.heap.size, 1, none⟩) (Nat.le_refl _) (.int .u16 128)).setNew (p := ⟨w.heap.size, 2, none⟩) (Nat.le_refl _) (.slice none 0 0)).setNew (p := ⟨w.heap.size, 3, none⟩) (Nat.le_refl _) (.slice none 0 0))
          have R5 := ROW2.out.adv (own4c (w := wr) (G := Gr) w.heap.size mn.own (.slice va (130 + 2 * l.length) vc) (.int .u16 128) (.slice none 0 0) (.slice none 0 0)) (by decide)
          obtain ⟨a, c, e, _, _, e2⟩ := R5.slice
          cases e
          obtain ⟨g, rfl⟩ := e2 (by omega)
          obtain ⟨f1, f2⟩ := fresh_row A5 R5 G 0
          have hlt := (R5.row.lt g rfl).2
          have hold : w.heap.size ≤ g := Nat.le_of_not_lt fun h => by have := A5.own g h; rw [R5.own g rfl] at this; cases this
          rw [List.take_length] at f2
          exact bodyPost_ret (v := cartV (some ⟨g, 0, none⟩) (130 + 2 * l.length) vc 128 none 0 0 none 0 0) (by simp [results, Tryd.results69, go_sem, cartV, y0, y1, y2, y3]) rfl
            ⟨⟨g, 0, none⟩, vc, _, rfl, f1, f2.reads, f2.own g rfl, hlt, hold⟩
end Go.Proofs.YtdnalhjdmlkbmaaDoor
namespace Go.Proofs.YtdnalhjdmlkbmaaDoor
open Go.RowKit
set_option linter.unusedVariables false
def effC (l : List (Int × Int × Int)) : List Value := l.flatMap fun x => [.int .u16 x.1, .int .i64 x.2.1, .int .i64 x.2.2]
theorem effC_length : ∀ l : List (Int × Int × Int), (effC l).length = l.length * 3
  | [] => rfl
  | x :: l => by rw [effC, List.flatMap_cons, List.length_append, ← effC, effC_length l, List.length_cons]; simp; omega
theorem effC_one (l : List (Int × Int × Int)) : ∀ u ∈ effC l, u.oneCell' = true := by
  intro u hu
  obtain ⟨x, _, hx⟩ := List.mem_flatMap.1 hu
  simp at hx
  rcases hx with rfl | rfl | rfl <;> rfl
theorem infoEff : (Tryd.prog.info? 168).map (fun i => (i.zero, i.size, i.bytes)) = some (some (.agg #[.int .u16 0, .int .i64 0, .int .i64 0]), 3, 24) := by kernel_rfl
theorem BankIn.adv {w w' : World} {G' : Nat → Nat} {S : Nat → Prop} {la : Option Addr} {l : List (Int × List Int)} (h : BankIn w la l) (ha : Adv S w (fun _ => 0) w' G') (h0 : ¬ S 0) : BankIn w' la l := by
  intro k p hp
  obtain ⟨b, o, da, dc, e, h1, h2, h3⟩ := h k p hp
  exact ⟨b, o, da, dc, e, ha.cell_some h1 h0, ha.cell_some h2 h0, h3.adv ha (fun _ _ => h0)⟩
/-- A cart as it lies in memory. -/
structure CartIn (w : World) (ca ea ba : Option Addr) (code : List Int) (effs : List (Int × Int × Int)) (banks : List (Int × List Int)) : Prop where
  code : Reads w ca (u8s code)
  effs : Reads w ea (effC effs)
  banks : BankIn w ba banks
theorem CartIn.adv {w w' : World} {G' : Nat → Nat} {S : Nat → Prop} {ca ea ba : Option Addr} {code : List Int} {effs : List (Int × Int × Int)} {banks : List (Int × List Int)} (h : CartIn w ca ea ba code effs banks) (ha : Adv S w (fun _ => 0) w' G') (h0 : ¬ S 0) : CartIn w' ca ea ba code effs banks :=
  ⟨h.code.adv ha (fun _ _ => h0), h.effs.adv ha (fun _ _ => h0), h.banks.adv ha h0⟩
/-- A list of banks that is being laid. -/
def Laying (w : World) (G : Nat → Nat) (l : List (Int × List Int)) (cs : List Value) : Prop :=
  cs.length = l.length * 2 ∧ (∀ u ∈ cs, u.oneCell' = true) ∧ ∀ (k : Nat) (p : Int × List Int), l[k]? = some p → ∃ da dc, cs[k * 2]? = some (.int .i64 p.1) ∧ cs[k * 2 + 1]? = some (.slice da p.2.length dc) ∧ Reads w da (u8s p.2) ∧ ∀ ad, da = some ad → ad.block < w.heap.size ∧ G ad.block = 8
theorem Laying.nil (w : World) (G : Nat → Nat) : Laying w G [] [] := ⟨rfl, (fun u hu => by cases hu), (fun k p hp => by cases hp)⟩
theorem Laying.adv {w w' : World} {G G' : Nat → Nat} {S : Nat → Prop} {l : List (Int × List Int)} {cs : List Value} (h : Laying w G l cs) (ha : Adv S w G w' G') (h8 : ¬ S 8) : Laying w' G' l cs := by
  refine ⟨h.1, h.2.1, fun k p hp => ?_⟩
  obtain ⟨da, dc, h1, h2, h3, h4⟩ := h.2.2 k p hp
  exact ⟨da, dc, h1, h2, h3.adv ha (fun ad e => by rw [(h4 ad e).2]; exact h8), fun ad e => ⟨Nat.lt_of_lt_of_le (h4 ad e).1 ha.size, (ha.own _ (h4 ad e).1).trans (h4 ad e).2⟩⟩
theorem Laying.snoc {w : World} {G : Nat → Nat} {l : List (Int × List Int)} {cs : List Value} (h : Laying w G l cs) (p : Int × List Int) (da : Option Addr) (dc : Nat) (hr : Reads w da (u8s p.2)) (ho : ∀ ad, da = some ad → ad.block < w.heap.size ∧ G ad.block = 8) :
    Laying w G (l ++ [p]) (cs ++ [.int .i64 p.1, .slice da p.2.length dc]) := by
  refine ⟨by simp [h.1]; omega, fun u hu => ?_, fun k q hq => ?_⟩
  · rcases List.mem_append.1 hu with hu | hu
    · exact h.2.1 u hu
    · simp at hu
      rcases hu with rfl | rfl <;> rfl
  · by_cases hk : k < l.length
    · rw [List.getElem?_append_left hk] at hq
      obtain ⟨a, c, h1, h2, h3, h4⟩ := h.2.2 k q hq
      have hl := h.1
      exact ⟨a, c, by rw [List.getElem?_append_left (by omega)]; exact h1, by rw [List.getElem?_append_left (by omega)]; exact h2, h3, h4⟩
    · rw [List.getElem?_append_right (by omega)] at hq
      obtain ⟨hk0, rfl⟩ : k - l.length = 0 ∧ p = q := by
        cases hz : k - l.length with
        | zero => rw [hz] at hq; exact ⟨rfl, by simpa using hq⟩
        | succ j => rw [hz] at hq; simp at hq
      have hl := h.1
      have e : k = l.length := by omega
      subst e
      exact ⟨da, dc, by rw [List.getElem?_append_right (by omega), hl, Nat.sub_self]; rfl, by rw [List.getElem?_append_right (by omega), show l.length * 2 + 1 - cs.length = 1 from by omega]; rfl, hr, ho⟩
theorem Laying.bankIn {w : World} {G : Nat → Nat} {l : List (Int × List Int)} {cs : List Value} (h : Laying w G l cs) {la : Option Addr} (hr : Reads w la cs) : BankIn w la l := by
  intro k p hp
  obtain ⟨da, dc, h1, h2, h3, -⟩ := h.2.2 k p hp
  rcases hr with hz | ⟨b, o, e, hc⟩
  · rw [hz] at h1; cases h1
  · refine ⟨b, o, da, dc, e, hc _ _ h1, ?_, h3⟩
    have := hc _ _ h2
    rwa [← Nat.add_assoc] at this
theorem Row.adr {e size : Nat} {w : World} {G : Nat → Nat} {i : Nat} {va : Option Addr} {n vc : Nat} {xs : List Value} (h : Row e size w G i (.slice va n vc) n xs) : ∀ ad, va = some ad → ad.block < w.heap.size ∧ G ad.block = i := by
  intro ad e
  rcases h.row.2 with ⟨e1, _⟩ | ⟨g, cap, cur, e1, _⟩
  · cases e1; cases e
  · cases e1; cases e
    exact ⟨(h.row.lt g rfl).2, h.own g rfl⟩
/-- What ownCart answers. -/
def OwnedCart (n m k : Nat) (entry : Int) (code : List Int) (effs : List (Int × Int × Int)) (banks : List (Int × List Int)) (w : World) (G : Nat → Nat) (e : Ending) (w' : World) : Prop :=
  ∃ ca cc ea ec ba bc G', e = .returned (cartV ca n cc entry ea m ec ba k bc) ∧ Adv (fun _ => False) w G w' G' ∧ CartIn w' ca ea ba code effs banks
def SC : Nat → Prop := fun o => o = 7 ∨ o = 9
set_option maxRecDepth 100000 in
set_option maxHeartbeats 4000000 in
theorem ownCart_any (G : Nat → Nat) (ca : Option Addr) (n cc : Nat) (entry : Int) (ea : Option Addr) (m ec : Nat) (ba : Option Addr) (k bc : Nat) (code : List Int) (effs : List (Int × Int × Int)) (banks : List (Int × List Int)) (w : World)
    (hn : code.length = n) (hm : effs.length = m) (hk : banks.length = k) (hc : CartIn w ca ea ba code effs banks) (bn : n ≤ 140737488351232) (bm : m * 24 ≤ 140737488351232) (bk : k * 32 ≤ 140737488351232) (bb : ∀ p ∈ banks, p.2.length ≤ 140737488351232) :
    Calls Tryd.prog 33 #[cartV ca n cc entry ea m ec ba k bc] w (OwnedCart n m k entry code effs banks w G) := by
  obtain ⟨i0, hi, hz0, hz1, hz2⟩ := info_parts infoEff
  obtain ⟨j0, hj, hy0, hy1, hy2⟩ := info_parts infoBank
  have HN := Lib.hid (And.intro hn (And.intro hm hk))
  have HC := Lib.hid hc
  have HB := Lib.hid bb
  have A0 := Lib.hid (((Adv.refl SC w (fun _ => 0)).alloc (.cells #[.slice ca n cc, .int .u16 entry, .slice ea m ec, .slice ba k bc] 74) 1000).alloc (.cells #[.slice none 0 0, .int .u16 0, .slice none 0 0, .slice none 0 0] 74) 1000)
  have M1 := Lib.hid ((Mine.made w (fun _ => 0) w (Nat.le_refl _) #[.slice ca n cc, .int .u16 entry, .slice ea m ec, .slice ba k bc] 74).adv ((Adv.refl (fun _ => False) _ _).alloc (.cells #[.slice none 0 0, .int .u16 0, .slice none 0 0, .slice none 0 0] 74) 1000) id)
  have M2 := Lib.hid (Mine.made (w.alloc (.cells #[.slice ca n cc, .int .u16 entry, .slice ea m ec, .slice ba k bc] 74)) (own1 w (fun _ => 0) 1000) w (by simp) #[.slice none 0 0, .int .u16 0, .slice none 0 0, .slice none 0 0] 74)
  have s0 : ¬ SC 0 := by unfold SC; decide
  have s1k : ¬ SC 1000 := by unfold SC; decide
  clear hn hm hk hc bb
  unfold cartV
  go_enter Tryd.func33, Tryd.ntmps33
  go_wp2_with fail
  obtain ⟨W0, hW0⟩ : ∃ v, v = (w.alloc (.cells #[.slice ca n cc, .int .u16 entry, .slice ea m ec, .slice ba k bc] 74)).alloc (.cells #[.slice none 0 0, .int .u16 0, .slice none 0 0, .slice none 0 0] 74) := ⟨_, rfl⟩
  obtain ⟨G0, hG0⟩ : ∃ v, v = own1 (w.alloc (.cells #[.slice ca n cc, .int .u16 entry, .slice ea m ec, .slice ba k bc] 74)) (own1 w (fun _ => 0) 1000) 1000 := ⟨_, rfl⟩
  rw [show (w.alloc (.cells #[.slice ca n cc, .int .u16 entry, .slice ea m ec, .slice ba k bc] 74)).heap.size = w.heap.size + 1 from by simp] at M2
  rw [← hW0] at A0 M1 M2 ⊢
  rw [← hG0] at A0 M1 M2
  clear hW0 hG0
  refine (own_any 0 G0 ca n cc code HN.out.1 bn _ (HC.out.code.adv A0.out (fun _ _ => s0))).mono ?_
  rintro e w1 ⟨va, vc, G1, rfl, a1, r1⟩
  have A1 := Lib.hid (A0.out.trans (a1.mono (T := SC) fun _ h => h.elim))
  have N1 := Lib.hid (M1.out.adv a1 id)
  have N2 := Lib.hid (M2.out.adv a1 id)
  have y0 := N1.out.cell 0 (.slice ca n cc) rfl
  have yf := N1.out.free
  have x1 := N1.out.set 0 (.slice va n vc)
  have P1 := Lib.hid (x1.2.sett (C' := #[.slice va n vc, .int .u16 entry, .slice ea m ec, .slice ba k bc]) rfl)
  have P2 := Lib.hid (N2.out.other (b2 := w.heap.size) (by omega) 0 (.slice va n vc))
  have R1 := Lib.hid (r1.adv x1.1 (by decide))
  have B1 := Lib.hid (A1.out.setNew (p := ⟨w.heap.size, 0, none⟩) (Nat.le_refl _) (.slice va n vc))
  clear x1 a1 r1 M1 M2
  obtain ⟨W1, hW1⟩ : ∃ v, v = w1.setCell ⟨w.heap.size, 0, none⟩ (.slice va n vc) := ⟨_, rfl⟩
  go_upto_region 2 with fail
  rw [← hW1] at P1 P2 R1 B1 ⊢
  clear hW1 y0 yf N1 N2
  have y2 := P1.out.cell 2 (.slice ea m ec) rfl
  have yf := P1.out.free
  have C1 := Lib.hid (B1.out.alloc (.cells #[] 168) 7)
  have E1 := Lib.hid (Row.new W1 G1 168 3 7 0 [] (Nat.zero_le _) rfl)
  have X1 := Lib.hid ((HC.out.effs.adv B1.out (fun _ _ => s0)).alloc (.cells #[] 168))
  have Q1 := Lib.hid (P1.out.adv ((Adv.refl (fun _ => False) W1 G1).alloc (.cells #[] 168) 7) id)
  have Q2 := Lib.hid (P2.out.adv ((Adv.refl (fun _ => False) W1 G1).alloc (.cells #[] 168) 7) id)
  have S1 := Lib.hid (R1.out.adv ((Adv.refl (fun _ => False) W1 G1).alloc (.cells #[] 168) 7) id)
  have y2 := Q1.out.cell 2 (.slice ea m ec) rfl
  go_upto_region 3 with (first
    | (at_builtin; refine wpList_append_reads rfl (.tmp 10) (.tmp 12) 71 rfl 168 i0 (.agg #[.int .u16 0, .int .i64 0, .int .i64 0]) 3 24 Tryd.underlying71 hi hz0 hz1 hz2 rfl (by decide) _ 7 (some ⟨W1.heap.size, 0, none⟩) 0 0 [] rfl E1.out ea m ec (effC effs) rfl (by rw [effC_length, HN.out.2.1]) X1.out (effC_one effs) (by unfold maxLen; omega) (by omega) ?_; intro va2 vc2 w2 G2 h1 h2; rw [Nat.zero_add, List.nil_append] at h1; rw [Nat.zero_add]; have E2 := Lib.hid h1; have C2 := Lib.hid (C1.out.trans (h2.mono (T := SC) fun _ h => .inl h)); have T1 := Lib.hid (Q1.out.adv h2 (by decide)); have T2 := Lib.hid (Q2.out.adv h2 (by decide)); have S2 := Lib.hid (S1.out.adv h2 (by decide)); have tf := T1.out.free; have ty := T1.out.cell 2 (.slice ea m ec) rfl; clear h1 h2))
  have x2 := T1.out.set 2 (.slice va2 m vc2)
  have P3 := Lib.hid (x2.2.sett (C' := #[.slice va n vc, .int .u16 entry, .slice va2 m vc2, .slice ba k bc]) rfl)
  have P4 := Lib.hid (T2.out.other (b2 := w.heap.size) (by omega) 2 (.slice va2 m vc2))
  have R3 := Lib.hid (S2.out.adv x2.1 (by decide))
  have E3 := Lib.hid (E2.out.adv x2.1 (by decide))
  have B3 := Lib.hid (C2.out.setNew (p := ⟨w.heap.size, 2, none⟩) (Nat.le_refl _) (.slice va2 m vc2))
  obtain ⟨W3, hW3⟩ : ∃ v, v = w2.setCell ⟨w.heap.size, 2, none⟩ (.slice va2 m vc2) := ⟨_, rfl⟩
  rw [← hW3] at P3 P4 R3 B3 E3 ⊢
  clear hW3 x2 y2 yf tf ty T1 T2 S2 E2 C2 Q1 Q2 S1 E1 X1 C1 P1 P2 R1 B1
  have y3 := P3.out.cell 3 (.slice ba k bc) rfl
  go_wp2_with fail
  go_loopw [3, 18] (fun vb vi wr => ∃ j : Nat, j ≤ k ∧ vi = .int .i64 j ∧ ∃ da dc cs Gr, vb = .slice da j dc ∧ Row 106 2 wr Gr 9 (.slice da j dc) j cs ∧ Laying wr Gr (banks.take j) cs ∧ Adv SC w (fun _ => 0) wr Gr ∧
      Mine w wr Gr w.heap.size #[.slice va n vc, .int .u16 entry, .slice va2 m vc2, .slice ba k bc] 74 ∧ Mine w wr Gr (w.heap.size + 1) #[.slice none 0 0, .int .u16 0, .slice none 0 0, .slice none 0 0] 74 ∧ Row 5 1 wr Gr 0 (.slice va n vc) n (u8s code) ∧ Row 168 3 wr Gr 7 (.slice va2 m vc2) m (effC effs)) (fun _ vi _ => k - (intOf vi).toNat)
  case atStart => exact ⟨0, by omega, rfl, none, 0, [], _, rfl, Row.nil _ _ _ _ _, Laying.nil _ _, B3.out, P3.out, P4.out, R3.out, E3.out⟩
  case round =>
    obtain ⟨j, hj0, rfl, da, dc, cs, Gr, rfl, rw9, la, ar, m1, m2, rc, re⟩ := hrel
    have ROW := Lib.hid rw9
    have LA := Lib.hid la
    have AR := Lib.hid ar
    have M1 := Lib.hid m1
    have M2 := Lib.hid m2
    have RC := Lib.hid rc
    have RE := Lib.hid re
    clear rw9 la ar m1 m2 rc re y3 P3 P4 R3 E3 B3
    by_cases h : j < k
    · have hb : decide ((j : Int) < (k : Int)) = true := by simp; omega
      have hkl := HN.out.2.2
      obtain ⟨x, hx⟩ : ∃ x, banks[j]? = some x := ⟨banks[j], List.getElem?_eq_getElem (by omega)⟩
      obtain ⟨b, o, xa, xc, e, c0, c1, rx⟩ := (HC.out.banks.adv AR.out s0) j x hx
      subst e
      have HX := Lib.hid hx
      have RX := Lib.hid rx
      have hlen : x.2.length ≤ 140737488351232 := HB.out x (List.mem_of_getElem? hx)
      have hwi : IntKind.i64.wrap ((j : Int) + 1) = (j : Int) + 1 := IntWalk.i64_in _ (by omega)
      clear hx rx hkl
      go_upto_region 7 with fail
      obtain ⟨wb, hwb⟩ : ∃ v, v = wr.alloc (.cells #[.int .i64 x.1, .slice xa x.2.length xc] 106) := ⟨_, rfl⟩
      obtain ⟨Gb, hGb⟩ : ∃ v, v = own1 wr Gr 1000 := ⟨_, rfl⟩
      obtain ⟨b5, hb5⟩ : ∃ v, v = wr.heap.size := ⟨_, rfl⟩
      have al : Adv (fun _ => False) wr Gr wb.drew Gb := by rw [hwb, hGb]; exact ((Adv.refl (fun _ => False) wr Gr).alloc (.cells #[.int .i64 x.1, .slice xa x.2.length xc] 106) 1000).drew
      have mb : Mine w wb.drew Gb b5 #[.int .i64 x.1, .slice xa x.2.length xc] 106 := by rw [hwb, hGb, hb5]; exact (Mine.made wr Gr w AR.out.size #[.int .i64 x.1, .slice xa x.2.length xc] 106).drew
      rw [← hwb, ← hb5]
      clear hwb hGb hb5
      have AL := Lib.hid al
      have RX1 := Lib.hid (RX.out.adv al (fun _ _ => id))
      have q0 := mb.cell 0 (.int .i64 x.1) rfl
      have q1 := mb.cell 1 (.slice xa x.2.length xc) rfl
      have KK := Lib.hid (show ∀ (w' : World) (G' : Nat → Nat), Adv (fun _ => False) wb.drew Gb w' G' → w'.cell? ⟨b5, 0, none⟩ = some (.int .i64 x.1) ∧ w'.cell? ⟨b5, 1, none⟩ = some (.slice xa x.2.length xc) from fun w' G' h => ⟨h.cell_some q0 id, h.cell_some q1 id⟩)
      have KM := Lib.hid mb
      clear al mb
      go_region_held3 (fun w' => w'.cell? ⟨b5, 0, none⟩ = some (.int .i64 x.1) ∧ w'.cell? ⟨b5, 1, none⟩ = some (.slice xa x.2.length xc)) (first | with_reducible exact ⟨q0, q1⟩ | with_reducible exact Q4.out | with_reducible exact Q5.out | with_reducible exact Q6.out)
        (first | (go_at_call 68; refine (own_any 8 Gb xa x.2.length xc x.2 rfl hlen _ RX1.out).mono ?_; rintro e w5 ⟨ya, yc, G5, rfl, a5, r5⟩; have A5 := Lib.hid a5; have R5 := Lib.hid r5; have Q4 := Lib.hid (KK.out _ _ a5); have a6 := a5.alloc (.cells #[.int .i64 x.1, .slice ya x.2.length yc] 106) 1000; have A6 := Lib.hid a6; have Q5 := Lib.hid (KK.out _ _ a6); have ROW6 := Lib.hid (ROW.out.adv (AL.out.trans a6) id); clear a5 r5 a6) | (refine step_append_row rfl (.tmp 22) (.tmp 29) 72 rfl 106 j0 (.agg #[.int .i64 0, .slice none 0 0]) 2 32 Tryd.underlying72 hj hy0 hy1 hy2 rfl (by decide) (own1 w5 G5 1000) 9 da j dc cs rfl ROW6.out ⟨w5.heap.size, 0, none⟩ 1 1 [.int .i64 x.1, .slice ya x.2.length yc] rfl rfl (new_cells w5 _ _) (by intro u hu; simp at hu; rcases hu with rfl | rfl <;> rfl) (by unfold maxLen; omega) (by omega) ?_; intro va3 vc3 w7 G7 h1 h2; have ROW7 := Lib.hid h1; have A7 := Lib.hid h2; have Q6 := Lib.hid (And.intro ((KM.out.adv A6.out id).adv h2 (by decide) |>.cell 0 (.int .i64 x.1) rfl) ((KM.out.adv A6.out id).adv h2 (by decide) |>.cell 1 (.slice xa x.2.length xc) rfl)); clear h1 h2))
      go_wp2_with fail
      have a9 : Adv (fun o => o = 9) wr Gr w7 G7 := ((AL.out.trans A6.out).mono fun _ h => h.elim).trans A7.out
      have r7 := (R5.out.adv (S := fun _ => False) ((Adv.refl (fun _ => False) w5 G5).alloc (.cells #[.int .i64 x.1, .slice ya x.2.length yc] 106) 1000) id).adv A7.out (by decide)
      have lay := (LA.out.adv a9 (by decide)).snoc x ya yc r7.reads r7.adr
      refine ⟨⟨j + 1, by omega, by simp, va3, vc3, _, G7, rfl, ROW7.out, ?_, AR.out.trans (a9.mono fun _ h => .inr h), M1.out.adv a9 (by decide), M2.out.adv a9 (by decide), RC.out.adv a9 (by decide), RE.out.adv a9 (by decide)⟩, by simp only [intOf]; omega⟩
      rw [List.take_add_one, HX.out, Option.toList_some]
      exact lay
    · have hb : decide ((j : Int) < (k : Int)) = false := by simp; omega
      have HJ := Lib.hid (show j = k by omega)
      have y3 := M1.out.cell 3 (.slice ba k bc) rfl
      have yf := M1.out.free
      have x3 := M1.out.set 3 (.slice da j dc)
      have P5 := Lib.hid (x3.2.sett (C' := #[.slice va n vc, .int .u16 entry, .slice va2 m vc2, .slice da j dc]) rfl)
      have P6 := Lib.hid (M2.out.other (b2 := w.heap.size) (by omega) 3 (.slice da j dc))
      have A5 := Lib.hid (AR.out.setNew (p := ⟨w.heap.size, 3, none⟩) (Nat.le_refl _) (.slice da j dc))
      have RC5 := Lib.hid (RC.out.adv x3.1 (by decide))
      have RE5 := Lib.hid (RE.out.adv x3.1 (by decide))
      have RB5 := Lib.hid (ROW.out.adv x3.1 (by decide))
      have LA5 := Lib.hid (LA.out.adv x3.1 (by decide))
      clear x3
      go_upto_region 10 with fail
      obtain ⟨W5, hW5⟩ : ∃ v, v = wr.setCell ⟨w.heap.size, 3, none⟩ (.slice da j dc) := ⟨_, rfl⟩
      rw [← hW5] at P5 P6 A5 RC5 RE5 RB5 LA5 ⊢
      clear hW5 y3 yf M1 M2 RC RE ROW LA AR
      have z0 := P5.out.cell 0 (.slice va n vc) rfl
      have z1 := P5.out.cell 1 (.int .u16 entry) rfl
      have z2 := P5.out.cell 2 (.slice va2 m vc2) rfl
      have z3 := P5.out.cell 3 (.slice da j dc) rfl
      have y0 := P6.out.cell 0 (.slice none 0 0) rfl
      have y1 := P6.out.cell 1 (.int .u16 0) rfl
      have y2 := P6.out.cell 2 (.slice none 0 0) rfl
      have y3 := P6.out.cell 3 (.slice none 0 0) rfl
      have yf := P6.out.free
      go_wp2_with fail
      have o4 := own4c (w := W5) (G := Gr) (w.heap.size + 1) P6.out.own (.slice va n vc) (.int .u16 entry) (.slice va2 m vc2) (.slice da j dc)
      have A6 := ((((A5.out.setNew (p := ⟨w.heap.size + 1, 0, none⟩) (Nat.le_succ _) (.slice va n vc)).setNew (p := ⟨w.heap.size + 1, 1, none⟩) (Nat.le_succ _) (.int .u16 entry)).setNew (p := ⟨w.heap.size + 1, 2, none⟩) (Nat.le_succ _) (.slice va2 m vc2)).setNew (p := ⟨w.heap.size + 1, 3, none⟩) (Nat.le_succ _) (.slice da j dc))
      have hla := (LA5.out.adv o4 (by decide)).bankIn (RB5.out.adv o4 (by decide)).reads
      rw [show banks.take j = banks from by rw [HJ.out, ← HN.out.2.2, List.take_length]] at hla
      exact bodyPost_ret (v := cartV va n vc entry va2 m vc2 da k dc) (by simp [results, Tryd.results33, go_sem, cartV, y0, y1, y2, y3, HJ.out]) rfl
        ⟨va, vc, va2, vc2, da, dc, _, rfl, joined_adv A6 s0, ⟨(RC5.out.adv o4 (by decide)).reads, (RE5.out.adv o4 (by decide)).reads, hla⟩⟩
end Go.Proofs.YtdnalhjdmlkbmaaDoor
namespace Go.Proofs.YtdnalhjdmlkbmaaDoor
open Go.RowKit
set_option linter.unusedVariables false
def withinB (x y : Int) : Bool := decide (0 ≤ x) && decide (x ≤ y)
theorem within_any (x y : Int) (w : World) : Calls Tryd.prog 82 #[.int .i64 x, .int .i64 y] w fun e w' => e = .returned (.bool (withinB x y)) ∧ w' = w := by
  by_cases h : 0 ≤ x
  · have h1 : decide (0 ≤ x) = true := by simpa using h
    go_enter Tryd.func82, Tryd.ntmps82
    go_wp2
    go_ret
    exact ⟨by simp [withinB, h], rfl⟩
  · have h1 : decide (0 ≤ x) = false := by simpa using h
    go_enter Tryd.func82, Tryd.ntmps82
    go_wp2
    go_ret
    exact ⟨by simp [withinB]; omega, rfl⟩
/-- Is the k-th effect one that may not be? The k-th bank? -/
def effBad (l : List (Int × Int × Int)) (k : Nat) : Bool := match l[k]? with
  | none => false
  | some x => !withinB x.2.1 256 || (!withinB x.2.2 256 || (decide (0 < k) && decide (x.1 ≤ (l.getD (k - 1) (0, 0, 0)).1)))
def bankBad (l : List (Int × List Int)) (k : Nat) : Bool := match l[k]? with
  | none => false
  | some x => !withinB x.1 15 || (decide (16384 < (x.2.length : Int)) || (decide (0 < k) && decide (x.1 ≤ (l.getD (k - 1) (0, [])).1)))
def headBad (n m : Nat) : Bool := decide (n % 2 ≠ 0) || (decide (16384 < n) || decide (8192 < m))
/-- What Check answers. -/
def checkF (n : Nat) (effs : List (Int × Int × Int)) (banks : List (Int × List Int)) : Int :=
  if headBad n effs.length = true then 74 else if (List.range effs.length).any (effBad effs) = true then 74 else if (List.range banks.length).any (bankBad banks) = true then 74 else 0
theorem Mine.drewN {w0 w : World} {G : Nat → Nat} {b : Nat} {C : Array Value} {T : TypeId} (h : Mine w0 w G b C T) (n : Nat) : Mine w0 (w.drewN n) G b C T := by
  induction n with
  | zero => exact h
  | succ n ih => exact ih.drew
theorem BankIn.keep {w w' : World} {G G' : Nat → Nat} {la : Option Addr} {l : List (Int × List Int)} (h : BankIn w la l) (ha : Adv (fun _ => False) w G w' G') : BankIn w' la l := by
  intro k p hp
  obtain ⟨b, o, da, dc, e, h1, h2, h3⟩ := h k p hp
  exact ⟨b, o, da, dc, e, ha.cell_some h1 id, ha.cell_some h2 id, h3.adv ha (fun _ _ => id)⟩
theorem Reads.atF {w : World} {a : Option Addr} {l : List (Int × Int × Int)} (h : Reads w a (effC l)) (k : Nat) (x : Int × Int × Int) (hk : l[k]? = .some x) : ∃ b o, a = .some ⟨b, o, none⟩ ∧ w.cell? ⟨b, o + k * 3, none⟩ = .some (.int .u16 x.1) ∧ w.cell? ⟨b, o + k * 3 + 1, none⟩ = .some (.int .i64 x.2.1) ∧ w.cell? ⟨b, o + k * 3 + 2, none⟩ = .some (.int .i64 x.2.2) := by
  have hc : ∀ (l : List (Int × Int × Int)) (k : Nat), l[k]? = .some x → (effC l)[k * 3]? = .some (.int .u16 x.1) ∧ (effC l)[k * 3 + 1]? = .some (.int .i64 x.2.1) ∧ (effC l)[k * 3 + 2]? = .some (.int .i64 x.2.2) := by
    intro l
    induction l with
    | nil => intro k h; cases h
    | cons y l ih =>
      intro k h
      cases k with
      | zero => cases h; exact ⟨rfl, rfl, rfl⟩
      | succ k =>
        have e : effC (y :: l) = [.int .u16 y.1, .int .i64 y.2.1, .int .i64 y.2.2] ++ effC l := by simp [effC]
        have := ih k h
        rw [e]
        refine ⟨?_, ?_, ?_⟩
        · rw [List.getElem?_append_right (by simp; omega)]; rw [show (k + 1) * 3 - [Value.int IntKind.u16 y.1, .int .i64 y.2.1, .int .i64 y.2.2].length = k * 3 from by simp; omega]; exact this.1
        · rw [List.getElem?_append_right (by simp; omega)]; rw [show (k + 1) * 3 + 1 - [Value.int IntKind.u16 y.1, .int .i64 y.2.1, .int .i64 y.2.2].length = k * 3 + 1 from by simp; omega]; exact this.2.1
        · rw [List.getElem?_append_right (by simp; omega)]; rw [show (k + 1) * 3 + 2 - [Value.int IntKind.u16 y.1, .int .i64 y.2.1, .int .i64 y.2.2].length = k * 3 + 2 from by simp; omega]; exact this.2.2
  obtain ⟨h1, h2, h3⟩ := hc l k hk
  rcases h with hz | ⟨b, o, e, hh⟩
  · rw [hz] at h1; cases h1
  · refine ⟨b, o, e, hh _ _ h1, ?_, ?_⟩
    · have := hh _ _ h2; rwa [← Nat.add_assoc] at this
    · have := hh _ _ h3; rwa [← Nat.add_assoc] at this
set_option maxRecDepth 100000 in
set_option maxHeartbeats 4000000 in
theorem check_any (G : Nat → Nat) (ca : Option Addr) (n cc : Nat) (entry : Int) (ea : Option Addr) (m ec : Nat) (ba : Option Addr) (k bc : Nat) (effs : List (Int × Int × Int)) (banks : List (Int × List Int)) (w : World)
    (hm : effs.length = m) (hk : banks.length = k) (he : Reads w ea (effC effs)) (hb : BankIn w ba banks) (bn : n ≤ 140737488351232) (bm : m * 24 ≤ 140737488351232) (bk : k * 32 ≤ 140737488351232) (bb : ∀ p ∈ banks, p.2.length ≤ 140737488351232) :
    Calls Tryd.prog 67 #[cartV ca n cc entry ea m ec ba k bc] w (Looked w G (.int .i64 (checkF n effs banks))) := by
  have HE := Lib.hid he
  have HB := Lib.hid hb
  have HM := Lib.hid hm
  have HK := Lib.hid hk
  have BB := Lib.hid bb
  have A0 := Lib.hid ((Adv.refl (fun _ => False) w G).alloc (.cells #[.slice ca n cc, .int .u16 entry, .slice ea m ec, .slice ba k bc] 74) 1000)
  have M0 := Lib.hid (Mine.made w G w (Nat.le_refl _) #[.slice ca n cc, .int .u16 entry, .slice ea m ec, .slice ba k bc] 74)
  clear he hb hm hk bb
  unfold cartV
  by_cases h1 : n % 2 = 0
  · by_cases h2 : n ≤ 16384
    · by_cases h3 : m ≤ 8192
      · have t0 : Int.tmod (n : Int) 2 = 0 := by rw [Int.tmod_eq_emod_of_nonneg (by omega)]; omega
        have t1 : decide (16384 < (n : Int)) = false := by simp; omega
        have t2 : decide (8192 < (m : Int)) = false := by simp; omega
        have hhead : headBad n effs.length = false := by simp [headBad, HM.out]; omega
        have HH := Lib.hid hhead
        clear hhead
        go_enter Tryd.func67, Tryd.ntmps67
        go_wp2_with fail
        clear t0 t1 t2 h1 h2
        go_loopw [27] (fun vi wr => ∃ j : Nat, j ≤ m ∧ vi = .int .i64 j ∧ ∃ Gr, Adv (fun _ => False) w G wr Gr ∧ Mine w wr Gr w.heap.size #[.slice ca n cc, .int .u16 entry, .slice ea m ec, .slice ba k bc] 74 ∧ (∀ i, i < j → effBad effs i = false)) (fun vi _ => m - (intOf vi).toNat)
        case atStart => exact ⟨0, by omega, rfl, _, A0.out, M0.out, fun i hi => by omega⟩
        case round =>
          obtain ⟨j, hj0, rfl, Gr, ar, mn, hgood⟩ := hrel
          have AR := Lib.hid ar
          have MN := Lib.hid mn
          have HG := Lib.hid hgood
          clear ar mn hgood
          by_cases h : j < m
          · have hd : decide ((j : Int) < (m : Int)) = true := by simp; omega
            have hml := HM.out
            obtain ⟨x, hx⟩ : ∃ x, effs[j]? = some x := ⟨effs[j], List.getElem?_eq_getElem (by omega)⟩
            obtain ⟨b, o, e, c0, c1, c2⟩ := (HE.out.adv AR.out (fun _ _ => id)).atF j x hx
            subst e
            have HX := Lib.hid hx
            have hwi : IntKind.i64.wrap ((j : Int) + 1) = (j : Int) + 1 := IntWalk.i64_in _ (by omega)
            clear hx hml
            go_upto_region 6 with fail
            have A1 := Lib.hid (AR.out.alloc (.cells #[.int .u16 x.1, .int .i64 x.2.1, .int .i64 x.2.2] 168) 1000)
            have M1 := Lib.hid (MN.out.adv (S := fun _ => False) ((Adv.refl _ wr Gr).alloc (.cells #[.int .u16 x.1, .int .i64 x.2.1, .int .i64 x.2.2] 168) 1000) id)
            have m1 := Mine.made wr Gr w AR.out.size #[.int .u16 x.1, .int .i64 x.2.1, .int .i64 x.2.2] 168
            obtain ⟨wb, hwb⟩ : ∃ v, v = wr.alloc (.cells #[.int .u16 x.1, .int .i64 x.2.1, .int .i64 x.2.2] 168) := ⟨_, rfl⟩
            obtain ⟨Gb, hGb⟩ : ∃ v, v = own1 wr Gr 1000 := ⟨_, rfl⟩
            obtain ⟨b5, hb5⟩ : ∃ v, v = wr.heap.size := ⟨_, rfl⟩
            rw [← hwb] at A1 M1 m1 ⊢
            rw [← hGb] at A1 M1 m1
            rw [← hb5] at m1 ⊢
            clear hwb hGb hb5 c0 c1 c2
            have z0 := m1.cell 0 (.int .u16 x.1) rfl
            have z1 := m1.cell 1 (.int .i64 x.2.1) rfl
            have z2 := m1.cell 2 (.int .i64 x.2.2) rfl
            have y2 := M1.out.cell 2 (.slice (some ⟨b, o, none⟩) m ec) rfl
            clear m1
            have BADC := Lib.hid (fun (hbad : effBad effs j = true) => (show checkF n effs banks = 74 from by
              unfold checkF
              rw [HH.out, if_neg (by decide), if_pos (List.any_eq_true.2 ⟨j, List.mem_range.2 (by rw [HM.out]; exact h), hbad⟩)]))
            have BADE := Lib.hid (show effBad effs j = (!withinB x.2.1 256 || (!withinB x.2.2 256 || (decide (0 < j) && decide (x.1 ≤ (effs.getD (j - 1) (0, 0, 0)).1)))) from by unfold effBad; rw [HX.out])
            by_cases g1 : withinB x.2.1 256 = true
            · by_cases g2 : withinB x.2.2 256 = true
              · by_cases g3 : 0 < j
                · have d3 : decide ((0 : Int) < (j : Int)) = true := by simp; omega
                  obtain ⟨k', hk'⟩ : ∃ k', j = k' + 1 := ⟨j - 1, by omega⟩
                  have hml := HM.out
                  obtain ⟨q, hq⟩ : ∃ q, effs[k']? = some q := ⟨effs[k'], List.getElem?_eq_getElem (by omega)⟩
                  obtain ⟨b', o', e', p0, -, -⟩ := (HE.out.adv A1.out (fun _ _ => id)).atF k' q hq
                  cases e'
                  have hgd : effs.getD (j - 1) (0, 0, 0) = q := by rw [hk', Nat.add_sub_cancel, List.getD_eq_getElem?_getD, hq]; rfl
                  have HGD := Lib.hid hgd
                  have hw1 : IntKind.i64.wrap ((j : Int) - 1) = (k' : Int) := by rw [IntWalk.i64_in _ (by omega)]; omega
                  have hkm : k' < m := by omega
                  have HK' := Lib.hid hk'
                  clear hgd hq hml hk'
                  by_cases g4 : x.1 ≤ q.1
                  · have d4 : decide (x.1 ≤ q.1) = true := by simpa using g4
                    go_quiet (first | (go_at_call 82; refine Calls.quiet_of_same (within_any _ _ _)))
                    go_wp2_with fail
                    go_ret
                    exact ⟨by rw [BADC.out (by rw [BADE.out, g1, g2, HGD.out]; simp [g3, g4])]; rfl, _, A1.out.drewN _⟩
                  · have d4 : decide (x.1 ≤ q.1) = false := by simpa using g4
                    go_quiet (first | (go_at_call 82; refine Calls.quiet_of_same (within_any _ _ _)))
                    go_wp2_with fail
                    refine ⟨⟨j + 1, by omega, by simp, Gb, A1.out.drewN _, M1.out.drewN _, fun i hi => ?_⟩, by simp only [intOf]; omega⟩
                    by_cases hij : i < j
                    · exact HG.out i hij
                    · obtain rfl : i = j := by omega
                      rw [BADE.out, g1, g2, HGD.out]; simp [g4]
                · have d3 : decide ((0 : Int) < (j : Int)) = false := by simp; omega
                  go_quiet (first | (go_at_call 82; refine Calls.quiet_of_same (within_any _ _ _)))
                  go_wp2_with fail
                  refine ⟨⟨j + 1, by omega, by simp, Gb, A1.out.drewN _, M1.out.drewN _, fun i hi => ?_⟩, by simp only [intOf]; omega⟩
                  by_cases hij : i < j
                  · exact HG.out i hij
                  · obtain rfl : i = j := by omega
                    rw [BADE.out, g1, g2]; simp [g3]
              · have g2 : withinB x.2.2 256 = false := by simpa using g2
                go_quiet (first | (go_at_call 82; refine Calls.quiet_of_same (within_any _ _ _)))
                go_wp2_with fail
                go_ret
                exact ⟨by rw [BADC.out (by rw [BADE.out, g1, g2]; rfl)]; rfl, _, A1.out.drewN _⟩
            · have g1 : withinB x.2.1 256 = false := by simpa using g1
              go_quiet (first | (go_at_call 82; refine Calls.quiet_of_same (within_any _ _ _)))
              go_wp2_with fail
              go_ret
              exact ⟨by rw [BADC.out (by rw [BADE.out, g1]; rfl)]; rfl, _, A1.out.drewN _⟩
          · have hd : decide ((j : Int) < (m : Int)) = false := by simp; omega
            have HJ := Lib.hid (show j = m by omega)
            have q3 := MN.out.cell 3 (.slice ba k bc) rfl
            have GOODE := Lib.hid (show (List.range effs.length).any (effBad effs) = false from by
              rw [List.any_eq_false]
              intro i hi
              have hi := List.mem_range.1 hi
              rw [HM.out, ← HJ.out] at hi
              rw [HG.out i hi]; decide)
            have A2 := AR
            have M2 := MN
            clear AR MN HG
            go_wp2_with fail
            clear q3
            go_loopw [62] (fun vi wr => ∃ j : Nat, j ≤ k ∧ vi = .int .i64 j ∧ ∃ Gr, Adv (fun _ => False) w G wr Gr ∧ Mine w wr Gr w.heap.size #[.slice ca n cc, .int .u16 entry, .slice ea m ec, .slice ba k bc] 74 ∧ (∀ i, i < j → bankBad banks i = false)) (fun vi _ => k - (intOf vi).toNat)
            case atStart => exact ⟨0, by omega, rfl, _, A2.out, M2.out, fun i hi => by omega⟩
            case round =>
              clear A2 M2 hd h HJ
              obtain ⟨j, hj0, rfl, Gr, ar, mn, hgood⟩ := hrel
              have AR := Lib.hid ar
              have MN := Lib.hid mn
              have HGB := Lib.hid hgood
              clear ar mn hgood
              by_cases h : j < k
              · have hd : decide ((j : Int) < (k : Int)) = true := by simp; omega
                have hml := HK.out
                obtain ⟨x, hx⟩ : ∃ x, banks[j]? = some x := ⟨banks[j], List.getElem?_eq_getElem (by omega)⟩
                obtain ⟨b, o, xa, xc, e, c0, c1, rx⟩ := (HB.out.keep AR.out) j x hx
                subst e
                have HX := Lib.hid hx
                have hxl := BB.out x (List.mem_of_getElem? hx)
                have hwi : IntKind.i64.wrap ((j : Int) + 1) = (j : Int) + 1 := IntWalk.i64_in _ (by omega)
                clear hx hml rx
                go_upto_region 12 with fail
                have A1 := Lib.hid (AR.out.alloc (.cells #[.int .i64 x.1, .slice xa x.2.length xc] 106) 1000)
                have M1 := Lib.hid (MN.out.adv (S := fun _ => False) ((Adv.refl _ wr Gr).alloc (.cells #[.int .i64 x.1, .slice xa x.2.length xc] 106) 1000) id)
                have m1 := Mine.made wr Gr w AR.out.size #[.int .i64 x.1, .slice xa x.2.length xc] 106
                obtain ⟨wb, hwb⟩ : ∃ v, v = wr.alloc (.cells #[.int .i64 x.1, .slice xa x.2.length xc] 106) := ⟨_, rfl⟩
                obtain ⟨Gb, hGb⟩ : ∃ v, v = own1 wr Gr 1000 := ⟨_, rfl⟩
                obtain ⟨b5, hb5⟩ : ∃ v, v = wr.heap.size := ⟨_, rfl⟩
                rw [← hwb] at A1 M1 m1 ⊢
                rw [← hGb] at A1 M1 m1
                rw [← hb5] at m1 ⊢
                clear hwb hGb hb5 c0 c1
                have z0 := m1.cell 0 (.int .i64 x.1) rfl
                have z1 := m1.cell 1 (.slice xa x.2.length xc) rfl
                have y3 := M1.out.cell 3 (.slice (some ⟨b, o, none⟩) k bc) rfl
                clear m1
                have BADC := Lib.hid (fun (hbad : bankBad banks j = true) => (show checkF n effs banks = 74 from by
                  unfold checkF
                  rw [HH.out, if_neg (by decide), GOODE.out, if_neg (by decide), if_pos (List.any_eq_true.2 ⟨j, List.mem_range.2 (by rw [HK.out]; exact h), hbad⟩)]))
                have BADE := Lib.hid (show bankBad banks j = (!withinB x.1 15 || (decide (16384 < (x.2.length : Int)) || (decide (0 < j) && decide (x.1 ≤ (banks.getD (j - 1) (0, [])).1)))) from by unfold bankBad; rw [HX.out])
                by_cases g1 : withinB x.1 15 = true
                · by_cases g2 : 16384 < (x.2.length : Int)
                  · have d2 : decide (16384 < (x.2.length : Int)) = true := by simpa using g2
                    go_quiet (first | (go_at_call 82; refine Calls.quiet_of_same (within_any _ _ _)))
                    go_wp2_with fail
                    go_ret
                    exact ⟨by rw [BADC.out (by rw [BADE.out, g1, d2]; rfl)]; rfl, _, A1.out.drewN _⟩
                  · have d2 : decide (16384 < (x.2.length : Int)) = false := by simpa using g2
                    by_cases g3 : 0 < j
                    · have d3 : decide ((0 : Int) < (j : Int)) = true := by simp; omega
                      obtain ⟨k', hk'⟩ : ∃ k', j = k' + 1 := ⟨j - 1, by omega⟩
                      have hml := HK.out
                      obtain ⟨q, hq⟩ : ∃ q, banks[k']? = some q := ⟨banks[k'], List.getElem?_eq_getElem (by omega)⟩
                      obtain ⟨b', o', ya, yc, e', p0, -, -⟩ := (HB.out.keep A1.out) k' q hq
                      cases e'
                      have hgd : banks.getD (j - 1) (0, []) = q := by rw [hk', Nat.add_sub_cancel, List.getD_eq_getElem?_getD, hq]; rfl
                      have HGD := Lib.hid hgd
                      have hw1 : IntKind.i64.wrap ((j : Int) - 1) = (k' : Int) := by rw [IntWalk.i64_in _ (by omega)]; omega
                      have hkm : k' < k := by omega
                      have HK' := Lib.hid hk'
                      clear hgd hq hml hk'
                      by_cases g4 : x.1 ≤ q.1
                      · have d4 : decide (x.1 ≤ q.1) = true := by simpa using g4
                        go_quiet (first | (go_at_call 82; refine Calls.quiet_of_same (within_any _ _ _)))
                        go_wp2_with fail
                        go_ret
                        exact ⟨by rw [BADC.out (by rw [BADE.out, g1, d2, HGD.out]; simp [g3, g4])]; rfl, _, A1.out.drewN _⟩
                      · have d4 : decide (x.1 ≤ q.1) = false := by simpa using g4
                        go_quiet (first | (go_at_call 82; refine Calls.quiet_of_same (within_any _ _ _)))
                        go_wp2_with fail
                        refine ⟨⟨j + 1, by omega, by simp, Gb, A1.out.drewN _, M1.out.drewN _, fun i hi => ?_⟩, by simp only [intOf]; omega⟩
                        by_cases hij : i < j
                        · exact HGB.out i hij
                        · obtain rfl : i = j := by omega
                          rw [BADE.out, g1, d2, HGD.out]; simp [g4]
                    · have d3 : decide ((0 : Int) < (j : Int)) = false := by simp; omega
                      go_quiet (first | (go_at_call 82; refine Calls.quiet_of_same (within_any _ _ _)))
                      go_wp2_with fail
                      refine ⟨⟨j + 1, by omega, by simp, Gb, A1.out.drewN _, M1.out.drewN _, fun i hi => ?_⟩, by simp only [intOf]; omega⟩
                      by_cases hij : i < j
                      · exact HGB.out i hij
                      · obtain rfl : i = j := by omega
                        rw [BADE.out, g1, d2]; simp [g3]
                · have g1 : withinB x.1 15 = false := by simpa using g1
                  go_quiet (first | (go_at_call 82; refine Calls.quiet_of_same (within_any _ _ _)))
                  go_wp2_with fail
                  go_ret
                  exact ⟨by rw [BADC.out (by rw [BADE.out, g1]; rfl)]; rfl, _, A1.out.drewN _⟩
              · have hd : decide ((j : Int) < (k : Int)) = false := by simp; omega
                have HJ := Lib.hid (show j = k by omega)
                have GOODB := Lib.hid (show (List.range banks.length).any (bankBad banks) = false from by
                  rw [List.any_eq_false]
                  intro i hi
                  have hi := List.mem_range.1 hi
                  rw [HK.out, ← HJ.out] at hi
                  rw [HGB.out i hi]; decide)
                go_wp2_with fail
                go_ret
                exact ⟨by rw [show checkF n effs banks = 0 from by unfold checkF; rw [HH.out, GOODE.out, GOODB.out]; rfl]; rfl, _, AR.out⟩
      · have t0 : Int.tmod (n : Int) 2 = 0 := by rw [Int.tmod_eq_emod_of_nonneg (by omega)]; omega
        have t1 : decide (16384 < (n : Int)) = false := by simp; omega
        have t2 : decide (8192 < (m : Int)) = true := by simp; omega
        have HC := Lib.hid (show checkF n effs banks = 74 from by unfold checkF; rw [if_pos (by simp [headBad, HM.out]; omega)])
        go_enter Tryd.func67, Tryd.ntmps67
        go_wp2_with fail
        go_ret
        exact ⟨by rw [HC.out]; rfl, _, A0.out⟩
    · have t0 : Int.tmod (n : Int) 2 = 0 := by rw [Int.tmod_eq_emod_of_nonneg (by omega)]; omega
      have t1 : decide (16384 < (n : Int)) = true := by simp; omega
      have HC := Lib.hid (show checkF n effs banks = 74 from by unfold checkF; rw [if_pos (by simp [headBad, HM.out]; omega)])
      go_enter Tryd.func67, Tryd.ntmps67
      go_wp2_with fail
      go_ret
      exact ⟨by rw [HC.out]; rfl, _, A0.out⟩
  · have t0 : Int.tmod (n : Int) 2 = 1 := by rw [Int.tmod_eq_emod_of_nonneg (by omega)]; omega
    have HC := Lib.hid (show checkF n effs banks = 74 from by unfold checkF; rw [if_pos (by simp [headBad, HM.out]; omega)])
    go_enter Tryd.func67, Tryd.ntmps67
    go_wp2_with fail
    go_ret
    exact ⟨by rw [HC.out]; rfl, _, A0.out⟩
end Go.Proofs.YtdnalhjdmlkbmaaDoor
namespace Go.Proofs.YtdnalhjdmlkbmaaDoor
open Go.RowKit
set_option linter.unusedVariables false
theorem mayGo_of : ∀ (l : List (Int × List Int)) (last : Int), (∀ (k : Nat) (p : Int × List Int), l[k]? = some p → p.1 < 16 ∧ p.2.length ≤ 16384 ∧ (k = 0 → last < p.1) ∧ ∀ q, 0 < k → l[k - 1]? = some q → q.1 < p.1) → mayGo last l = true
  | [], _, _ => rfl
  | a :: l, last, h => by
    have h0 := h 0 a rfl
    have ih := mayGo_of l a.1 (fun k p hp => by
      have h1 := h (k + 1) p hp
      refine ⟨h1.1, h1.2.1, fun hk => ?_, fun q hk hq => ?_⟩
      · subst hk; exact h1.2.2.2 a (by omega) rfl
      · refine h1.2.2.2 q (by omega) ?_
        obtain ⟨j, rfl⟩ : ∃ j, k = j + 1 := ⟨k - 1, by omega⟩
        simpa using hq)
    simp only [mayGo, ih, Bool.and_true, decide_eq_true_eq]
    exact ⟨h0.2.2.1 rfl, h0.1, h0.2.1⟩
theorem check_good {n : Nat} {effs : List (Int × Int × Int)} {banks : List (Int × List Int)} (h : checkF n effs banks = 0) : n % 2 = 0 ∧ n ≤ 16384 ∧ mayBanks banks = true ∧ ∀ p ∈ banks, p.2.length ≤ 16384 := by
  unfold checkF at h
  split at h
  · exact absurd h (by decide)
  · rename_i h1
    split at h
    · exact absurd h (by decide)
    · split at h
      · exact absurd h (by decide)
      · rename_i h3
        simp [headBad] at h1
        have hb : ∀ k, k < banks.length → bankBad banks k = false := fun k hk => by
          have := (List.any_eq_false.1 (by simpa using h3)) k (List.mem_range.2 hk)
          simpa using this
        have hg : ∀ (k : Nat) (p : Int × List Int), banks[k]? = some p → (0 ≤ p.1 ∧ p.1 ≤ 15) ∧ p.2.length ≤ 16384 ∧ (0 < k → (banks.getD (k - 1) (0, [])).1 < p.1) := fun k p hp => by
          have hk := (List.getElem?_eq_some_iff.1 hp).1
          have := hb k hk
          unfold bankBad at this
          rw [hp] at this
          simp [withinB] at this
          refine ⟨this.1, by omega, fun h0 => ?_⟩
          have := this.2.2 h0
          simpa [List.getD_eq_getElem?_getD] using this
        refine ⟨by omega, h1.2.1, mayGo_of _ _ fun k p hp => ?_, fun p hp => ?_⟩
        · have := hg k p hp
          refine ⟨by omega, this.2.1, fun _ => by omega, fun q hk hq => ?_⟩
          have h2 := this.2.2 hk
          rw [List.getD_eq_getElem?_getD, hq] at h2
          exact h2
        · obtain ⟨k, hk⟩ := List.getElem?_of_mem hp
          exact (hg k p hk).2.1
/-- A budget, brought within 4 to 3003. -/
def budgetF (n : Int) : Int := 4 + Int.tmod (Int.tmod n 3000 + 3000) 3000
theorem budget_rng (n : Int) : 4 ≤ budgetF n ∧ budgetF n ≤ 3003 := by
  have h1 : -3000 < Int.tmod n 3000 := by
    rcases Int.le_total 0 n with h | h
    · have := Int.tmod_nonneg 3000 h; omega
    · have h2 : Int.tmod n 3000 = -(Int.tmod (-n) 3000) := by rw [Int.neg_tmod, Int.neg_neg]
      have h3 := Int.tmod_lt_of_pos (-n) (show (0 : Int) < 3000 by decide)
      omega
  have h2 := Int.tmod_lt_of_pos n (show (0 : Int) < 3000 by decide)
  have h3 : 0 ≤ Int.tmod n 3000 + 3000 := by omega
  unfold budgetF
  rw [Int.tmod_eq_emod_of_nonneg h3]
  omega
theorem tmod_lo (n : Int) : -3000 < Int.tmod n 3000 := by
  rcases Int.le_total 0 n with h | h
  · have := Int.tmod_nonneg 3000 h; omega
  · have h2 : Int.tmod n 3000 = -(Int.tmod (-n) 3000) := by rw [Int.neg_tmod, Int.neg_neg]
    have h3 := Int.tmod_lt_of_pos (-n) (show (0 : Int) < 3000 by decide)
    omega
theorem budget_eq (n : Int) : budgetF n = 4 + Int.tmod n 3000 % 3000 := by
  have h1 := tmod_lo n
  unfold budgetF
  rw [Int.tmod_eq_emod_of_nonneg (by omega)]
  omega
theorem budget_any (n : Int) (w : World) : Calls Tryd.prog 35 #[.int .i64 n] w fun e w' => e = .returned (.int .i64 (budgetF n)) ∧ w' = w := by
  have hr := budget_rng n
  have h1 : -3000 < Int.tmod n 3000 ∧ Int.tmod n 3000 < 3000 := by
    refine ⟨?_, Int.tmod_lt_of_pos n (by decide)⟩
    rcases Int.le_total 0 n with h | h
    · have := Int.tmod_nonneg 3000 h; omega
    · have h2 : Int.tmod n 3000 = -(Int.tmod (-n) 3000) := by rw [Int.neg_tmod, Int.neg_neg]
      have h3 := Int.tmod_lt_of_pos (-n) (show (0 : Int) < 3000 by decide)
      omega
  obtain ⟨t, ht⟩ : ∃ t, t = Int.tmod n 3000 := ⟨_, rfl⟩
  have w0 : IntKind.i64.wrap (Int.tmod n 3000) = Int.tmod n 3000 := IntWalk.i64_in _ (by omega)
  have w1 : IntKind.i64.wrap (Int.tmod n 3000 + 3000) = Int.tmod n 3000 + 3000 := IntWalk.i64_in _ (by omega)
  have w3 : IntKind.i64.wrap (4 + Int.tmod (Int.tmod n 3000 + 3000) 3000) = budgetF n := IntWalk.i64_in _ (by unfold budgetF at hr; omega)
  have w2 : IntKind.i64.wrap (Int.tmod (Int.tmod n 3000 + 3000) 3000) = Int.tmod (Int.tmod n 3000 + 3000) 3000 := IntWalk.i64_in _ (by unfold budgetF at hr; omega)
  go_enter Tryd.func35, Tryd.ntmps35
  go_wp2
  go_ret
  exact ⟨by rw [budget_eq]; rfl, rfl⟩
end Go.Proofs.YtdnalhjdmlkbmaaDoor
namespace Go.Proofs.YtdnalhjdmlkbmaaDoor
set_option linter.unusedVariables false
def codeA : List Int := threadB [6, 7, 6, 0, 48, 16]
def endA : VmS × Int × Int := frameF codeA 0 100 (startS 128 [])
set_option maxRecDepth 1000000 in
theorem endA_is : (endA.1.st, endA.2.1, endA.2.2, endA.1.d) = (2, 4, 10, [0]) := by kernel_rfl
end Go.Proofs.YtdnalhjdmlkbmaaDoor
namespace Go.Proofs.YtdnalhjdmlkbmaaDoor
open Go.RowKit
set_option linter.unusedVariables false
theorem memory_nil (w : World) : Calls Tryd.prog 41 #[.pointer none] w fun e w' => e = .returned (.pointer none) ∧ w = w' := by
  go_enter Tryd.func41, Tryd.ntmps41
  go_wp2
  go_ret
  exact ⟨rfl, rfl⟩
theorem copy_nil (w : World) : Calls Tryd.prog 42 #[.pointer none] w fun e w' => e = .returned (.pointer none) ∧ w = w' := by
  go_enter Tryd.func42, Tryd.ntmps42
  go_wp2
  go_ret
  exact ⟨rfl, rfl⟩
/-- The state of none. -/
def noStateV : Value := .agg #[.int .u16 0, .int .i64 0, .int .i64 0, .slice none 0 0, .slice none 0 0]
set_option maxRecDepth 100000 in
set_option maxHeartbeats 1000000 in
theorem same_nil (w : World) (G : Nat → Nat) : Calls Tryd.prog 40 #[noStateV, noStateV] w (Looked w G (.bool true)) := by
  have A0 := Lib.hid (((Adv.refl (fun _ => False) w G).alloc (.cells #[.int .u16 0, .int .i64 0, .int .i64 0, .slice none 0 0, .slice none 0 0] 86) 0).alloc (.cells #[.int .u16 0, .int .i64 0, .int .i64 0, .slice none 0 0, .slice none 0 0] 93) 0)
  unfold noStateV
  go_enter Tryd.func40, Tryd.ntmps40
  go_wp2_with fail
  go_loop [47] (fun v => v = .int .i64 0) (fun _ => 0)
  case atStart => rfl
  case round =>
    obtain rfl := hrel
    go_wp2_with fail
    go_loop [65] (fun v => v = .int .i64 0) (fun _ => 0)
    case atStart => rfl
    case round =>
      obtain rfl := hrel
      go_wp2_with fail
      go_ret
      exact ⟨rfl, _, A0.out⟩
set_option maxRecDepth 100000 in
set_option maxHeartbeats 1000000 in
theorem check_plain (G : Nat → Nat) (ca : Option Addr) (n cc : Nat) (entry : Int) (hn : n ≤ 16384) (h2 : n % 2 = 0) (w : World) :
    Calls Tryd.prog 67 #[cartV ca n cc entry none 0 0 none 0 0] w (Looked w G (.int .i64 0)) := by
  have A0 := Lib.hid ((Adv.refl (fun _ => False) w G).alloc (.cells #[.slice ca n cc, .int .u16 entry, .slice none 0 0, .slice none 0 0] 74) 0)
  have t0 : Int.tmod (n : Int) 2 = 0 := by rw [Int.tmod_eq_emod_of_nonneg (by omega)]; omega
  have t1 : decide (16384 < (n : Int)) = false := by simp; omega
  unfold cartV
  go_enter Tryd.func67, Tryd.ntmps67
  go_wp2_with fail
  go_loop [27] (fun v => v = .int .i64 0) (fun _ => 0)
  case atStart => rfl
  case round =>
    obtain rfl := hrel
    go_wp2_with fail
    go_loop [62] (fun v => v = .int .i64 0) (fun _ => 0)
    case atStart => rfl
    case round =>
      obtain rfl := hrel
      go_wp2_with fail
      go_ret
      exact ⟨rfl, _, A0.out⟩
end Go.Proofs.YtdnalhjdmlkbmaaDoor
namespace Go.Proofs.YtdnalhjdmlkbmaaDoor
open Go.RowKit
set_option linter.unusedVariables false
theorem own4123 : Own4 4 1 2 3 := ⟨own123, by decide, by unfold S3; decide⟩
theorem far4123 : Far 4 1 2 3 := by unfold Far S4 S3; decide
theorem codeA_b8 : B8 codeA := by
  have h : (codeA.all fun x => decide (0 ≤ x) && decide (x < 256)) = true := by kernel_rfl
  intro x hx
  have := List.all_eq_true.1 h x hx
  simpa using this
/-- What is allowed of a machine's own and a call's own. -/
def S5k (p i j q : Nat) : Nat → Prop := fun o => S4 p i j q o ∨ o = 1000
set_option maxRecDepth 100000 in
set_option maxHeartbeats 2000000 in
theorem awake_any (G : Nat → Nat) (w : World) (ht : Tabs w (fun _ => 0)) : Calls Tryd.prog 34 #[] w (Looked w G (.bool true)) := by
  have A0 := Lib.hid ((Adv.refl (S5k 4 1 2 3) w (fun _ => 0)).alloc (.cells #[.int .u16 6, .int .u16 7, .int .u16 6, .int .u16 0, .int .u16 48, .int .u16 16] 41) 0)
  have R0 := Lib.hid (Reads.new w [.int .u16 6, .int .u16 7, .int .u16 6, .int .u16 0, .int .u16 48, .int .u16 16] 41)
  have HT := Lib.hid ht
  have n0 : ¬ S5k 4 1 2 3 0 := by unfold S5k S4 S3; decide
  clear ht
  go_enter Tryd.func34, Tryd.ntmps34
  go_wp2_with fail
  refine (threads_any (own1 w (fun _ => 0) 0) (some ⟨w.heap.size, 0, none⟩) 6 [6, 7, 6, 0, 48, 16] (by intro x hx; simp at hx; omega) (by decide) _ R0.out).mono ?_
  rintro e w1 ⟨ca, cc, G1, rfl, a1, r1, g1, l1, _⟩
  have A1 := Lib.hid (A0.out.trans (a1.mono (T := S5k 4 1 2 3) fun _ h => h.elim))
  have R1 := Lib.hid r1
  clear a1 r1
  go_wp2_with fail
  refine (vmNew_ok 4 1 2 3 own4123 G1 (some ca) 142 cc 128 (by decide) (by decide) none 0 0 none 0 0 codeA [] w1 (by kernel_rfl) (by decide) codeA_b8 R1.out rfl (by decide) rfl (by intro x hx; cases hx) (by intro x hx; cases hx) (by intro w' G' _ k p hp; simp at hp) (fun w' G' _ => check_plain G' _ _ _ _ (by decide) (by decide) w') (HT.out.adv A1.out n0)).mono ?_
  rintro e w2 ⟨P, D, R, M, G2, rfl, a2, v2⟩
  have A2 := Lib.hid (A1.out.trans (a2.mono (T := S5k 4 1 2 3) fun _ h => h.elim))
  have V2 := Lib.hid v2
  clear a2 v2
  go_wp2_with fail
  refine (show Calls Tryd.prog 36 #[.pointer (some ⟨P, 0, none⟩), .int .u8 0, .int .i64 100] w2 (FrameIs 4 1 2 3 P D R M codeA w2 G2 endA.1 endA.2.1 endA.2.2 100) from frame_any own4123 far4123 0 100 (by decide) (by decide) (by decide) (by decide) V2.out).mono ?_
  rintro e w3 ⟨b, ta, tc, G3, rfl, a3, v3, -, -⟩
  have e1 : endA.1.st = 2 := congrArg (·.1) endA_is
  have e2 : endA.2.1 = 4 := congrArg (·.2.1) endA_is
  have e3 : endA.2.2 = 10 := congrArg (·.2.2.1) endA_is
  have e4 : endA.1.d = [0] := congrArg (·.2.2.2) endA_is
  rw [e1, e2, e3]
  have AR := Lib.hid a3
  have V3 := Lib.hid v3
  have E4 := Lib.hid e4
  clear a3 v3 e1 e2 e3 e4
  have ⟨z, hz⟩ : ∃ z, endA.1 = z := ⟨_, rfl⟩
  rw [hz] at V3 E4 ⊢
  clear hz
  have A3 := Lib.hid (A2.out.trans (AR.out.mono (T := S5k 4 1 2 3) fun _ h => .inl h))
  have M4 := Lib.hid (Mine.made w3 G3 w A3.out.size #[.int .i64 2, .int .i64 z.ft, .int .i64 4, .int .i64 10, .int .i64 90, .slice (some ⟨b, 0, none⟩) z.m.screen.length z.m.screen.length, .slice ta z.m.tones.length tc] 81)
  have AL4 := Lib.hid ((Adv.refl (fun o => o = 1000) w3 G3).alloc (.cells #[.int .i64 2, .int .i64 z.ft, .int .i64 4, .int .i64 10, .int .i64 90, .slice (some ⟨b, 0, none⟩) z.m.screen.length z.m.screen.length, .slice ta z.m.tones.length tc] 81) 1000)
  go_wp2_with fail
  obtain ⟨w4, hw4⟩ : ∃ v, v = w3.alloc (.cells #[.int .i64 2, .int .i64 z.ft, .int .i64 4, .int .i64 10, .int .i64 90, .slice (some ⟨b, 0, none⟩) z.m.screen.length z.m.screen.length, .slice ta z.m.tones.length tc] 81) := ⟨_, rfl⟩
  rw [← hw4] at M4 AL4 ⊢
  obtain ⟨G4, hG4⟩ : ∃ g, g = own1 w3 G3 1000 := ⟨_, rfl⟩
  rw [← hG4] at M4 AL4
  obtain ⟨bo, hbo⟩ : ∃ g, g = w3.heap.size := ⟨_, rfl⟩
  rw [← hbo] at M4 ⊢
  have V4 := Lib.hid (V3.out.mine own4123 far4123 AL4.out)
  have A4 := Lib.hid (A3.out.trans (AL4.out.mono (T := S5k 4 1 2 3) fun _ h => .inr h))
  clear hw4 hG4 hbo
  refine (state_any V4.out).mono ?_
  rintro e w5 ⟨sb, sc, rb, rc, G5, rfl, a5, r5, -, -, -⟩
  have E5 := Lib.hid (show Reads w5 sb (cellsU [0]) from E4.out ▸ r5)
  have M5 := Lib.hid (M4.out.adv a5 id)
  have A5 := Lib.hid (A4.out.trans (a5.mono (T := S5k 4 1 2 3) fun _ h => h.elim))
  have N0 := Lib.hid (Mine.made w5 G5 w A5.out.size #[.int .u16 z.pc, .int .i64 z.st, .int .i64 z.ft, .slice sb 1 sc, .slice rb z.r.length rc] 86)
  have AN := Lib.hid ((Adv.refl (fun _ => False) w5 G5).alloc (.cells #[.int .u16 z.pc, .int .i64 z.st, .int .i64 z.ft, .slice sb 1 sc, .slice rb z.r.length rc] 86) 1000)
  have hsl : z.d.length = 1 := by rw [E4.out]; rfl
  clear a5 r5
  unfold stateV
  rw [hsl]
  clear hsl
  obtain ⟨w6, hw6⟩ : ∃ v, v = w5.alloc (.cells #[.int .u16 z.pc, .int .i64 z.st, .int .i64 z.ft, .slice sb 1 sc, .slice rb z.r.length rc] 86) := ⟨_, rfl⟩
  obtain ⟨ab, ao, e, hcell, hab⟩ := (E5.out.adv AN.out (fun _ _ => id)).atU 0 0 rfl
  subst e
  have M6 := Lib.hid (M5.out.adv AN.out id)
  go_upto_region 6 with fail
  rw [← hw6] at N0 AN hcell M6 ⊢
  have A6 := Lib.hid (A5.out.trans (AN.out.mono (T := S5k 4 1 2 3) fun _ h => h.elim))
  have y0 := M6.out.cell 0 (.int .i64 2) rfl
  have y2 := M6.out.cell 2 (.int .i64 4) rfl
  have y3 := M6.out.cell 3 (.int .i64 10) rfl
  have y4 := M6.out.cell 4 (.int .i64 90) rfl
  have z3 := N0.out.cell 3 (.slice (some ⟨ab, ao, none⟩) 1 sc) rfl
  obtain ⟨so, hso⟩ : ∃ v, v = w5.heap.size := ⟨_, rfl⟩
  rw [← hso] at z3 ⊢
  rw [Nat.add_zero] at hcell
  clear hw6 hso
  go_wp2_with fail
  go_ret
  exact ⟨rfl, _, joined_adv A6.out n0⟩
end Go.Proofs.YtdnalhjdmlkbmaaDoor
namespace Go.Proofs.YtdnalhjdmlkbmaaDoor
open Go.RowKit
set_option linter.unusedVariables false
theorem mayGo_len : ∀ (l : List (Int × List Int)) (last : Int), last ≤ 15 → mayGo last l = true → (l.length : Int) + last ≤ 15
  | [], last, h0, _ => by simpa using h0
  | a :: l, last, h0, h => by
    simp only [mayGo, Bool.and_eq_true, decide_eq_true_eq] at h
    have := mayGo_len l a.1 (by omega) h.2
    simp only [List.length_cons]
    omega
theorem primW_agg (k : Nat) : ∃ x0 x1 x2 x3 x4 x5, primW k = .agg #[.int .i64 x0, .string x1, .int .i64 x2, .int .i64 x3, .int .i64 x4, .bool x5] := by
  unfold primW
  split
  · exact ⟨_, _, _, _, _, _, rfl⟩
  · exact ⟨_, _, _, _, _, _, rfl⟩
section
variable {w0 w : World} {G : Nat → Nat} {b : Nat} {T : TypeId}
theorem Mine.put7 {u0 u1 u2 u3 u4 u5 u6 : Value} (h : Mine w0 w G b #[u0, u1, u2, u3, u4, u5, u6] T) (v0 v1 v2 v3 v4 v5 v6 : Value) : Mine w0 (((((((w.setCell ⟨b, 0, none⟩ v0).setCell ⟨b, 1, none⟩ v1).setCell ⟨b, 2, none⟩ v2).setCell ⟨b, 3, none⟩ v3).setCell ⟨b, 4, none⟩ v4).setCell ⟨b, 5, none⟩ v5).setCell ⟨b, 6, none⟩ v6) G b #[v0, v1, v2, v3, v4, v5, v6] T := by
  have x0 := (h.set 0 v0).2.sett (C' := #[v0, u1, u2, u3, u4, u5, u6]) rfl
  have x1 := (x0.set 1 v1).2.sett (C' := #[v0, v1, u2, u3, u4, u5, u6]) rfl
  have x2 := (x1.set 2 v2).2.sett (C' := #[v0, v1, v2, u3, u4, u5, u6]) rfl
  have x3 := (x2.set 3 v3).2.sett (C' := #[v0, v1, v2, v3, u4, u5, u6]) rfl
  have x4 := (x3.set 4 v4).2.sett (C' := #[v0, v1, v2, v3, v4, u5, u6]) rfl
  have x5 := (x4.set 5 v5).2.sett (C' := #[v0, v1, v2, v3, v4, v5, u6]) rfl
  have x6 := (x5.set 6 v6).2.sett (C' := #[v0, v1, v2, v3, v4, v5, v6]) rfl
  exact x6
end
theorem conv_reads {w : World} {a : Option Addr} {l : List Int} {n c : Nat} (h : Reads w a (u8s l)) (hl : l.length = n) (h0 : 0 < n) : (convert 70 9 (.slice a n c)).run Tryd.prog w = .ok (.string (strOfNums l)) w := by
  rcases h with hz | ⟨b, o, e, hh⟩
  · have := congrArg List.length hz
    rw [u8s_length, List.length_nil, hl] at this
    omega
  · subst e
    exact run_convert_bytes_arg w 70 5 Tryd.underlying70 Tryd.underlying5 b o n c l hl (fun i hi => hh i _ (by simp [u8s, List.getD_eq_getElem?_getD, List.getElem?_eq_getElem (show i < l.length by omega)])) 9 Tryd.underlying9
theorem readsMap {w : World} {a : Option Addr} {l : List Int} {f : Int → Value} (h : Reads w a (l.map f)) (k : Nat) (x : Int) (hk : l[k]? = some x) : ∃ b o, a = some ⟨b, o, none⟩ ∧ w.cell? ⟨b, o + k, none⟩ = some (f x) := by
  rcases h with hz | ⟨b, o, e, hh⟩
  · have := List.map_eq_nil_iff.1 hz
    subst this; cases hk
  · exact ⟨b, o, e, hh k (f x) (by simp [hk])⟩
theorem readsAt {w : World} {b o : Nat} {l : List Int} {f : Int → Value} (h : Reads w (some ⟨b, o, none⟩) (l.map f)) (k : Nat) (x : Int) (hk : l[k]? = some x) : w.cell? ⟨b, o + k, none⟩ = some (f x) := by
  obtain ⟨b', o', e, hc⟩ := readsMap h k x hk
  cases e
  exact hc
end Go.Proofs.YtdnalhjdmlkbmaaDoor
namespace Go.Proofs.YtdnalhjdmlkbmaaDoor
open Go.RowKit
set_option linter.unusedVariables false
set_option maxRecDepth 100000 in
set_option maxHeartbeats 4000000 in
theorem sameSt_any (G : Nat → Nat) (s : VmS) (a : Option Addr) (c : Nat) (b : Option Addr) (e : Nat) (a' : Option Addr) (c' : Nat) (b' : Option Addr) (e' : Nat) (hd : s.d.length ≤ 256) (hr : s.r.length ≤ 128) (w : World)
    (r1 : Reads w a (cellsU s.d)) (r2 : Reads w b (cellsR s.r)) (r3 : Reads w a' (cellsU s.d)) (r4 : Reads w b' (cellsR s.r)) :
    Calls Tryd.prog 45 #[stateV s a c b e, stateV s a' c' b' e'] w fun en w' => en = .returned (.bool true) ∧ ∃ G', Adv (fun _ => False) w G w' G' := by
  have A0 := Lib.hid (((Adv.refl (fun _ => False) w G).alloc (.cells #[.int .u16 s.pc, .int .i64 s.st, .int .i64 s.ft, .slice a s.d.length c, .slice b s.r.length e] 86) 0).alloc (.cells #[.int .u16 s.pc, .int .i64 s.st, .int .i64 s.ft, .slice a' s.d.length c', .slice b' s.r.length e'] 86) 0)
  have R1 := Lib.hid r1
  have R2 := Lib.hid r2
  have R3 := Lib.hid r3
  have R4 := Lib.hid r4
  clear r1 r2 r3 r4
  unfold stateV
  go_enter Tryd.func45, Tryd.ntmps45
  go_wp2_with fail
  have M1 := (((Adv.refl (fun _ => False) (w.alloc (.cells #[.int .u16 s.pc, .int .i64 s.st, .int .i64 s.ft, .slice a s.d.length c, .slice b s.r.length e] 86)) G).alloc (.cells #[.int .u16 s.pc, .int .i64 s.st, .int .i64 s.ft, .slice a' s.d.length c', .slice b' s.r.length e'] 86) 0).keep w.heap.size (by simp) id).trans (heap_alloc_new w (.cells #[.int .u16 s.pc, .int .i64 s.st, .int .i64 s.ft, .slice a s.d.length c, .slice b s.r.length e] 86))
  have M2 : ((w.alloc (.cells #[.int .u16 s.pc, .int .i64 s.st, .int .i64 s.ft, .slice a s.d.length c, .slice b s.r.length e] 86)).alloc (.cells #[.int .u16 s.pc, .int .i64 s.st, .int .i64 s.ft, .slice a' s.d.length c', .slice b' s.r.length e'] 86)).heap[w.heap.size + 1]? = some (.cells #[.int .u16 s.pc, .int .i64 s.st, .int .i64 s.ft, .slice a' s.d.length c', .slice b' s.r.length e'] 86 (0, 0)) := heap_at _ _ _ (by simp)
  obtain ⟨W1, hW1⟩ : ∃ v, v = (w.alloc (.cells #[.int .u16 s.pc, .int .i64 s.st, .int .i64 s.ft, .slice a s.d.length c, .slice b s.r.length e] 86)).alloc (.cells #[.int .u16 s.pc, .int .i64 s.st, .int .i64 s.ft, .slice a' s.d.length c', .slice b' s.r.length e'] 86) := ⟨_, rfl⟩
  rw [← hW1] at A0 M1 M2 ⊢
  have hlt : w.heap.size + 1 < W1.heap.size := (Array.getElem?_eq_some_iff.1 M2).1
  clear hW1
  have R1 := Lib.hid (R1.out.adv A0.out (fun _ _ => id))
  have R2 := Lib.hid (R2.out.adv A0.out (fun _ _ => id))
  have R3 := Lib.hid (R3.out.adv A0.out (fun _ _ => id))
  have R4 := Lib.hid (R4.out.adv A0.out (fun _ _ => id))
  have y3 := block_cell M1 3 (.slice a s.d.length c) rfl
  have y4 := block_cell M1 4 (.slice b s.r.length e) rfl
  have z3 := block_cell M2 3 (.slice a' s.d.length c') rfl
  have z4 := block_cell M2 4 (.slice b' s.r.length e') rfl
  clear M1 M2
  obtain ⟨n, hn⟩ : ∃ n, n = s.d.length := ⟨_, rfl⟩
  obtain ⟨m, hm⟩ : ∃ m, m = s.r.length := ⟨_, rfl⟩
  rw [← hn] at hd y3 z3 ⊢
  rw [← hm] at hr y4 z4 ⊢
  have HN := Lib.hid hn
  have HM := Lib.hid hm
  clear hn hm
  go_loopw [47] (fun vi wr => ∃ k : Nat, k ≤ n ∧ vi = .int .i64 k ∧ ∃ q, wr = W1.drewN q) (fun vi _ => n - (intOf vi).toNat)
  case atStart => exact ⟨0, by omega, rfl, 0, rfl⟩
  case round =>
    obtain ⟨k, hk0, rfl, q, rfl⟩ := hrel
    by_cases h : k < n
    · have hb : decide ((k : Int) < (n : Int)) = true := by simp; omega
      have hkl := HN.out
      obtain ⟨x, hx⟩ : ∃ x, s.d[k]? = some x := ⟨s.d[k], List.getElem?_eq_getElem (by omega)⟩
      obtain ⟨b1, o1, f1, c1, -⟩ := R1.out.atU k x hx
      obtain ⟨b2, o2, f2, c2, -⟩ := R3.out.atU k x hx
      subst f1
      subst f2
      have hwi : IntKind.i64.wrap ((k : Int) + 1) = (k : Int) + 1 := IntWalk.i64_in _ (by omega)
      clear hkl hx
      go_wp2_with fail
      go_quiet (fail)
      go_wp2_with fail
      exact ⟨⟨k + 1, by omega, by simp, _, rfl⟩, by simp only [intOf]; omega⟩
    · have hb : decide ((k : Int) < (n : Int)) = false := by simp; omega
      go_wp2_with fail
      go_loopw [65] (fun vi wr => ∃ k : Nat, k ≤ m ∧ vi = .int .i64 k ∧ ∃ q, wr = W1.drewN q) (fun vi _ => m - (intOf vi).toNat)
      case atStart => exact ⟨0, by omega, rfl, q, rfl⟩
      case round =>
        obtain ⟨k, hk0, rfl, q, rfl⟩ := hrel
        by_cases h : k < m
        · have hb : decide ((k : Int) < (m : Int)) = true := by simp; omega
          have hkl := HM.out
          obtain ⟨x, hx⟩ : ∃ x, s.r[k]? = some x := ⟨s.r[k], List.getElem?_eq_getElem (by omega)⟩
          obtain ⟨b1, o1, f1, c1, d1, -⟩ := R2.out.atR k x hx
          obtain ⟨b2, o2, f2, c2, d2, -⟩ := R4.out.atR k x hx
          subst f1
          subst f2
          have hwi : IntKind.i64.wrap ((k : Int) + 1) = (k : Int) + 1 := IntWalk.i64_in _ (by omega)
          clear hkl hx
          go_wp2_with fail
          go_quiet (fail)
          go_wp2_with fail
          exact ⟨⟨k + 1, by omega, by simp, _, rfl⟩, by simp only [intOf]; omega⟩
        · have hb : decide ((k : Int) < (m : Int)) = false := by simp; omega
          go_wp2_with fail
          go_ret
          exact ⟨rfl, _, A0.out.drewN _⟩
end Go.Proofs.YtdnalhjdmlkbmaaDoor
namespace Go.Proofs.YtdnalhjdmlkbmaaDoor
open Go.RowKit
set_option linter.unusedVariables false
/-- Alike but for what the cycle was. -/
def Alike (s s' : VmS) : Prop := VmEq { s with m := atF s.m 0 } { s' with m := atF s'.m 0 }
theorem VmEq.alike {s s' : VmS} (h : VmEq s s') : Alike s s' := h.setM (at_eq h.m 0)
theorem Alike.begin {s s' : VmS} (h : Alike s s') (x : Int) : VmEq { s with m := beginF s.m x } { s' with m := beginF s'.m x } := VmEq.setM h (begin_eq h.m x)
theorem Alike.same {s s' : VmS} (h : Alike s s') : s.pc = s'.pc ∧ s.st = s'.st ∧ s.ft = s'.ft ∧ s.d = s'.d ∧ s.r = s'.r ∧ s.m.screen = s'.m.screen ∧ s.m.tones = s'.m.tones := by
  have k : VmEq { s with m := atF s.m 0 } { s' with m := atF s'.m 0 } := h
  exact k.same
/-- A step that faults leaves all but the status. -/
theorem stepS_at (code : List Int) (s : VmS) (c : Int) (h : stepE code { s with m := atF s.m c } ≠ 0) : stepE code s ≠ 0 ∧ stepS code { s with m := atF s.m c } = { s with st := 3, ft := stepE code s, m := atF s.m c } ∧ stepS code s = { s with st := 3, ft := stepE code s } := by
  have e : stepE code { s with m := atF s.m c } = stepE code s := rfl
  rw [e] at h
  refine ⟨h, ?_, ?_⟩
  · unfold stepS
    rw [if_pos (show stepE code { s with m := atF s.m c } ≠ 0 from h)]
    rfl
  · unfold stepS
    rw [if_pos h]
theorem fault_alike (code : List Int) {t t' : VmS} (h : VmEq t t') (c : Int) (he : stepE code { t with m := atF t.m c } ≠ 0) : Alike (stepS code { t with m := atF t.m c }) (stepS code t') ∧ stepE code t' ≠ 0 := by
  obtain ⟨h1, h2, -⟩ := stepS_at code t c he
  have e : stepE code t = stepE code t' := h.stepE code
  have h3 : stepE code t' ≠ 0 := e ▸ h1
  refine ⟨?_, h3⟩
  rw [h2]
  have h4 : stepS code t' = { t' with st := 3, ft := stepE code t' } := by
    unfold stepS
    rw [if_pos h3]
  rw [h4, e]
  refine ⟨at_eq h.m 0, ?_⟩
  rw [← h.rest]
theorem twin_ok (code : List Int) : ∀ (k : Nat) (s : VmS) (c : Int), VmOk code s → VmOk code (twinF code k s c).1 ∧ (twinF code k s c).1.m.tones.length ≤ s.m.tones.length + 3 * k
  | 0, s, c, h => ⟨h, by simp [twinF]⟩
  | k + 1, s, c, h => by
    have ha : VmOk code { s with m := atF s.m c } := ⟨⟨h.gd.d16, h.gd.r16, h.gd.dl, h.gd.rl, atF_ok h.gd.mo c, atF_rng h.gd.mr c⟩, h.pc0, h.pc1, h.cb, h.cl⟩
    have h1 := step_ok code _ ha
    have h2 := twin_ok code k _ (c + costOf code s) h1.1
    refine ⟨h2.1, ?_⟩
    have h3 : (stepS code { s with m := atF s.m c }).m.tones.length ≤ s.m.tones.length + 3 := h1.2
    have h4 := h2.2
    show (twinF code k (stepS code { s with m := atF s.m c }) (c + costOf code s)).1.m.tones.length ≤ _
    omega
/-- What the law may change: two machines' own and the law's own. -/
def S9k : Nat → Prop := fun o => S4 4 1 2 3 o ∨ S4 8 5 6 7 o ∨ o = 1000
theorem s9_zero : ¬ S9k 0 := by unfold S9k S4 S3; decide
theorem own8567 : Own4 8 5 6 7 := ⟨⟨by decide, by decide, by decide, by decide, by decide, by decide⟩, by decide, by unfold S3; decide⟩
theorem far8567 : Far 8 5 6 7 := by unfold Far S4 S3; decide
theorem apart48 : ∀ o, S4 4 1 2 3 o → ¬ S4 8 5 6 7 o := by unfold S4 S3; omega
theorem apart84 : ∀ o, S4 8 5 6 7 o → ¬ S4 4 1 2 3 o := by unfold S4 S3; omega
theorem four_zero : ¬ S4 4 1 2 3 0 := by unfold S4 S3; decide
theorem eight_zero : ¬ S4 8 5 6 7 0 := by unfold S4 S3; decide
/-- Two machines over one code. -/
structure Duo (w0 w : World) (G : Nat → Nat) (P D R M P' D' R' M' : Nat) (code : List Int) (s s' : VmS) : Prop where
  ad : Adv S9k w0 (fun _ => 0) w G
  a : VM w G 4 1 2 3 P D R M code s
  b : VM w G 8 5 6 7 P' D' R' M' code s'
section
variable {w0 w w' : World} {G G' : Nat → Nat} {P D R M P' D' R' M' : Nat} {code : List Int} {s s' t : VmS}
theorem Duo.still (h : Duo w0 w G P D R M P' D' R' M' code s s') (ha : Adv (fun _ => False) w G w' G') : Duo w0 w' G' P D R M P' D' R' M' code s s' := ⟨h.ad.trans (ha.mono fun _ h => h.elim), h.a.still ha, h.b.still ha⟩
theorem Duo.drew (h : Duo w0 w G P D R M P' D' R' M' code s s') : Duo w0 w.drew G P D R M P' D' R' M' code s s' := h.still (Adv.refl _ w G).drew
theorem Duo.mine (h : Duo w0 w G P D R M P' D' R' M' code s s') (ha : Adv (fun o => o = 1000) w G w' G') : Duo w0 w' G' P D R M P' D' R' M' code s s' := ⟨h.ad.trans (ha.mono fun _ h => .inr (.inr h)), h.a.mine own4123 far4123 ha, h.b.mine own8567 far8567 ha⟩
theorem Duo.first (h : Duo w0 w G P D R M P' D' R' M' code s s') (ha : Adv (S4 4 1 2 3) w G w' G') (hv : VM w' G' 4 1 2 3 P D R M code t) : Duo w0 w' G' P D R M P' D' R' M' code t s' := ⟨h.ad.trans (ha.mono fun _ h => .inl h), hv, h.b.adv ha four_zero apart84⟩
theorem Duo.second (h : Duo w0 w G P D R M P' D' R' M' code s s') (ha : Adv (S4 8 5 6 7) w G w' G') (hv : VM w' G' 8 5 6 7 P' D' R' M' code t) : Duo w0 w' G' P D R M P' D' R' M' code s t := ⟨h.ad.trans (ha.mono fun _ h => .inr (.inl h)), h.a.adv ha eight_zero apart48, hv⟩
/-- What the first machine's frame has answered. -/
structure OutIs (w0 w : World) (G : Nat → Nat) (ob : Nat) (s : VmS) (n c i : Int) (sb : Nat) (ta : Option Addr) (tc : Nat) : Prop where
  o : Mine w0 w G ob #[.int .i64 s.st, .int .i64 s.ft, .int .i64 n, .int .i64 c, .int .i64 i, .slice (some ⟨sb, 0, none⟩) 3072 3072, .slice ta s.m.tones.length tc] 81
  scr : Reads w (some ⟨sb, 0, none⟩) (u8s s.m.screen)
  sg : G sb = 0
  sl : sb < w.heap.size
  tn : Row 68 3 w G 0 (.slice ta s.m.tones.length tc) s.m.tones.length (tonesC s.m.tones)
theorem OutIs.adv {S : Nat → Prop} {ob : Nat} {n c i : Int} {sb : Nat} {ta : Option Addr} {tc : Nat} (h : OutIs w0 w G ob s n c i sb ta tc) (ha : Adv S w G w' G') (h0 : ¬ S 0) (h1 : ¬ S 1000) : OutIs w0 w' G' ob s n c i sb ta tc :=
  ⟨h.o.adv ha h1, h.scr.adv ha (fun ad e => by cases e; rw [h.sg]; exact h0), (ha.own _ h.sl).trans h.sg, Nat.lt_of_lt_of_le h.sl ha.size, h.tn.adv ha h0⟩
theorem OutIs.still {ob : Nat} {n c i : Int} {sb : Nat} {ta : Option Addr} {tc : Nat} (h : OutIs w0 w G ob s n c i sb ta tc) (ha : Adv (fun _ => False) w G w' G') : OutIs w0 w' G' ob s n c i sb ta tc := h.adv ha id id
theorem OutIs.second {ob : Nat} {n c i : Int} {sb : Nat} {ta : Option Addr} {tc : Nat} (h : OutIs w0 w G ob s n c i sb ta tc) (ha : Adv (S4 8 5 6 7) w G w' G') : OutIs w0 w' G' ob s n c i sb ta tc := h.adv ha eight_zero far8567
end
/-- Behind a frame's steps: what the law asks of the twin. -/
theorem ends_twin {code : List Int} {bu : Int} {y : Bool} {t T1 s1 : VmS} {c : Int} (h : Ends code bu y t c s1) (k : VmEq t T1) :
    (¬ (y = false ∧ 0 < bu - c ∧ T1.st = 1) ∧ Alike s1 T1) ∨
    ((y = false ∧ 0 < bu - c ∧ T1.st = 1) ∧ ((lookE code T1 = 0 ∧ ¬ costOf code T1 ≤ bu - c ∧ Alike s1 T1) ∨ (lookE code T1 = 0 ∧ costOf code T1 ≤ bu - c ∧ stepE code T1 ≠ 0 ∧ Alike s1 (stepS code T1)) ∨ (lookE code T1 ≠ 0 ∧ stepE code T1 ≠ 0 ∧ Alike s1 (stepS code T1)))) := by
  have hst : t.st = T1.st := k.same.2.1
  have hl := k.look code
  cases h with
  | yielded h1 => exact .inl ⟨fun h => by rw [h1] at h; exact absurd h.1 (by decide), k.alike⟩
  | full h1 h2 => exact .inl ⟨fun h => by omega, k.alike⟩
  | stopped h1 => exact .inl ⟨fun h => h1 (hst.trans h.2.2), k.alike⟩
  | short h1 h2 h3 h4 =>
    by_cases h5 : 0 < bu - c
    · exact .inr ⟨⟨h2, h5, hst ▸ h1⟩, .inl ⟨hl.1 ▸ h3, by rw [← hl.2.2.2]; omega, k.alike⟩⟩
    · exact .inl ⟨fun h => h5 h.2.1, k.alike⟩
  | faulted h1 h2 h3 h4 h5 =>
    have hf := fault_alike code k c h5
    refine .inr ⟨⟨h2, by omega, hst ▸ h1⟩, ?_⟩
    by_cases h6 : lookE code T1 = 0
    · have := h4 (hl.1.trans h6)
      exact .inr (.inl ⟨h6, by rw [← hl.2.2.2]; omega, hf.2, hf.1⟩)
    · exact .inr (.inr ⟨h6, hf.2, hf.1⟩)
theorem alike_cases {s s' : VmS} (h : Alike s s') : ∃ l c, s' = { s with m := { s.m with banks := l, cycle := c } } := by
  have k : VmEq { s with m := atF s.m 0 } { s' with m := atF s'.m 0 } := h
  obtain ⟨l, h1, -⟩ := k.m.cases
  have h2 := k.rest
  refine ⟨l, s'.m.cycle, ?_⟩
  cases s with
  | mk pc st ft d r m =>
    cases s' with
    | mk pc' st' ft' d' r' m' =>
      cases m
      cases m'
      simp only [atF, VmS.mk.injEq, MemS.mk.injEq] at h1 h2 ⊢
      simp_all
theorem OutIs.held {w0 w : World} {G : Nat → Nat} {ob : Nat} {s : VmS} {n c i : Int} {sb : Nat} {ta : Option Addr} {tc : Nat} (h : OutIs w0 w G ob s n c i sb ta tc) (hs : s.m.screen.length = 3072) :
    w.cell? ⟨ob, 5, none⟩ = some (.slice (some ⟨sb, 0, none⟩) 3072 3072) ∧ w.cell? ⟨ob, 6, none⟩ = some (.slice ta s.m.tones.length tc) ∧ (convert 70 9 (.slice (some ⟨sb, 0, none⟩) 3072 3072)).run Tryd.prog w = .ok (.string (strOfNums s.m.screen)) w :=
  ⟨h.o.cell 5 _ rfl, h.o.cell 6 _ rfl, conv_reads h.scr hs (by decide)⟩
theorem screen_twin {w : World} {G : Nat → Nat} {p i j q P D R M : Nat} {code : List Int} {s : VmS} (h : VM w G p i j q P D R M code s) (l : List Int) (hl : s.m.screen = l) :
    Calls Tryd.prog 46 #[.pointer (some ⟨M, 0, none⟩)] w fun e w' => ∃ b G', e = .returned (.slice (some ⟨b, 0, none⟩) 3072 3072) ∧ Adv (fun _ => False) w G w' G' ∧ (convert 70 9 (.slice (some ⟨b, 0, none⟩) 3072 3072)).run Tryd.prog w' = .ok (.string (strOfNums l)) w' := by
  have hs : s.m.screen.length = 3072 := h.ok.gd.mo.screen
  refine (screen_any G q M s.m h.ok.gd.mo w h.tr.pm).mono ?_
  rintro e w' ⟨b, G', rfl, a, _, _, r, _⟩
  refine ⟨b, G', by rw [hs], a, ?_⟩
  rw [← hl]
  exact conv_reads r hs (by decide)
theorem tones_twin {w : World} {G : Nat → Nat} {p i j q P D R M : Nat} {code : List Int} {s : VmS} (h : VM w G p i j q P D R M code s) (l : List (Int × Int × Int)) (hl : s.m.tones = l) (hn : l.length ≤ 1000000) :
    Calls Tryd.prog 31 #[.pointer (some ⟨M, 0, none⟩)] w fun e w' => ∃ ta c G', e = .returned (.slice ta l.length c) ∧ Adv (fun _ => False) w G w' G' ∧ Row 68 3 w' G' 0 (.slice ta l.length c) l.length (tonesC l) := by
  subst hl
  exact tones_any G q 0 M s.m h.ok.gd.mo hn w h.tr.pm
theorem tonesC_at : ∀ (l : List (Int × Int × Int)) (k : Nat) (t : Int × Int × Int), l[k]? = some t → (tonesC l)[k * 3]? = some (.int .i64 t.1) ∧ (tonesC l)[k * 3 + 1]? = some (.int .u16 t.2.1) ∧ (tonesC l)[k * 3 + 2]? = some (.int .u8 t.2.2)
  | [], k, t, h => by simp at h
  | a :: l, 0, t, h => by
    simp at h
    subst h
    exact ⟨rfl, rfl, rfl⟩
  | a :: l, k + 1, t, h => by
    have ih := tonesC_at l k t (by simpa using h)
    have e : ∀ j, (tonesC (a :: l))[(k + 1) * 3 + j]? = (tonesC l)[k * 3 + j]? := fun j => by
      show ([Value.int .i64 a.1, Value.int .u16 a.2.1, Value.int .u8 a.2.2] ++ tonesC l)[(k + 1) * 3 + j]? = _
      rw [List.getElem?_append_right (by simp; omega)]
      congr 1
      simp; omega
    exact ⟨(e 0).trans ih.1, (e 1).trans ih.2.1, (e 2).trans ih.2.2⟩
theorem tone_cells {w : World} {G : Nat → Nat} {i n c : Nat} {ta : Option Addr} {l : List (Int × Int × Int)} (h : Row 68 3 w G i (.slice ta n c) n (tonesC l)) (k : Nat) (t : Int × Int × Int) (hk : l[k]? = some t) :
    ∃ b o, ta = some ⟨b, o, none⟩ ∧ w.cell? ⟨b, o + k * 3, none⟩ = some (.int .i64 t.1) ∧ w.cell? ⟨b, o + k * 3 + 1, none⟩ = some (.int .u16 t.2.1) ∧ w.cell? ⟨b, o + k * 3 + 2, none⟩ = some (.int .u8 t.2.2) := by
  obtain ⟨h1, h2, h3⟩ := tonesC_at l k t hk
  rcases h.reads with hz | ⟨b, o, e, hc⟩
  · rw [hz] at h1; simp at h1
  · exact ⟨b, o, e, by simpa using hc _ _ h1, by simpa [Nat.add_assoc] using hc _ _ h2, by simpa [Nat.add_assoc] using hc _ _ h3⟩
theorem stoodTone2 : Tryd.prog.stoodInHeld 68 = false := by kernel_rfl
theorem eqlTone2 (a b c a' b' c' : Int) (w : World) : (Op.equalIn 10000 68 (.agg #[.int .i64 a, .int .u16 b, .int .u8 c]) (.agg #[.int .i64 a', .int .u16 b', .int .u8 c'])).run Tryd.prog w = .ok (a == a' && (b == b' && c == c')) w := by
  have ht : Tryd.prog.underlying 68 = some (.struct (Tryd.prog.fieldsOf 68)) := by simp only [Program.fieldsOf, Tryd.underlying68]
  rw [show (10000 : Nat) = 9998 + 1 + 1 from rfl, run_equalIn_struct w (9998 + 1) 68 _ _ ht stoodTone2]
  simp only [Program.fieldsOf, Tryd.underlying68]
  cases e1 : a == a' with
  | false => simp [Op.eqFields, go_sem, e1]
  | true =>
    cases e2 : b == b' with
    | false => simp [Op.eqFields, go_sem, e1, e2]
    | true => by_cases e3 : c = c' <;> simp [Op.eqFields, go_sem, e1, e2, e3]

theorem eqlTone3 (a b c : Int) (w : World) : (Op.equalIn 10000 68 (.agg #[.int .i64 a, .int .u16 b, .int .u8 c]) (.agg #[.int .i64 a, .int .u16 b, .int .u8 c])).run Tryd.prog w = .ok true w := by
  have h := eqlTone2 a b c a b c w
  rw [h]
  simp
theorem field_st (a : Int) (b : Int) (c : Int) (va : Option Addr) (vn vc : Nat) (ra : Option Addr) (rn rc : Nat) (w : World) : (Instr.field 86 (.agg #[.int .u16 a, .int .i64 b, .int .i64 c, .slice va vn vc, .slice ra rn rc]) 1).run Tryd.prog w = .ok (.int .i64 b) w := by kernel_rfl
end Go.Proofs.YtdnalhjdmlkbmaaDoor
namespace Go.Proofs.YtdnalhjdmlkbmaaDoor
open Go.RowKit
set_option linter.unusedVariables false
set_option maxRecDepth 100000 in
set_option maxHeartbeats 8000000 in
theorem asOne_any (G : Nat → Nat) (ca : Option Addr) (n cc : Nat) (entry : Int) (ea : Option Addr) (m ec : Nat) (ba : Option Addr) (k bc : Nat) (code : List Int) (effs : List (Int × Int × Int)) (banks : List (Int × List Int))
    (pa : Option Addr) (pn pc : Nat) (pl : List Int) (ga : Option Addr) (gn gc : Nat) (gl : List Int) (w : World)
    (ht : Tabs w (fun _ => 0)) (hn : code.length = n) (hm : effs.length = m) (hk : banks.length = k) (hc : CartIn w ca ea ba code effs banks) (bn : n ≤ 140737488351232) (bm : m * 24 ≤ 140737488351232) (bk : k * 32 ≤ 140737488351232) (bb : ∀ p ∈ banks, p.2.length ≤ 140737488351232)
    (hcb : B8 code) (hbb : ∀ p ∈ banks, B8 p.2) (e0 : 0 ≤ entry) (e1 : entry < 65536)
    (hp : Reads w pa (pl.map (.int .u8))) (hpl : pl.length = pn) (hp8 : B8 pl) (hg : Reads w ga (gl.map (.int .i64))) (hgl : gl.length = gn) (bp : pn ≤ 140737488351232) (bg : gn ≤ 140737488351232) :
    Calls Tryd.prog 9 #[cartV ca n cc entry ea m ec ba k bc, .slice pa pn pc, .slice ga gn gc] w (Looked w G (.bool true)) := by
  have n0 : ¬ S9k 0 := s9_zero
  have hfd := field_st
  have A0 := Lib.hid ((Adv.refl (S9k) w (fun _ => 0)).alloc (.cells #[.slice ca n cc, .int .u16 entry, .slice ea m ec, .slice ba k bc] 74) 1000)
  have C0 := Lib.hid (hc.adv A0.out n0)
  have HT := Lib.hid ht
  have HN := Lib.hid (And.intro hn (And.intro hm hk))
  have HBB := Lib.hid (And.intro bb (And.intro hcb hbb))
  have HP := Lib.hid (And.intro hp (And.intro hpl hp8))
  have HGG := Lib.hid (And.intro hg hgl)
  clear hc ht hn hm hk bb hcb hbb hp hpl hp8 hg hgl
  unfold cartV
  go_enter Tryd.func9, Tryd.ntmps9
  go_wp2_with fail
  refine (show Calls Tryd.prog 33 #[.agg #[.slice ca n cc, .int .u16 entry, .slice ea m ec, .slice ba k bc]] _ _ from ownCart_any (own1 w (fun _ => 0) 1000) ca n cc entry ea m ec ba k bc code effs banks _ HN.out.1 HN.out.2.1 HN.out.2.2 C0.out bn bm bk HBB.out.1).mono ?_
  rintro e w1 ⟨ca1, cc1, ea1, ec1, ba1, bc1, G1, rfl, a1, ci⟩
  have A1 := Lib.hid (A0.out.trans (a1.mono (T := S9k) fun _ h => h.elim))
  have C1 := Lib.hid ci
  clear a1 ci
  go_wp2_with fail
  have HCH := Lib.hid (show ∀ (w' : World) (G' : Nat → Nat), Adv (fun _ => False) w1 G1 w' G' → Calls Tryd.prog 67 #[cartV ca1 n cc1 entry ea1 m ec1 ba1 k bc1] w' (Looked w' G' (.int .i64 (checkF n effs banks))) from fun w' G' h =>
    check_any G' ca1 n cc1 entry ea1 m ec1 ba1 k bc1 effs banks w' HN.out.2.1 HN.out.2.2 (C1.out.effs.adv h (fun _ _ => id)) (C1.out.banks.keep h) bn bm bk HBB.out.1)
  by_cases hE : checkF n effs banks = 0
  · have hgd := Lib.hid (check_good hE)
    refine (vmNew_ok 4 1 2 3 own4123 G1 ca1 n cc1 entry e0 e1 ea1 m ec1 ba1 k bc1 code banks w1 HN.out.1 hgd.out.2.1 HBB.out.2.1 C1.out.code HN.out.2.2 (by have h1 := mayGo_len banks (-1) (by decide) hgd.out.2.2.1; have h2 := HN.out.2.2; omega) hgd.out.2.2.1 HBB.out.2.2 hgd.out.2.2.2 (fun w' G' h => C1.out.banks.keep h) (fun w' G' h => by have := HCH.out w' G' h; rw [hE] at this; exact this) (HT.out.adv A1.out n0)).mono ?_
    rintro e w2 ⟨P, D, R, M, G2, rfl, a2, v2⟩
    have A2 := Lib.hid (A1.out.trans (a2.mono (T := S9k) fun _ h => h.elim))
    have V2 := Lib.hid v2
    clear a2 v2 hE HCH C1
    go_wp2_with fail
    refine (awake_any G2 w2 ((HT.out.adv A2.out n0).relabel fun _ _ _ => rfl)).mono ?_
    rintro e w3 ⟨rfl, G3, a3⟩
    have A3 := Lib.hid (A2.out.trans (a3.mono (T := S9k) fun _ h => h.elim))
    have V3 := Lib.hid (V2.out.still a3)
    clear a3 V2
    go_wp2_with fail
    refine (copyV_any (p' := 8) (i' := 5) (j' := 6) (q' := 7) own8567 V3.out (by intro c hc; cases hc) (by show 0 ≤ 1000000; decide) (by decide)).mono ?_
    rintro e w4 ⟨P', D', R', M', lb, G4, rfl, a4, me, v4⟩
    have U4 := Lib.hid (show Duo w w4 G4 P D R M P' D' R' M' code (startS entry banks) { startS entry banks with m := { (startS entry banks).m with banks := lb } } from ⟨A3.out.trans (a4.mono (T := S9k) fun _ h => h.elim), V3.out.still a4, v4⟩)
    have E4 := Lib.hid (show VmEq (startS entry banks) { startS entry banks with m := { (startS entry banks).m with banks := lb } } from ⟨me, rfl⟩)
    clear a4 me v4 A0 A1 A2 A3 C0 V3 hgd HT HN HBB
    go_wp2_with fail
    go_loopw [10] (fun vi wr => ∃ i : Nat, vi = .int .i64 i ∧ i ≤ 12 ∧ ∃ (s s' : VmS) (Gr : Nat → Nat), Duo w wr Gr P D R M P' D' R' M' code s s' ∧ StOk s ∧ Alike s s') (fun vi _ => 12 - (intOf vi).toNat)
    case atStart => exact ⟨0, rfl, by omega, _, _, G4, U4.out, start_st _ _, E4.out.alike⟩
    case round =>
      obtain ⟨i, rfl, hi12, s, s', Gr, hu, hs, hal⟩ := hrel
      have HU := Lib.hid hu
      have HS := Lib.hid (And.intro hs hal)
      clear hu hs hal U4 E4
      by_cases h1 : i < pn
      · by_cases h2 : i < gn
        · by_cases h3 : i < 12
          · have d1 : decide ((i : Int) < (pn : Int)) = true := by simp; omega
            have d2 : decide ((i : Int) < (gn : Int)) = true := by simp; omega
            have d3 : decide ((i : Int) < 12) = true := by simp; omega
            have hpn := HP.out.2.1
            have hgn := HGG.out.2
            obtain ⟨x, hx⟩ : ∃ x, pl[i]? = some x := ⟨pl[i], List.getElem?_eq_getElem (by omega)⟩
            obtain ⟨y, hy⟩ : ∃ y, gl[i]? = some y := ⟨gl[i], List.getElem?_eq_getElem (by omega)⟩
            obtain ⟨xb, xo, ex, cx⟩ := readsMap (HP.out.1.adv HU.out.ad (fun _ _ => n0)) i x hx
            obtain ⟨yb, yo, ey, cy⟩ := readsMap (HGG.out.1.adv HU.out.ad (fun _ _ => n0)) i y hy
            have hx8 := HP.out.2.2 x (List.mem_of_getElem? hx)
            have HX := Lib.hid hx
            subst ex
            subst ey
            have hwi : IntKind.i64.wrap ((i : Int) + 1) = (i : Int) + 1 := IntWalk.i64_in _ (by omega)
            clear hpn hgn hx hy
            go_wp2_with fail
            refine (budget_any y wr).mono ?_
            rintro e w' ⟨rfl, rfl⟩
            have hbr := budget_rng y
            obtain ⟨bu, hbu⟩ : ∃ bu, bu = budgetF y := ⟨_, rfl⟩
            rw [← hbu] at hbr ⊢
            clear hbu
            go_wp2_with fail
            have hfr := frame_any own4123 far4123 x bu hx8.1 hx8.2 (by omega) (by omega) HU.out.a
            have hft := frameF_ok code x bu s HS.out.1 hbr.1
            obtain ⟨nn, t1, t2, t3, t4⟩ := go_twin code bu bu.toNat { s with m := beginF s.m x } 0 0 (by omega) (by omega)
            change (frameF code x bu s).2.1 = _ at t1
            change (frameF code x bu s).2.2 = _ at t2
            change Ends code bu _ _ _ (frameF code x bu s).1 at t4
            rw [Int.zero_add] at t1
            obtain ⟨F, hF⟩ : ∃ F, F = frameF code x bu s := ⟨_, rfl⟩
            rw [← hF] at hfr hft t1 t2 t4
            obtain ⟨s1, n', c'⟩ := F
            dsimp only at t1 t2
            subst t1
            have TW := Lib.hid (And.intro t2 (And.intro t3 (And.intro t4 hft)))
            clear t2 t3 t4 hft hF
            refine hfr.mono ?_
            rintro e w5 ⟨sb, ta, tc, G5, rfl, a5, v5, sr, tr⟩
            clear hfr
            dsimp only at v5 sr tr ⊢
            have hscr : s1.m.screen.length = 3072 := v5.ok.gd.mo.screen
            rw [hscr]
            have U5 := HU.out.first a5 v5
            have al := (Adv.refl (fun _ => False) w5 G5).alloc (.cells #[.int .i64 s1.st, .int .i64 s1.ft, .int .i64 nn, .int .i64 c', .int .i64 (bu - c'), .slice (some ⟨sb, 0, none⟩) 3072 3072, .slice ta s1.m.tones.length tc] 81) 1000
            have OM := Mine.made w5 G5 w U5.ad.size #[.int .i64 s1.st, .int .i64 s1.ft, .int .i64 nn, .int .i64 c', .int .i64 (bu - c'), .slice (some ⟨sb, 0, none⟩) 3072 3072, .slice ta s1.m.tones.length tc] 81
            have O6 := Lib.hid (OutIs.mk (i := bu - c') OM (sr.2.1.adv al (fun _ _ => id)) ((al.own _ sr.2.2.1).trans sr.1) (Nat.lt_of_lt_of_le sr.2.2.1 al.size) (tr.adv al id))
            have U6 := Lib.hid (U5.still al)
            clear a5 v5 sr tr hscr U5 al OM HU
            go_upto_region 14 with fail
            obtain ⟨w6, hw6⟩ : ∃ v, v = w5.alloc (.cells #[.int .i64 s1.st, .int .i64 s1.ft, .int .i64 nn, .int .i64 c', .int .i64 (bu - c'), .slice (some ⟨sb, 0, none⟩) 3072 3072, .slice ta s1.m.tones.length tc] 81) := ⟨_, rfl⟩
            obtain ⟨G6, hG6⟩ : ∃ v, v = own1 w5 G5 1000 := ⟨_, rfl⟩
            obtain ⟨ob, hob⟩ : ∃ v, v = w5.heap.size := ⟨_, rfl⟩
            rw [← hw6, ← hG6] at U6
            rw [← hw6, ← hG6, ← hob] at O6
            rw [← hw6, ← hob]
            have UD := Lib.hid U6.out.drew
            have c6 := readsAt (HP.out.1.adv UD.out.ad (fun _ _ => n0)) i x HX.out
            clear hw6 hG6 hob cx cy
            go_region_held3 (fun w' => w'.cell? ⟨xb, xo + i, none⟩ = some (.int .u8 x)) (first | with_reducible exact c6 | with_reducible exact Q7.out)
              (first | (go_at_call 41; refine (vmMemory_any UD.out.b).mono ?_; rintro e w' ⟨rfl, rfl⟩) | (go_at_call 43; refine (begin_any _ 7 M' s'.m UD.out.b.ok.gd.mo UD.out.b.ok.gd.mr x _ UD.out.b.tr.pm).mono ?_; rintro e w7 ⟨rfl, G7, a7, p7⟩; have b7 := VM.memCall own8567 UD.out.b a7 p7 (beginF_ok UD.out.b.ok.gd.mo x) (beginF_rng UD.out.b.ok.gd.mr hx8); have U7 := Lib.hid (UD.out.second b7.1 b7.2); have O7 := Lib.hid ((O6.out.still (Adv.refl _ _ _).drew).second b7.1); have Q7 := Lib.hid (readsAt (HP.out.1.adv U7.out.ad (fun _ _ => n0)) i x HX.out); clear a7 p7 b7))
            obtain ⟨z0, hz0⟩ : ∃ v, v = { s' with m := beginF s'.m x } := ⟨_, rfl⟩
            have Z := (HS.out.2.begin x)
            rw [← hz0] at U7 Z
            have ZE := Lib.hid Z
            have tq := twin_eq code nn _ z0 0 Z
            have tm := twin_mono code nn z0 0 (tq.2.2.1 TW.out.2.1)
            have hc' : c' = (twinF code nn z0 0).2 := TW.out.1.trans tq.2.1
            have HC := Lib.hid hc'
            have TM := Lib.hid tm
            have TQ := Lib.hid tq
            have HB := Lib.hid hbr
            have hzt : z0.m.tones.length = 0 := by rw [hz0]; rfl
            have HZT := Lib.hid hzt
            have VZ := Lib.hid U7.out.b.ok
            clear hz0 Z tq tm hc' UD U6 O6 Q7 c6 hzt
            go_wp2_with fail
            go_loopw [14, 15, 16] (fun v14 v15 v16 wq => ∃ j : Nat, v16 = .int .i64 j ∧ j ≤ nn ∧ v14 = .int .i64 (twinF code j z0 0).2 ∧ v15 = .bool (lastY code j z0 0) ∧ ∃ Gq, Duo w wq Gq P D R M P' D' R' M' code s1 (twinF code j z0 0).1 ∧ OutIs w wq Gq ob s1 nn c' (bu - c') sb ta tc) (fun _ _ v16 _ => nn - (intOf v16).toNat)
            case atStart => exact ⟨0, rfl, Nat.zero_le _, rfl, rfl, G7, U7.out, O7.out⟩
            case round =>
              obtain ⟨j, rfl, hjn, rfl, rfl, Gq, hu, ho⟩ := hrel
              have HU := Lib.hid hu
              have HO := Lib.hid ho
              have o2 := ho.o.cell 2 (.int .i64 nn) rfl
              clear hu ho U7 O7
              by_cases hj : j < nn
              · as_aux_lemma =>
                obtain ⟨ca1, ca2, ca3, ca4⟩ := can_at code nn j z0 0 hj (TQ.out.2.2.1 TW.out.2.1)
                have mj := TM.out (j + 1) hj
                have mj2 := (TM.out (j + 1) hj).2 nn hj (Nat.le_refl _)
                have mj0 := (TM.out j hjn).1
                have sn := twin_snoc code j z0 0
                have ls := lastY_snoc code j z0 0
                have tok := (twin_ok code j z0 0 VZ.out).2
                rw [HZT.out] at tok
                obtain ⟨-, -, fnc, -, fcb⟩ := TW.out.2.2.2
                dsimp only at fnc fcb
                rw [HC.out] at fnc fcb
                obtain ⟨T, hT⟩ : ∃ v, v = twinF code j z0 0 := ⟨_, rfl⟩
                rw [← hT] at HU ca1 ca2 ca3 mj0 sn ls tok ⊢
                rw [sn] at mj mj2
                have HSN := Lib.hid (And.intro sn ls)
                have CA := Lib.hid (And.intro ca2 ca3)
                rw [ca4]
                clear hT sn ls ca3 ca4
                obtain ⟨T1, sp⟩ := T
                dsimp only at HU ca1 ca2 mj mj2 mj0 tok ⊢
                have hco := cost_rng code T1 ca2
                have e0 : decide ((j : Int) < (nn : Int)) = true := by simp; omega
                go_wp2_with fail
                refine (look_any HU.out.b ca1).mono ?_
                rintro e w8 ⟨rfl, G8, a8⟩
                have hlo := look_op code T1 ca2
                have hcost : costsN (lookOp code T1) = costOf code T1 := (if_pos ca2).symm
                rw [if_pos ca2, if_pos ca2, ca2, show primW (lookOp code T1) = primV (lookOp code T1) from if_neg (by omega)]
                unfold lookT primV
                rw [hcost]
                have U8 := HU.out.still a8
                have al := (Adv.refl (fun _ => False) w8 G8).alloc (.cells #[.int .i64 (lookOp code T1), .string (nameB (lookOp code T1)), .int .i64 (takesN (lookOp code T1)), .int .i64 (leavesN (lookOp code T1)), .int .i64 (costOf code T1), .bool (operandB (lookOp code T1))] 25) 1000
                have P9 := Lib.hid (Mine.made w8 G8 w U8.ad.size #[.int .i64 (lookOp code T1), .string (nameB (lookOp code T1)), .int .i64 (takesN (lookOp code T1)), .int .i64 (leavesN (lookOp code T1)), .int .i64 (costOf code T1), .bool (operandB (lookOp code T1))] 25)
                have U9 := Lib.hid (U8.still al)
                have O9 := Lib.hid ((HO.out.still a8).still al)
                clear a8 U8 al hlo hcost HU HO o2 e0
                go_upto_region 21 with fail
                obtain ⟨w9, hw9⟩ : ∃ v, v = w8.alloc (.cells #[.int .i64 (lookOp code T1), .string (nameB (lookOp code T1)), .int .i64 (takesN (lookOp code T1)), .int .i64 (leavesN (lookOp code T1)), .int .i64 (costOf code T1), .bool (operandB (lookOp code T1))] 25) := ⟨_, rfl⟩
                obtain ⟨G9, hG9⟩ : ∃ v, v = own1 w8 G8 1000 := ⟨_, rfl⟩
                obtain ⟨pb, hpb⟩ : ∃ v, v = w8.heap.size := ⟨_, rfl⟩
                rw [← hw9, ← hG9] at U9 O9
                rw [← hw9, ← hG9, ← hpb] at P9
                rw [← hw9, ← hpb]
                clear hw9 hG9 hpb
                have p4 := P9.out.cell 4 (.int .i64 (costOf code T1)) rfl
                have e1 : decide (costOf code T1 < 1) = false := by simp; omega
                go_wp2_with fail
                refine (state_any U9.out.b).mono ?_
                rintro e w10 ⟨db, dc, rb, rc, G10, rfl, a10, -, -, -, -⟩
                unfold stateV
                have U10 := Lib.hid (U9.out.still a10)
                have O10 := Lib.hid (O9.out.still a10)
                have P10 := Lib.hid (P9.out.adv a10 id)
                have e2 : (T1.st != 1) = false := by simp [ca1]
                clear a10 U9 O9 P9 p4 e1
                go_wp2_with fail
                refine (vmMemory_any U10.out.b).mono ?_
                rintro e w' ⟨rfl, rfl⟩
                go_wp2_with fail
                refine (memAt_any _ 7 M' T1.m U10.out.b.ok.gd.mo sp _ U10.out.b.tr.pm).mono ?_
                rintro e w11 ⟨rfl, G11, a11, p11⟩
                have b11 := VM.memCall own8567 U10.out.b a11 p11 (atF_ok U10.out.b.ok.gd.mo sp) (atF_rng U10.out.b.ok.gd.mr sp)
                have U11 := Lib.hid (U10.out.second b11.1 b11.2)
                have O11 := Lib.hid (O10.out.second b11.1)
                have P11 := Lib.hid (P10.out.adv b11.1 far8567)
                clear a11 p11 b11 U10 O10 P10
                go_wp2_with fail
                refine (step_any own8567 (s := { T1 with m := atF T1.m sp }) ca1 (by show T1.m.tones.length ≤ 99999; omega) U11.out.b).mono ?_
                rintro e w12 ⟨rfl, G12, a12, v12⟩
                have U12 := Lib.hid (U11.out.second a12 v12)
                have O12 := Lib.hid (O11.out.second a12)
                have P12 := Lib.hid (P11.out.adv a12 far8567)
                have p4 := P12.out.cell 4 (.int .i64 (costOf code T1)) rfl
                have e3 : IntKind.i64.wrap (sp + costOf code T1) = sp + costOf code T1 := IntWalk.i64_in _ (by omega)
                have e4 : IntKind.i64.wrap ((j : Int) + 1) = (j : Int) + 1 := IntWalk.i64_in _ (by omega)
                clear a12 v12 U11 O11 P11
                go_wp2_with fail
                go_roundw
                case rel => exact ⟨j + 1, by simp, hj, by rw [HSN.out.1], by rw [HSN.out.2]; simp only [ca1], G12, by rw [HSN.out.1]; exact U12.out, O12.out⟩
                case measure => simp [intOf]; omega
              · obtain rfl : j = nn := by omega
                have o3 := HO.out.o.cell 3 (.int .i64 c') rfl
                have e0 : decide ((j : Int) < (j : Int)) = false := by simp
                have e1 : ((twinF code j z0 0).2 != c') = false := by rw [HC.out]; simp
                go_upto_region 28 with fail
                have et := ends_twin TW.out.2.2.1 TQ.out.1
                rw [TQ.out.2.2.2, TW.out.1.symm] at et
                have tok := (twin_ok code j z0 0 VZ.out).2
                rw [HZT.out] at tok
                have hjc := TW.out.2.2.2.nc
                have hcb := TW.out.2.2.2.cb
                dsimp only at hjc hcb
                rw [← HC.out]
                obtain ⟨T1, hT⟩ : ∃ v, v = (twinF code j z0 0).1 := ⟨_, rfl⟩
                obtain ⟨y, hy⟩ : ∃ v, v = lastY code j z0 0 := ⟨_, rfl⟩
                rw [← hT] at HU et tok
                rw [← hy] at et ⊢
                have ET := Lib.hid et
                have o4 := HO.out.o.cell 4 (.int .i64 (bu - c')) rfl
                clear et hT hy e0 e1 o2 o3
                go_cut [144] from 50 to 212 (fun v wx => v = .bool (decide (y = false ∧ 0 < bu - c' ∧ T1.st = 1)) ∧ ∃ Gx, Duo w wx Gx P D R M P' D' R' M' code s1 T1 ∧ OutIs w wx Gx ob s1 j c' (bu - c') sb ta tc)
                case first =>
                  as_aux_lemma =>
                  cases y with
                  | true =>
                    go_wp2_with fail
                    go_meet
                    exact ⟨by simp, Gq, HU.out, HO.out⟩
                  | false =>
                    by_cases q1 : 0 < bu - c'
                    · have q1b : decide (0 < bu - c') = true := by simpa using q1
                      go_wp2_with fail
                      refine (state_any HU.out.b).mono ?_
                      rintro e w10 ⟨db, dc, rb, rc, G10, rfl, a10, -, -, -, -⟩
                      unfold stateV
                      have U10 := Lib.hid (HU.out.still a10)
                      have O10 := Lib.hid (HO.out.still a10)
                      clear a10
                      go_wp2_with fail
                      go_meet
                      exact ⟨congrArg Value.bool (Bool.eq_iff_iff.2 ⟨fun h => decide_eq_true ⟨trivial, by omega, by simpa using h⟩, fun h => by simpa using (of_decide_eq_true h).2.2⟩), G10, U10.out, O10.out⟩
                    · have q1b : decide (0 < bu - c') = false := by simpa using q1
                      go_wp2_with fail
                      go_meet
                      exact ⟨congrArg Value.bool (decide_eq_false fun h => by have := h.2.1; omega).symm, Gq, HU.out, HO.out⟩
                case rest =>
                  obtain ⟨rfl, Gx, hu2, ho2⟩ := hcut
                  have UX := Lib.hid hu2
                  have OX := Lib.hid ho2
                  clear hu2 ho2 HU HO o4
                  go_upto_if 144 with fail
                  go_cut [20, 21, 22] from 50 to 212 (fun v20 v21 v22 wx => ∃ (T2 : VmS) (Gx : Nat → Nat), Alike s1 T2 ∧ T2.m.tones.length ≤ 99999 ∧ Duo w wx Gx P D R M P' D' R' M' code s1 T2 ∧ OutIs w wx Gx ob s1 j c' (bu - c') sb ta tc)
                  case first =>
                    as_aux_lemma =>
                    rcases ET.out with ⟨n1, hal⟩ | ⟨p1, hcs⟩
                    · rw [decide_eq_false n1]
                      go_wp2_with fail
                      go_meet
                      exact ⟨T1, Gx, hal, by omega, UX.out, OX.out⟩
                    · rw [decide_eq_true p1]
                      have hst := p1.2.2
                      have HCS := Lib.hid hcs
                      clear p1 hcs
                      have o4 := OX.out.o.cell 4 (.int .i64 (bu - c')) rfl
                      by_cases hl0 : lookE code T1 = 0
                      · go_wp2_with fail
                        refine (look_any UX.out.b hst).mono ?_
                        rintro e w8 ⟨rfl, G8, a8⟩
                        have hlo := look_op code T1 hl0
                        have hcost : costsN (lookOp code T1) = costOf code T1 := (if_pos hl0).symm
                        rw [if_pos hl0, if_pos hl0, hl0, show primW (lookOp code T1) = primV (lookOp code T1) from if_neg (by omega)]
                        unfold lookT primV
                        rw [hcost]
                        clear hcost
                        have U8 := UX.out.still a8
                        have al := (Adv.refl (fun _ => False) w8 G8).alloc (.cells #[.int .i64 (lookOp code T1), .string (nameB (lookOp code T1)), .int .i64 (takesN (lookOp code T1)), .int .i64 (leavesN (lookOp code T1)), .int .i64 (costOf code T1), .bool (operandB (lookOp code T1))] 25) 1000
                        have P9 := Lib.hid (Mine.made w8 G8 w U8.ad.size #[.int .i64 (lookOp code T1), .string (nameB (lookOp code T1)), .int .i64 (takesN (lookOp code T1)), .int .i64 (leavesN (lookOp code T1)), .int .i64 (costOf code T1), .bool (operandB (lookOp code T1))] 25)
                        have U9 := Lib.hid (U8.still al)
                        have O9 := Lib.hid ((OX.out.still a8).still al)
                        clear a8 U8 al UX OX o4
                        go_upto_region 30 with fail
                        obtain ⟨w9, hw9⟩ : ∃ v, v = w8.alloc (.cells #[.int .i64 (lookOp code T1), .string (nameB (lookOp code T1)), .int .i64 (takesN (lookOp code T1)), .int .i64 (leavesN (lookOp code T1)), .int .i64 (costOf code T1), .bool (operandB (lookOp code T1))] 25) := ⟨_, rfl⟩
                        obtain ⟨G9, hG9⟩ : ∃ v, v = own1 w8 G8 1000 := ⟨_, rfl⟩
                        obtain ⟨pb, hpb⟩ : ∃ v, v = w8.heap.size := ⟨_, rfl⟩
                        rw [← hw9, ← hG9] at U9 O9
                        rw [← hw9, ← hG9, ← hpb] at P9
                        rw [← hw9, ← hpb]
                        clear hw9 hG9 hpb
                        have p4 := P9.out.cell 4 (.int .i64 (costOf code T1)) rfl
                        have o4 := O9.out.o.cell 4 (.int .i64 (bu - c')) rfl
                        by_cases hle : costOf code T1 ≤ bu - c'
                        · have hse : stepE code T1 ≠ 0 ∧ Alike s1 (stepS code T1) := by
                            rcases HCS.out with h | h | h
                            · exact (by have := h.2.1; omega : False).elim
                            · exact h.2.2
                            · exact absurd hl0 h.1
                          have hs3 : (stepS code T1).st = 3 := by unfold stepS; rw [if_pos hse.1]
                          have q2 : decide (costOf code T1 ≤ bu - c') = true := by simpa using hle
                          go_wp2_with fail
                          refine (step_any own8567 hst (by omega) U9.out.b).mono ?_
                          rintro e w12 ⟨rfl, G12, a12, v12⟩
                          have U12 := Lib.hid (U9.out.second a12 v12)
                          have O12 := Lib.hid (O9.out.second a12)
                          clear a12 v12 U9 O9 P9 p4 o4
                          go_wp2_with fail
                          refine (state_any U12.out.b).mono ?_
                          rintro e w13 ⟨db, dc, rb, rc, G13, rfl, a13, -, -, -, -⟩
                          unfold stateV
                          rw [hs3]
                          have U13 := Lib.hid (U12.out.still a13)
                          have O13 := Lib.hid (O12.out.still a13)
                          clear a13 U12 O12
                          go_wp2_with fail
                          go_meet
                          exact ⟨stepS code T1, G13, hse.2, by rw [show (stepS code T1).m = T1.m from by unfold stepS; rw [if_pos hse.1]]; omega, U13.out, O13.out⟩
                        · have hal : Alike s1 T1 := by
                            rcases HCS.out with h | h | h
                            · exact h.2.2
                            · exact (by have := h.2.1; omega : False).elim
                            · exact absurd hl0 h.1
                          have q2 : decide (costOf code T1 ≤ bu - c') = false := by simpa using hle
                          go_wp2_with fail
                          go_meet
                          exact ⟨T1, G9, hal, by omega, U9.out, O9.out⟩
                      · have hse : stepE code T1 ≠ 0 ∧ Alike s1 (stepS code T1) := by
                          rcases HCS.out with h | h | h
                          · exact absurd h.1 hl0
                          · exact absurd h.1 hl0
                          · exact h.2
                        have q3 : (lookE code T1 == 0) = false := by simpa using hl0
                        have q4 : (lookE code T1 != 0) = true := by simpa using hl0
                        go_wp2_with fail
                        refine (look_any UX.out.b hst).mono ?_
                        rintro e w8 ⟨rfl, G8, a8⟩
                        rw [if_neg hl0, if_neg hl0, show primW 0 = primV0 from rfl]
                        unfold lookT primV0
                        have U8 := UX.out.still a8
                        have al := (Adv.refl (fun _ => False) w8 G8).alloc (.cells #[.int .i64 0, .string ⟨#[]⟩, .int .i64 0, .int .i64 0, .int .i64 0, .bool false] 25) 1000
                        have P9 := Lib.hid (Mine.made w8 G8 w U8.ad.size #[.int .i64 0, .string ⟨#[]⟩, .int .i64 0, .int .i64 0, .int .i64 0, .bool false] 25)
                        have U9 := Lib.hid (U8.still al)
                        have O9 := Lib.hid ((OX.out.still a8).still al)
                        clear a8 U8 al UX OX o4
                        go_upto_region 30 with fail
                        obtain ⟨w9, hw9⟩ : ∃ v, v = w8.alloc (.cells #[.int .i64 0, .string ⟨#[]⟩, .int .i64 0, .int .i64 0, .int .i64 0, .bool false] 25) := ⟨_, rfl⟩
                        obtain ⟨G9, hG9⟩ : ∃ v, v = own1 w8 G8 1000 := ⟨_, rfl⟩
                        obtain ⟨pb, hpb⟩ : ∃ v, v = w8.heap.size := ⟨_, rfl⟩
                        rw [← hw9, ← hG9] at U9 O9
                        rw [← hw9, ← hG9, ← hpb] at P9
                        rw [← hw9, ← hpb]
                        clear hw9 hG9 hpb
                        go_wp2_with fail
                        refine (step_any own8567 hst (by omega) U9.out.b).mono ?_
                        rintro e w12 ⟨rfl, G12, a12, v12⟩
                        have U12 := Lib.hid (U9.out.second a12 v12)
                        have O12 := Lib.hid (O9.out.second a12)
                        clear a12 v12 U9 O9 P9
                        go_wp2_with fail
                        go_meet
                        exact ⟨stepS code T1, G12, hse.2, by rw [show (stepS code T1).m = T1.m from by unfold stepS; rw [if_pos hse.1]]; omega, U12.out, O12.out⟩
                  case rest =>
                    have SO := Lib.hid TW.out.2.2.2.st
                    clear ET UX OX TW TM TQ HC VZ HZT ZE
                    obtain ⟨T2, Gx, hal, ht2, hu3, ho3⟩ := hcut
                    have UY := Lib.hid hu3
                    have OY := Lib.hid ho3
                    clear hu3 ho3
                    obtain ⟨l2, cy, rfl⟩ := alike_cases hal
                    have AK := Lib.hid hal
                    have UD := Lib.hid UY.out.drew
                    have OD := Lib.hid (OY.out.still (Adv.refl _ _ _).drew)
                    have HS3 := Lib.hid (show s1.m.screen.length = 3072 from UY.out.a.ok.gd.mo.screen)
                    obtain ⟨f5, f6, f7⟩ := OD.out.held HS3.out
                    have htn : s1.m.tones.length ≤ 99999 := ht2
                    clear hal ht2
                    go_upto_region 36 with fail
                    go_cut [195] from 50 to 212 (fun v195 wx => v195 = .bool false ∧ ∃ Gx, Duo w wx Gx P D R M P' D' R' M' code s1 { s1 with m := { s1.m with banks := l2, cycle := cy } } ∧ OutIs w wx Gx ob s1 j c' (bu - c') sb ta tc)
                    case first =>
                     as_aux_lemma =>
                     go_region_held_law (fun w' => w'.cell? ⟨ob, 5, none⟩ = some (.slice (some ⟨sb, 0, none⟩) 3072 3072) ∧ w'.cell? ⟨ob, 6, none⟩ = some (.slice ta s1.m.tones.length tc) ∧ (convert 70 9 (.slice (some ⟨sb, 0, none⟩) 3072 3072)).run Tryd.prog w' = .ok (.string (strOfNums s1.m.screen)) w') (first | with_reducible exact ⟨f5, f6, f7⟩ | with_reducible exact Q20.out | with_reducible exact Q21.out | with_reducible exact Q22.out | with_reducible exact Q23.out | with_reducible exact Q24.out)
                      (first | (go_at_call 45; refine (sameSt_any G21 s1 b1 k1 b2 k2 b3 k3 b4 k4 U21.out.a.ok.gd.dl U21.out.a.ok.gd.rl _ X21.out.1 X21.out.2.1 X21.out.2.2.1 X21.out.2.2.2).mono ?_; rintro e w22 ⟨rfl, G22, a22⟩; have U22 := Lib.hid (U21.out.still a22); have O22 := Lib.hid (O21.out.still a22); have Q22 := Lib.hid (O22.out.held HS3.out); clear a22) | (go_at_call 37; refine (state_any U20.out.b).mono ?_; rintro e w21 ⟨b3, k3, b4, k4, G21, rfl, a21, x3, x4, -, -⟩; have U21 := Lib.hid (U20.out.still a21); have O21 := Lib.hid (O20.out.still a21); have Q21 := Lib.hid (O21.out.held HS3.out); have X21 := Lib.hid (And.intro (X20.out.1.adv a21 (fun _ _ => id)) (And.intro (X20.out.2.adv a21 (fun _ _ => id)) (And.intro x3 x4))); clear a21 x3 x4) | (go_at_call 37; refine (state_any UD.out.a).mono ?_; rintro e w20 ⟨b1, k1, b2, k2, G20, rfl, a20, x1, x2, -, -⟩; have U20 := Lib.hid (UD.out.still a20); have O20 := Lib.hid (OD.out.still a20); have Q20 := Lib.hid (O20.out.held HS3.out); have X20 := Lib.hid (And.intro x1 x2); clear a20 x1 x2) | (go_at_call 41; refine (vmMemory_any U23.out.b).mono ?_; rintro e w' ⟨rfl, rfl⟩) | (go_at_call 41; refine (vmMemory_any U22.out.b).mono ?_; rintro e w' ⟨rfl, rfl⟩) | (go_at_call 46; refine (screen_twin U22.out.b s1.m.screen rfl).mono ?_; rintro e w23 ⟨sb2, G23, rfl, a23, cv2⟩; have U23 := Lib.hid (U22.out.still a23); have O23 := Lib.hid (O22.out.still a23); have Q23 := Lib.hid (O23.out.held HS3.out); clear a23) | (go_at_call 31; refine (tones_twin U23.out.b s1.m.tones rfl (by omega)).mono ?_; rintro e w24 ⟨ta2, tc2, G24, rfl, a24, r24⟩; have U24 := Lib.hid (U23.out.still a24); have O24 := Lib.hid (O23.out.still a24); have Q24 := Lib.hid (O24.out.held HS3.out); clear a24 r24))
                     all_goals
                       go_wp2_with fail
                       go_meet
                       exact ⟨by simp, G24, U24.out, O24.out⟩
                    case rest =>
                      as_aux_lemma =>
                      clear UD OD UY OY f5 f6 f7
                      obtain ⟨rfl, Gx, hu4, ho4⟩ := hcut
                      have U30 := Lib.hid hu4
                      have O30 := Lib.hid ho4
                      clear hu4 ho4
                      go_wp2_with fail
                      refine (vmMemory_any U30.out.b).mono ?_
                      rintro e w' ⟨rfl, rfl⟩
                      go_wp2_with fail
                      refine (tones_twin U30.out.b s1.m.tones rfl (by omega)).mono ?_
                      rintro e w31 ⟨ta3, tc3, G31, rfl, a31, r31⟩
                      have U31 := Lib.hid (U30.out.still a31)
                      have O31 := Lib.hid (O30.out.still a31)
                      have R31 := Lib.hid r31
                      clear a31 r31 U30 O30
                      obtain ⟨tl, htl⟩ : ∃ v, v = s1.m.tones := ⟨_, rfl⟩
                      obtain ⟨tn, htnl⟩ : ∃ v, v = s1.m.tones.length := ⟨_, rfl⟩
                      rw [← htl] at R31
                      rw [← htnl] at htn ⊢
                      have TL := Lib.hid (show tl.length = tn from by rw [htl, htnl])
                      have TE := Lib.hid htl
                      have TN := Lib.hid htnl
                      clear htl htnl
                      rw [TL.out] at R31
                      go_wp2_with fail
                      go_loopw [200] (fun v200 wr => ∃ k : Nat, v200 = .int .i64 k ∧ k ≤ tn ∧ ∃ Gr, Duo w wr Gr P D R M P' D' R' M' code s1 { s1 with m := { s1.m with banks := l2, cycle := cy } } ∧ OutIs w wr Gr ob s1 j c' (bu - c') sb ta tc ∧ Row 68 3 wr Gr 0 (.slice ta3 tn tc3) tn (tonesC tl)) (fun v200 _ => tn - (intOf v200).toNat)
                      case atStart => exact ⟨0, rfl, Nat.zero_le _, G31, U31.out, O31.out, R31.out⟩
                      case round =>
                        obtain ⟨kk, rfl, hkn, Gr2, hu5, ho5, hr5⟩ := hrel
                        have U32 := Lib.hid hu5
                        have O32 := Lib.hid ho5
                        have R32 := Lib.hid hr5
                        clear hu5 ho5 hr5 U31 O31 R31
                        by_cases hlt : kk < tn
                        · as_aux_lemma =>
                          have q1 : decide ((kk : Int) < (tn : Int)) = true := by simp; omega
                          obtain ⟨t, ht⟩ : ∃ t, tl[kk]? = some t := ⟨tl[kk]'(by rw [TL.out]; omega), by simp⟩
                          obtain ⟨b3, o3', e3, m0, m1, m2⟩ := tone_cells R32.out kk t ht
                          subst e3
                          have HT3 := Lib.hid ht
                          clear ht
                          go_upto_region 41 with fail
                          obtain ⟨w33, hw33⟩ : ∃ v, v = wr.alloc (.cells #[.int .i64 t.1, .int .u16 t.2.1, .int .u8 t.2.2] 68) := ⟨_, rfl⟩
                          obtain ⟨G33, hG33⟩ : ∃ v, v = own1 wr Gr2 1000 := ⟨_, rfl⟩
                          obtain ⟨tb, htb⟩ : ∃ v, v = wr.heap.size := ⟨_, rfl⟩
                          have al := (Adv.refl (fun _ => False) wr Gr2).alloc (.cells #[.int .i64 t.1, .int .u16 t.2.1, .int .u8 t.2.2] 68) 1000
                          have TM := Mine.made wr Gr2 w U32.out.ad.size #[.int .i64 t.1, .int .u16 t.2.1, .int .u8 t.2.2] 68
                          rw [← hw33, ← hG33] at al
                          rw [← hw33, ← hG33, ← htb] at TM
                          have U33 := Lib.hid (U32.out.still al)
                          have O33 := Lib.hid (O32.out.still al)
                          have R33 := Lib.hid (R32.out.adv al id)
                          have TM3 := Lib.hid TM
                          rw [← hw33, ← htb]
                          have tn3 := O33.out.tn
                          rw [← TE.out, TL.out] at tn3
                          obtain ⟨b4, o4', e4, n0', n1', n2'⟩ := tone_cells tn3 kk t HT3.out
                          have o6 := O33.out.o.cell 6 (.slice ta s1.m.tones.length tc) rfl
                          rw [← TN.out] at o6
                          subst e4
                          have x0 := TM3.out.cell 0 (.int .i64 t.1) rfl
                          have x1 := TM3.out.cell 1 (.int .u16 t.2.1) rfl
                          have x2 := TM3.out.cell 2 (.int .u8 t.2.2) rfl
                          have hE := eqlTone3
                          have k0 : (0 : Int) ≤ (kk : Int) := Int.natCast_nonneg _
                          have k1 : (kk : Int) < (tn : Int) := by omega
                          have hwk : IntKind.i64.wrap ((kk : Int) + 1) = (kk : Int) + 1 := IntWalk.i64_in _ (by omega)
                          clear al TM hw33 hG33 htb m0 m1 m2 tn3 U32 O32 R32
                          go_quiet (fail)
                          go_wp2_with fail
                          exact ⟨⟨kk + 1, by simp, by omega, G33, U33.out.still ((Adv.refl (fun _ => False) w33 G33).drewN nq), O33.out.still ((Adv.refl (fun _ => False) w33 G33).drewN nq), R33.out.adv ((Adv.refl (fun _ => False) w33 G33).drewN nq) id⟩, by simp only [intOf]; omega⟩
                        · have q1 : decide ((kk : Int) < (tn : Int)) = false := by simp; omega
                          go_wp2_with fail
                          go_roundw
                          case rel => exact ⟨i + 1, by simp, by omega, s1, _, Gr2, U32.out, SO.out, AK.out⟩
                          case measure => simp only [intOf]; omega
          · have d1 : decide ((i : Int) < (pn : Int)) = true := by simp; omega
            have d2 : decide ((i : Int) < (gn : Int)) = true := by simp; omega
            have d3 : decide ((i : Int) < 12) = false := by simp; omega
            go_wp2_with fail
            go_ret
            exact ⟨rfl, _, joined_adv HU.out.ad n0⟩
        · have d1 : decide ((i : Int) < (pn : Int)) = true := by simp; omega
          have d2 : decide ((i : Int) < (gn : Int)) = false := by simp; omega
          go_wp2_with fail
          go_ret
          exact ⟨rfl, _, joined_adv HU.out.ad n0⟩
      · have d1 : decide ((i : Int) < (pn : Int)) = false := by simp; omega
        go_wp2_with fail
        go_ret
        exact ⟨rfl, _, joined_adv HU.out.ad n0⟩
  · have hE' : (checkF n effs banks == 0) = false := by simpa using hE
    refine (vmNew_bad G1 ca1 n cc1 entry ea1 m ec1 ba1 k bc1 w1 _ hE HCH.out).mono ?_
    rintro e w2 ⟨rfl, G2, a2⟩
    have A2 := Lib.hid (A1.out.trans (a2.mono (T := S9k) fun _ h => h.elim))
    clear a2
    go_wp2_with fail
    refine (awake_any G2 w2 ((HT.out.adv A2.out n0).relabel fun _ _ _ => rfl)).mono ?_
    rintro e w3 ⟨rfl, G3, a3⟩
    have A3 := Lib.hid (A2.out.trans (a3.mono (T := S9k) fun _ h => h.elim))
    clear a3
    go_wp2_with fail
    go_ret
    exact ⟨by rw [show (checkF n effs banks != 0) = true from by simpa using hE]; rfl, _, joined_adv A3.out n0⟩
end Go.Proofs.YtdnalhjdmlkbmaaDoor
namespace Go.Proofs.YtdnalhjdmlkbmaaDoor
open Go.RowKit Go.ChangeShapes Go.WideShapes

/-- Cells that read as data of type t have the form K, and what they hold is within the reach. -/
def Opens (P : Program) (t : TypeId) {α : Type} (K : World → α → List Value → Prop) : Prop :=
  ∀ {H : Type} (enc : TypeId × Value → H) (w : World) (fuel : Nat) (cs : List Value) (x : DataW H × List MemPlace), DataW.trod enc P w 0 (fun _ => true) true fuel t cs = some x →
    (∀ n ∈ DataW.weights P t x.1, n ≤ reachBytes) → ∃ a, K w a cs

def kInt (k : IntKind) : World → Int → List Value → Prop := fun _ n cs => cs = [.int k n] ∧ (Lit.int k n).wf = true
def kBool : World → Bool → List Value → Prop := fun _ b cs => cs = [.bool b]
def kString : World → ByteArray → List Value → Prop := fun _ s cs => cs = [.string s] ∧ s.size ≤ 140737488351232
/-- A slice: its elements, each of 'size' cells; its capacity is within the reach. -/
def kSlice {α : Type} (size bytes : Nat) (K : World → α → List Value → Prop) : World → List α → List Value → Prop := fun w l cs =>
  ∃ a c, cs = [.slice a l.length c] ∧ l.length ≤ c ∧ c * bytes ≤ 140737488351232 ∧
    (l = [] ∨ ∃ b o, a = some ⟨b, o, none⟩ ∧ ∀ i x, l[i]? = some x → ∃ cs', K w x cs' ∧ cs'.length = size ∧ ∀ j u, cs'[j]? = some u → w.cell? ⟨b, o + i * size + j, none⟩ = some u)

theorem opens_int {P : Program} {t : TypeId} {k : IntKind} (ht : P.underlying t = some (.int k)) : Opens P t (kInt k) := by
  intro H enc w fuel cs x h _
  obtain ⟨n, rfl, _, hw⟩ := DataW.trod_int ht h
  exact ⟨n, rfl, hw⟩
theorem opens_bool {P : Program} {t : TypeId} (ht : P.underlying t = some .bool) : Opens P t kBool := by
  intro H enc w fuel cs x h _
  obtain ⟨n, rfl, _⟩ := DataW.trod_bool ht h
  exact ⟨n, rfl⟩
theorem opens_string {P : Program} {t : TypeId} (ht : P.underlying t = some .string) : Opens P t kString := by
  intro H enc w fuel cs x h hr
  obtain ⟨s, rfl, rfl, _⟩ := DataW.trod_string ht h
  refine ⟨s, rfl, ?_⟩
  have := hr s.data.toList.length (by simp [DataW.weights])
  simpa [reachBytes] using this

theorem weights_all {H : Type} {P : Program} {e : TypeId} : ∀ {l : List (DataW H)} {d : DataW H}, d ∈ l → ∀ n ∈ d.weights P e, n ∈ DataW.weightsAll P e l
  | [], d, hd, _, _ => by simp at hd
  | y :: l, d, hd, n, hn => by
    rcases List.mem_cons.1 hd with rfl | h
    · simp [DataW.weightsAll, hn]
    · simp [DataW.weightsAll, weights_all h n hn]

/-- From each place to a list. -/
theorem list_of {α : Type} {p : Nat → α → Prop} : ∀ (n : Nat), (∀ i, i < n → ∃ y, p i y) → ∃ l : List α, l.length = n ∧ ∀ i x, l[i]? = some x → p i x
  | 0, _ => ⟨[], rfl, fun i x hi => by simp at hi⟩
  | m + 1, each => by
    obtain ⟨l, h1, h2⟩ := list_of m (fun i hi => each i (by omega))
    obtain ⟨y, hy⟩ := each m (by omega)
    refine ⟨l ++ [y], by simp [h1], fun i x hi => ?_⟩
    by_cases him : i < l.length
    · exact h2 i x (by rwa [List.getElem?_append_left him] at hi)
    · rw [List.getElem?_append_right (by omega)] at hi
      obtain ⟨rfl, rfl⟩ : i = m ∧ x = y := by
        rw [List.getElem?_singleton] at hi
        split at hi
        · exact ⟨by omega, by simpa using hi.symm⟩
        · cases hi
      exact hy
theorem opens_slice {P : Program} {t e : TypeId} {α : Type} {K : World → α → List Value → Prop} {size bytes : Nat} (ht : P.underlying t = some (.slice e)) (hc : P.cellsOf e = size) (hs : 0 < size) (hb : P.bytesOf e = bytes) (hK : Opens P e K) :
    Opens P t (kSlice size bytes K) := by
  intro H enc w fuel cs x h hr
  rcases DataW.trod_slice ht h with ⟨rfl, rfl⟩ | ⟨a, len, cap, elems, rest, n, _, rfl, rfl, _, hl, _, hlen, hel, hsp, _⟩
  · exact ⟨[], none, 0, rfl, Nat.le_refl _, by omega, .inl rfl⟩
  · obtain ⟨hrl, _⟩ := hsp rfl
    have hcap : cap * bytes ≤ 140737488351232 := by
      have := hr ((elems.map (·.1)).length + (rest.map (·.1)).length |> (· * P.bytesOf e)) (by simp [DataW.weights, ht])
      simp only [List.length_map, hlen, hrl, hb, reachBytes] at this
      rwa [show len + (cap - len) = cap from by omega] at this
    have each : ∀ i, i < len → ∃ y, ∃ cs', K w y cs' ∧ cs'.length = size ∧ ∀ j u, cs'[j]? = some u → w.cell? (a.add (i * size + j)) = some u := by
      intro i hi
      have h1 := hel i hi
      obtain ⟨ei, hei⟩ : ∃ ei, elems[i]? = some ei := ⟨elems[i]'(by omega), by simp⟩
      rw [hei, hc] at h1
      cases hcs : w.cells? 0 (a.add (i * size)) size with
      | none => rw [hcs] at h1; simp at h1
      | some cs' =>
        rw [hcs] at h1
        simp only [Option.bind_some] at h1
        obtain ⟨_, hcl, hcell⟩ := World.cells?_some hcs
        obtain ⟨y, hy⟩ := hK enc w n cs' ei h1 (fun m hm => hr m (by
          simp only [DataW.weights, ht, List.mem_cons, List.mem_append]
          exact .inr (.inl (weights_all (List.mem_map.2 ⟨ei, List.mem_of_getElem? hei, rfl⟩) m hm))))
        refine ⟨y, cs', hy, hcl, fun j u hj => ?_⟩
        have hjl : j < size := by rw [← hcl]; exact (List.getElem?_eq_some_iff.1 hj).1
        have := hcell j hjl
        rw [Go.Deep.add_add] at this
        rw [this]; exact hj
    rcases Nat.eq_zero_or_pos len with h0 | hpos
    · exact ⟨[], some a, cap, by rw [h0]; rfl, by simp, hcap, .inl rfl⟩
    · have hsp0 : ∃ b o, a = ⟨b, o, none⟩ := by
        obtain ⟨y, cs', _, hcl, hcell⟩ := each 0 hpos
        obtain ⟨u, hu⟩ : ∃ u, cs'[0]? = some u := ⟨cs'[0]'(by omega), by simp⟩
        have h2 := hcell 0 u hu
        simp only [Nat.zero_mul, Nat.add_zero, Addr.add_zero'] at h2
        obtain ⟨b, o, sp⟩ := a
        cases sp with
        | none => exact ⟨b, o, rfl⟩
        | some _ => simp only [World.cell?] at h2; split at h2 <;> simp at h2
      obtain ⟨b, o, rfl⟩ := hsp0
      obtain ⟨l, h1, h2⟩ := list_of len each
      refine ⟨l, some ⟨b, o, none⟩, cap, by rw [h1], by omega, hcap, .inr ⟨b, o, rfl, fun i x hi => ?_⟩⟩
      obtain ⟨cs', ha, hb', hc'⟩ := h2 i x hi
      refine ⟨cs', ha, hb', fun j u hj => ?_⟩
      have := hc' j u hj
      rwa [Addr.add_lit, ← Nat.add_assoc] at this

/-- A struct of two fields; of five. -/
theorem opens_struct2 {P : Program} {t : TypeId} {f0 f1 : Field} {α β : Type} {K0 : World → α → List Value → Prop} {K1 : World → β → List Value → Prop} (ht : P.underlying t = some (.struct #[f0, f1]))
    (h0 : Opens P f0.type K0) (h1 : Opens P f1.type K1) : Opens P t (fun w (x : α × β) cs => cs.length = P.cellsOf t ∧ K0 w x.1 ((cs.drop f0.offset).take (P.cellsOf f0.type)) ∧ K1 w x.2 ((cs.drop f1.offset).take (P.cellsOf f1.type))) := by
  intro H enc w fuel cs x h hr
  obtain ⟨xs, n, _, rfl, hl, hlen, hf⟩ := DataW.trod_struct ht h
  match xs, hlen with
  | [y0, y1], _ =>
    have g0 := hf 0 f0 rfl
    have g1 := hf 1 f1 rfl
    have e : DataW.weights P t (.agg ([y0, y1].map (·.1))) = y0.1.weights P f0.type ++ (y1.1.weights P f1.type ++ []) := by simp [DataW.weights, ht, DataW.weightsEach]
    obtain ⟨a, ha⟩ := h0 enc w n _ y0 g0 (fun m hm => hr m (by rw [e]; simp [hm]))
    obtain ⟨b, hb⟩ := h1 enc w n _ y1 g1 (fun m hm => hr m (by rw [e]; simp [hm]))
    exact ⟨(a, b), hl, ha, hb⟩
theorem opens_struct5 {P : Program} {t : TypeId} {f0 f1 f2 f3 f4 : Field} {α β γ δ ε : Type} {K0 : World → α → List Value → Prop} {K1 : World → β → List Value → Prop} {K2 : World → γ → List Value → Prop} {K3 : World → δ → List Value → Prop} {K4 : World → ε → List Value → Prop}
    (ht : P.underlying t = some (.struct #[f0, f1, f2, f3, f4])) (h0 : Opens P f0.type K0) (h1 : Opens P f1.type K1) (h2 : Opens P f2.type K2) (h3 : Opens P f3.type K3) (h4 : Opens P f4.type K4) :
    Opens P t (fun w (x : α × β × γ × δ × ε) cs => cs.length = P.cellsOf t ∧ K0 w x.1 ((cs.drop f0.offset).take (P.cellsOf f0.type)) ∧ K1 w x.2.1 ((cs.drop f1.offset).take (P.cellsOf f1.type)) ∧
      K2 w x.2.2.1 ((cs.drop f2.offset).take (P.cellsOf f2.type)) ∧ K3 w x.2.2.2.1 ((cs.drop f3.offset).take (P.cellsOf f3.type)) ∧ K4 w x.2.2.2.2 ((cs.drop f4.offset).take (P.cellsOf f4.type))) := by
  intro H enc w fuel cs x h hr
  obtain ⟨xs, n, _, rfl, hl, hlen, hf⟩ := DataW.trod_struct ht h
  match xs, hlen with
  | [y0, y1, y2, y3, y4], _ =>
    have e : DataW.weights P t (.agg ([y0, y1, y2, y3, y4].map (·.1))) = y0.1.weights P f0.type ++ (y1.1.weights P f1.type ++ (y2.1.weights P f2.type ++ (y3.1.weights P f3.type ++ (y4.1.weights P f4.type ++ [])))) := by simp [DataW.weights, ht, DataW.weightsEach]
    obtain ⟨a, ha⟩ := h0 enc w n _ y0 (hf 0 f0 rfl) (fun m hm => hr m (by rw [e]; simp [hm]))
    obtain ⟨b, hb⟩ := h1 enc w n _ y1 (hf 1 f1 rfl) (fun m hm => hr m (by rw [e]; simp [hm]))
    obtain ⟨c, hc⟩ := h2 enc w n _ y2 (hf 2 f2 rfl) (fun m hm => hr m (by rw [e]; simp [hm]))
    obtain ⟨d, hd⟩ := h3 enc w n _ y3 (hf 3 f3 rfl) (fun m hm => hr m (by rw [e]; simp [hm]))
    obtain ⟨f, hf⟩ := h4 enc w n _ y4 (hf 4 f4 rfl) (fun m hm => hr m (by rw [e]; simp [hm]))
    exact ⟨(a, b, c, d, f), hl, ha, hb, hc, hd, hf⟩

/-- An argument: its value's cells have the form K. -/
theorem opens_arg {P : Program} {H : Type} {enc : TypeId × Value → H} {w : World} {ts : List TypeId} {ds : List (DataW H)} (hsz : (DataW.weightsEach P ts ds).all (· ≤ reachBytes) = true) {j : Nat} {t : TypeId} {d : DataW H} {v : Value} {p : List MemPlace}
    {α : Type} {K : World → α → List Value → Prop} (hK : Opens P t K) (h : DataW.Trod enc P w 0 (fun _ => true) true t v d p) (htj : ts[j]? = some t) (hdj : ds[j]? = some d) : ∃ a, K w a v.cells.toList := by
  obtain ⟨fuel, hf⟩ := h
  exact hK enc w fuel _ _ hf (fun n hn => by simpa using List.all_eq_true.1 hsz n (DataW.weights_mem_each htj hdj n hn))
#print axioms opens_slice
end Go.Proofs.YtdnalhjdmlkbmaaDoor
namespace Go.Proofs.YtdnalhjdmlkbmaaDoor
open Go.RowKit Go.ChangeShapes Go.WideShapes
set_option linter.unusedVariables false
theorem cellsOf_u8 : Tryd.prog.cellsOf 5 = 1 := by kernel_rfl
theorem bytesOf_u8 : Tryd.prog.bytesOf 5 = 1 := by kernel_rfl
theorem cellsOf_int : Tryd.prog.cellsOf 3 = 1 := by kernel_rfl
theorem bytesOf_int : Tryd.prog.bytesOf 3 = 8 := by kernel_rfl
theorem cellsOf_u16 : Tryd.prog.cellsOf 41 = 1 := by kernel_rfl
theorem cellsOf_sl8 : Tryd.prog.cellsOf 70 = 1 := by kernel_rfl
theorem cellsOf_sle : Tryd.prog.cellsOf 71 = 1 := by kernel_rfl
theorem cellsOf_slb : Tryd.prog.cellsOf 72 = 1 := by kernel_rfl
theorem cellsOf_eff : Tryd.prog.cellsOf 168 = 3 := by kernel_rfl
theorem bytesOf_eff : Tryd.prog.bytesOf 168 = 24 := by kernel_rfl
theorem cellsOf_bank : Tryd.prog.cellsOf 106 = 2 := by kernel_rfl
theorem bytesOf_bank : Tryd.prog.bytesOf 106 = 32 := by kernel_rfl
theorem cellsOf_cart : Tryd.prog.cellsOf 74 = 4 := by kernel_rfl
theorem opens_u8s : Opens Tryd.prog 70 (kSlice 1 1 (kInt .u8)) := opens_slice Tryd.underlying70 cellsOf_u8 (by omega) bytesOf_u8 (opens_int Tryd.underlying5)
theorem opens_ints : Opens Tryd.prog 23 (kSlice 1 8 (kInt .i64)) := opens_slice Tryd.underlying23 cellsOf_int (by omega) bytesOf_int (opens_int Tryd.underlying3)
theorem kBytes {w : World} {l : List Int} {cs : List Value} (h : kSlice 1 1 (kInt .u8) w l cs) : ∃ a c, cs = [.slice a l.length c] ∧ l.length ≤ 140737488351232 ∧ Reads w a (u8s l) ∧ B8 l := by
  obtain ⟨a, c, rfl, h1, h2, h3⟩ := h
  refine ⟨a, c, rfl, by omega, ?_, ?_⟩
  · rcases h3 with rfl | ⟨b, o, rfl, h3⟩
    · exact .inl rfl
    · refine .inr ⟨b, o, rfl, fun j u hu => ?_⟩
      simp only [u8s, List.getElem?_map, Option.map_eq_some_iff] at hu
      obtain ⟨x, hx, rfl⟩ := hu
      obtain ⟨cs', ⟨rfl, _⟩, _, hc⟩ := h3 j x hx
      have := hc 0 _ rfl
      simpa using this
  · intro x hx
    rcases h3 with rfl | ⟨b, o, rfl, h3⟩
    · cases hx
    · obtain ⟨j, hj⟩ := List.getElem?_of_mem hx
      obtain ⟨cs', ⟨_, hw⟩, _⟩ := h3 j x hj
      exact wf_u8_of hw
theorem kInts {w : World} {l : List Int} {cs : List Value} (h : kSlice 1 8 (kInt .i64) w l cs) : ∃ a c, cs = [.slice a l.length c] ∧ l.length ≤ 140737488351232 ∧ Reads w a (l.map (.int .i64)) := by
  obtain ⟨a, c, rfl, h1, h2, h3⟩ := h
  refine ⟨a, c, rfl, by omega, ?_⟩
  rcases h3 with rfl | ⟨b, o, rfl, h3⟩
  · exact .inl rfl
  · refine .inr ⟨b, o, rfl, fun j u hu => ?_⟩
    simp only [List.getElem?_map, Option.map_eq_some_iff] at hu
    obtain ⟨x, hx, rfl⟩ := hu
    obtain ⟨cs', ⟨rfl, _⟩, _, hc⟩ := h3 j x hx
    have := hc 0 _ rfl
    simpa using this
theorem opens_struct3 {P : Program} {t : TypeId} {f0 f1 f2 : Field} {α β γ : Type} {K0 : World → α → List Value → Prop} {K1 : World → β → List Value → Prop} {K2 : World → γ → List Value → Prop}
    (ht : P.underlying t = some (.struct #[f0, f1, f2])) (h0 : Opens P f0.type K0) (h1 : Opens P f1.type K1) (h2 : Opens P f2.type K2) :
    Opens P t (fun w (x : α × β × γ) cs => cs.length = P.cellsOf t ∧ K0 w x.1 ((cs.drop f0.offset).take (P.cellsOf f0.type)) ∧ K1 w x.2.1 ((cs.drop f1.offset).take (P.cellsOf f1.type)) ∧ K2 w x.2.2 ((cs.drop f2.offset).take (P.cellsOf f2.type))) := by
  intro H enc w fuel cs x h hr
  obtain ⟨xs, n, _, rfl, hl, hlen, hf⟩ := DataW.trod_struct ht h
  match xs, hlen with
  | [y0, y1, y2], _ =>
    have e : DataW.weights P t (.agg ([y0, y1, y2].map (·.1))) = y0.1.weights P f0.type ++ (y1.1.weights P f1.type ++ (y2.1.weights P f2.type ++ [])) := by simp [DataW.weights, ht, DataW.weightsEach]
    obtain ⟨a, ha⟩ := h0 enc w n _ y0 (hf 0 f0 rfl) (fun m hm => hr m (by rw [e]; simp [hm]))
    obtain ⟨b, hb⟩ := h1 enc w n _ y1 (hf 1 f1 rfl) (fun m hm => hr m (by rw [e]; simp [hm]))
    obtain ⟨c, hc⟩ := h2 enc w n _ y2 (hf 2 f2 rfl) (fun m hm => hr m (by rw [e]; simp [hm]))
    exact ⟨(a, b, c), hl, ha, hb, hc⟩
theorem opens_struct4 {P : Program} {t : TypeId} {f0 f1 f2 f3 : Field} {α β γ δ : Type} {K0 : World → α → List Value → Prop} {K1 : World → β → List Value → Prop} {K2 : World → γ → List Value → Prop} {K3 : World → δ → List Value → Prop}
    (ht : P.underlying t = some (.struct #[f0, f1, f2, f3])) (h0 : Opens P f0.type K0) (h1 : Opens P f1.type K1) (h2 : Opens P f2.type K2) (h3 : Opens P f3.type K3) :
    Opens P t (fun w (x : α × β × γ × δ) cs => cs.length = P.cellsOf t ∧ K0 w x.1 ((cs.drop f0.offset).take (P.cellsOf f0.type)) ∧ K1 w x.2.1 ((cs.drop f1.offset).take (P.cellsOf f1.type)) ∧ K2 w x.2.2.1 ((cs.drop f2.offset).take (P.cellsOf f2.type)) ∧ K3 w x.2.2.2 ((cs.drop f3.offset).take (P.cellsOf f3.type))) := by
  intro H enc w fuel cs x h hr
  obtain ⟨xs, n, _, rfl, hl, hlen, hf⟩ := DataW.trod_struct ht h
  match xs, hlen with
  | [y0, y1, y2, y3], _ =>
    have e : DataW.weights P t (.agg ([y0, y1, y2, y3].map (·.1))) = y0.1.weights P f0.type ++ (y1.1.weights P f1.type ++ (y2.1.weights P f2.type ++ (y3.1.weights P f3.type ++ []))) := by simp [DataW.weights, ht, DataW.weightsEach]
    obtain ⟨a, ha⟩ := h0 enc w n _ y0 (hf 0 f0 rfl) (fun m hm => hr m (by rw [e]; simp [hm]))
    obtain ⟨b, hb⟩ := h1 enc w n _ y1 (hf 1 f1 rfl) (fun m hm => hr m (by rw [e]; simp [hm]))
    obtain ⟨c, hc⟩ := h2 enc w n _ y2 (hf 2 f2 rfl) (fun m hm => hr m (by rw [e]; simp [hm]))
    obtain ⟨d, hd⟩ := h3 enc w n _ y3 (hf 3 f3 rfl) (fun m hm => hr m (by rw [e]; simp [hm]))
    exact ⟨(a, b, c, d), hl, ha, hb, hc, hd⟩
/-- The cells of an api.Effect; of an api.Bank. -/
def kEff : World → Int × Int × Int → List Value → Prop := fun _ x cs => cs = [.int .u16 x.1, .int .i64 x.2.1, .int .i64 x.2.2]
theorem opens_eff : Opens Tryd.prog 168 kEff := by
  intro H enc w fuel cs x h hr
  obtain ⟨a, h1, h2, h3, h4⟩ := opens_struct3 Tryd.underlying168 (opens_int Tryd.underlying41) (opens_int Tryd.underlying3) (opens_int Tryd.underlying3) enc w fuel cs x h hr
  rw [cellsOf_eff] at h1
  rw [cellsOf_u16] at h2
  rw [cellsOf_int] at h3 h4
  match cs, h1 with
  | [c0, c1, c2], _ =>
    have e0 := h2.1
    have e1 := h3.1
    have e2 := h4.1
    simp at e0 e1 e2
    exact ⟨a, by rw [e0, e1, e2]; rfl⟩
def kBank : World → Int × List Int → List Value → Prop := fun w x cs => ∃ da dc, cs = [.int .i64 x.1, .slice da x.2.length dc] ∧ Reads w da (u8s x.2) ∧ x.2.length ≤ 140737488351232 ∧ B8 x.2
theorem opens_bank : Opens Tryd.prog 106 kBank := by
  intro H enc w fuel cs x h hr
  obtain ⟨a, h1, h2, h3⟩ := opens_struct2 Tryd.underlying106 (opens_int Tryd.underlying3) opens_u8s enc w fuel cs x h hr
  rw [cellsOf_bank] at h1
  rw [cellsOf_int] at h2
  rw [cellsOf_sl8] at h3
  obtain ⟨da, dc, e1, g1, g2, g3⟩ := kBytes h3
  match cs, h1 with
  | [c0, c1], _ =>
    have e0 := h2.1
    simp at e0 e1
    exact ⟨(a.1, a.2), da, dc, by rw [e0, e1], g2, g1, g3⟩
theorem opens_effs : Opens Tryd.prog 71 (kSlice 3 24 kEff) := opens_slice Tryd.underlying71 cellsOf_eff (by omega) bytesOf_eff opens_eff
theorem opens_banks : Opens Tryd.prog 72 (kSlice 2 32 kBank) := opens_slice Tryd.underlying72 cellsOf_bank (by omega) bytesOf_bank opens_bank
theorem effC_get (l : List (Int × Int × Int)) : ∀ (j : Nat) (u : Value), (effC l)[j]? = some u → ∃ (i : Nat) (d : Nat) (c : Int × Int × Int), j = i * 3 + d ∧ l[i]? = some c ∧ [Value.int .u16 c.1, .int .i64 c.2.1, .int .i64 c.2.2][d]? = some u := by
  induction l with
  | nil => intro j u h; simp [effC] at h
  | cons c l ih =>
    intro j u h
    simp only [effC, List.flatMap_cons] at h ih
    match j with
    | 0 => exact ⟨0, 0, c, rfl, rfl, h⟩
    | 1 => exact ⟨0, 1, c, rfl, rfl, h⟩
    | 2 => exact ⟨0, 2, c, rfl, rfl, h⟩
    | j + 3 =>
      obtain ⟨i, d, c', h1, h2, h3⟩ := ih j u h
      exact ⟨i + 1, d, c', by omega, h2, h3⟩
theorem kEffs {w : World} {l : List (Int × Int × Int)} {cs : List Value} (h : kSlice 3 24 kEff w l cs) : ∃ a c, cs = [.slice a l.length c] ∧ l.length * 24 ≤ 140737488351232 ∧ Reads w a (effC l) := by
  obtain ⟨a, c, rfl, h1, h2, h3⟩ := h
  refine ⟨a, c, rfl, by omega, ?_⟩
  rcases h3 with rfl | ⟨b, o, rfl, h3⟩
  · exact .inl rfl
  · refine .inr ⟨b, o, rfl, fun j u hu => ?_⟩
    obtain ⟨i, d, x, rfl, hx, hd⟩ := effC_get l j u hu
    obtain ⟨cs', rfl, _, hc⟩ := h3 i x hx
    have := hc d _ hd
    rwa [← Nat.add_assoc]
theorem kBanks {w : World} {l : List (Int × List Int)} {cs : List Value} (h : kSlice 2 32 kBank w l cs) : ∃ a c, cs = [.slice a l.length c] ∧ l.length * 32 ≤ 140737488351232 ∧ BankIn w a l ∧ (∀ p ∈ l, p.2.length ≤ 140737488351232) ∧ ∀ p ∈ l, B8 p.2 := by
  obtain ⟨a, c, rfl, h1, h2, h3⟩ := h
  have hall : ∀ p ∈ l, p.2.length ≤ 140737488351232 ∧ B8 p.2 := by
    intro p hp
    rcases h3 with rfl | ⟨b, o, rfl, h3⟩
    · cases hp
    · obtain ⟨i, hi⟩ := List.getElem?_of_mem hp
      obtain ⟨cs', ⟨da, dc, _, _, g1, g2⟩, _⟩ := h3 i p hi
      exact ⟨g1, g2⟩
  refine ⟨a, c, rfl, by omega, ?_, fun p hp => (hall p hp).1, fun p hp => (hall p hp).2⟩
  intro k p hp
  rcases h3 with rfl | ⟨b, o, rfl, h3⟩
  · cases hp
  · obtain ⟨cs', ⟨da, dc, rfl, hr, _, _⟩, _, hc⟩ := h3 k p hp
    exact ⟨b, o, da, dc, rfl, hc 0 _ rfl, hc 1 _ rfl, hr⟩
set_option maxRecDepth 100000 in
/-- A cart that came in. -/
theorem open_cart {H : Type} {enc : TypeId × Value → H} {w : World} {ts : List TypeId} {ds : List (DataW H)} (hsz : (DataW.weightsEach Tryd.prog ts ds).all (· ≤ reachBytes) = true) {j : Nat} {d : DataW H} {v : Value} {p : List MemPlace} {base : Nat}
    (h : DataW.Trod enc Tryd.prog w 0 (fun _ => true) true 74 v d p) (ok : Value.okWide Tryd.prog w .any base 74 v) (htj : ts[j]? = some 74) (hdj : ds[j]? = some d) :
    ∃ (ca : Option Addr) (cc : Nat) (entry : Int) (ea : Option Addr) (ec : Nat) (ba : Option Addr) (bc : Nat) (code : List Int) (effs : List (Int × Int × Int)) (banks : List (Int × List Int)),
      v = cartV ca code.length cc entry ea effs.length ec ba banks.length bc ∧ CartIn w ca ea ba code effs banks ∧ code.length ≤ 140737488351232 ∧ effs.length * 24 ≤ 140737488351232 ∧ banks.length * 32 ≤ 140737488351232 ∧
      (∀ p ∈ banks, p.2.length ≤ 140737488351232) ∧ B8 code ∧ (∀ p ∈ banks, B8 p.2) ∧ 0 ≤ entry ∧ entry < 65536 := by
  obtain ⟨⟨code, entry, effs, banks⟩, h1, h2, h3, h4, h5⟩ := opens_arg hsz (j := j) (opens_struct4 Tryd.underlying74 opens_u8s (opens_int Tryd.underlying41) opens_effs opens_banks) h htj hdj
  obtain ⟨cs, rfl, hcs⟩ := okWide_struct Tryd.underlying74 ok
  rw [cellsOf_cart] at h1
  rw [cellsOf_sl8] at h2
  rw [cellsOf_u16] at h3
  rw [cellsOf_sle] at h4
  rw [cellsOf_slb] at h5
  obtain ⟨ca, cc, e1, b1, r1, c8⟩ := kBytes h2
  obtain ⟨ea, ec, e3, b3, r3⟩ := kEffs h4
  obtain ⟨ba, bc, e4, b4, r4, l4, c4⟩ := kBanks h5
  obtain ⟨e2, w2⟩ := h3
  have hw := wf_u16_of w2
  obtain ⟨l, hl⟩ : ∃ l, l = cs.toList := ⟨_, rfl⟩
  have hcl : (Value.agg cs).cells.toList = l := by rw [hl]; rfl
  rw [hcl] at h1 e1 e2 e3 e4
  match l, h1 with
  | [c0, c1, c2, c3], _ =>
    simp at e1 e2 e3 e4
    refine ⟨ca, cc, entry, ea, ec, ba, bc, code, effs, banks, ?_, ⟨r1, r3, r4⟩, b1, b3, b4, l4, c8, c4, hw.1, hw.2⟩
    have : cs = #[c0, c1, c2, c3] := by rw [← Array.toList_inj, ← hl]
    rw [this, e1, e2, e3, e4]
    rfl
end Go.Proofs.YtdnalhjdmlkbmaaDoor
namespace Go.Proofs.YtdnalhjdmlkbmaaDoor.vmAsOne
open Go.RowKit Go.ChangeShapes Go.WideShapes
set_option linter.unusedVariables false
theorem slice_of8 {a a' : Option Addr} {n n' c c' : Nat} (h : (Value.slice a n c).cells.toList = [.slice a' n' c']) : Value.slice a n c = .slice a' n' c' := by simpa [Value.cells] using h
set_option maxRecDepth 100000 in
theorem vmAsOne_open {H : Type} {enc : TypeId × Value → H} (W : World) (base : Nat) (v0 : Value) (d0 : DataW H) (p0 : List MemPlace) (h0 : DataW.Trod enc Tryd.prog W 0 (fun _ => true) true 74 v0 d0 p0) (o0 : Value.okWide Tryd.prog W .any base 74 v0)
    (v1 : Value) (d1 : DataW H) (p1 : List MemPlace) (h1 : DataW.Trod enc Tryd.prog W 0 (fun _ => true) true 70 v1 d1 p1) (o1 : Value.okWide Tryd.prog W .any base 70 v1)
    (v2 : Value) (d2 : DataW H) (p2 : List MemPlace) (h2 : DataW.Trod enc Tryd.prog W 0 (fun _ => true) true 23 v2 d2 p2) (o2 : Value.okWide Tryd.prog W .any base 23 v2)
    (hsz : (DataW.weightsEach Tryd.prog ([74, 70, 23] ++ []) ([d0, d1, d2] ++ [])).all (· ≤ reachBytes) = true) (hL : laidMetH Tryd.prog laid4 W) :
    Calls Tryd.prog 9 #[v0, v1, v2] W fun e w' => e = .returned (.bool true) ∧ Below W.heap.size W w' := by
  obtain ⟨ca, cc, entry, ea, ec, ba, bc, code, effs, banks, rfl, hc, bn, bm, bk, bb, c8, b8, e0, e1⟩ := open_cart hsz (j := 0) h0 o0 rfl rfl
  obtain ⟨xs, hx⟩ := opens_arg hsz (j := 1) opens_u8s h1 rfl rfl
  obtain ⟨ys, hy⟩ := opens_arg hsz (j := 2) opens_ints h2 rfl rfl
  obtain ⟨a, n, c, rfl⟩ := okWide_slice Tryd.underlying70 o1
  obtain ⟨b, m, c2, rfl⟩ := okWide_slice Tryd.underlying23 o2
  obtain ⟨a', c', f1, g1, r1, x8⟩ := kBytes hx
  obtain ⟨b', c2', f2, g2, r2⟩ := kInts hy
  rw [slice_of8 f1, slice_of8 f2]
  refine (asOne_any (fun _ => 0) ca code.length cc entry ea effs.length ec ba banks.length bc code effs banks a' xs.length c' xs b' ys.length c2' ys W (of_laid hL) rfl rfl rfl hc bn bm bk bb c8 b8 e0 e1 r1 rfl x8 r2 rfl g1 g2).mono ?_
  rintro e w' ⟨rfl, G', ha⟩
  exact ⟨rfl, ha.below (Nat.le_refl _) fun _ _ => id⟩
end Go.Proofs.YtdnalhjdmlkbmaaDoor.vmAsOne
