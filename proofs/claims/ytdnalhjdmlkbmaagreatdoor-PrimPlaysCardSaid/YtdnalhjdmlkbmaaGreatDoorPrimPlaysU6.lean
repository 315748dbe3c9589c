/- A range over a map with integer keys, told as lists of pairs: what is still to come; A range over a map with integer keys, inside a fence; maps.Keys of the banks, collected; slices.AppendSeq, slices.Collect over the banks' keys; slices.Sort of two bytes; slices.Sorted of the keys of a map with two banks; append of whatever is read, as a step of a region that draws; slices.Clone of bytes; what Image answers; mem.Image of a memory with two banks; wisplaw06.image: a memory as text; The two worlds of PrimKeeps, all at once; What the document's stacks (wispref05) do; What the document's return stack does; The document's rows of primitives 1 to 20; The document's rows of primitives 21 to 41; The document's rows of primitives 42 to 63. -/
import Derived.Maps.RangeWalk
import Derived.Sort.MapsRangeIn
import Derived.RangeFuncBox
import Derived.RangeFuncLeaves
import Derived.RangeFuncBound
import Derived.RangeFuncCalls
import Derived.RangeFuncWrites
import Derived.Shelf.Abstract
import Derived.WalkKit
import Derived.OwnWalkIn
import Derived.TacticsInMore
import Derived.LoopNIn
import Derived.LoopIn
import Derived.Maps.AppendAt
import Derived.Test.YtdnalhjdmlkbmaaGreatDoorProg
import Derived.Deep.QuietTactic
import Derived.BigQuiet
import Derived.Deep.RegionHeld3
import Derived.Outline
import Derived.Deep.DeepCutAuto
import Derived.Laws.BytesArg
import Derived.Deep.RegionHeldLaw
import Derived.RegionTactic
import Derived.BigRegion
import Derived.ChangeAlike
import Derived.Test.YtdnalhjdmlkbmaaGreatDoorPrimPlaysU1
import Derived.Test.YtdnalhjdmlkbmaaGreatDoorPrimPlaysU2
import Derived.Test.YtdnalhjdmlkbmaaGreatDoorPrimPlaysU3
import Derived.Test.YtdnalhjdmlkbmaaGreatDoorPrimPlaysU4
import Derived.Test.YtdnalhjdmlkbmaaGreatDoorPrimPlaysU5
set_option linter.unusedVariables false
set_option linter.unusedSimpArgs false
set_option linter.unnecessarySimpa false
namespace Go.Proofs.YtdnalhjdmlkbmaaGreatDoor
open Go.RowKit
/-- Block r is an iterator over the map in block B, which holds l; rest is still to come. -/
def RangeI (q : IntKind) (w : World) (B r : Nat) (l rest : List (Int × Value)) : Prop :=
  ∃ es clk since seen c0, w.heap[B]? = some (.map es clk) ∧ es.toList.map (fun e => (e.key, e.val)) = l.map (fun p => (Value.int q p.1, p.2)) ∧ MapKept.Stamped es clk ∧
    w.heap[r]? = some (.mapIter (some B) since seen c0) ∧ (∀ x ∈ es.toList, x.born < since) ∧ since ≤ c0 ∧ since ≤ clk ∧
    (leftOf es seen).toList.map (fun e => (e.key, e.val)) = rest.map (fun p => (Value.int q p.1, p.2))
section
variable {q : IntKind} {w w' : World} {B r : Nat} {l rest : List (Int × Value)}
theorem RangeI.map (h : RangeI q w B r l rest) : MapI q w B l := by
  obtain ⟨es, clk, since, seen, c0, h1, h2, h3, _⟩ := h
  exact ⟨es, clk, h1, h2, h3⟩
theorem RangeI.lt (h : RangeI q w B r l rest) : r < w.heap.size := by
  obtain ⟨es, clk, since, seen, c0, _, _, _, h4, _⟩ := h
  exact (Array.getElem?_eq_some_iff.1 h4).1
theorem RangeI.ne (h : RangeI q w B r l rest) : r ≠ B := by
  obtain ⟨es, clk, since, seen, c0, h1, _, _, h4, _⟩ := h
  rintro rfl
  rw [h1] at h4; cases h4
theorem RangeI.of_blocks (h : RangeI q w B r l rest) (hb : w'.heap[B]? = w.heap[B]?) (hr : w'.heap[r]? = w.heap[r]?) : RangeI q w' B r l rest := by
  obtain ⟨es, clk, since, seen, c0, h1, h2, h3, h4, h5⟩ := h
  exact ⟨es, clk, since, seen, c0, hb.trans h1, h2, h3, hr.trans h4, h5⟩
theorem RangeI.left_eq (h : RangeI q w B r l rest) : w.rangeLeft B r = rest.length := by
  obtain ⟨es, clk, since, seen, c0, h1, _, _, h4, _, _, _, h5⟩ := h
  have := congrArg List.length h5
  simp only [List.length_map, Array.length_toList] at this
  simp only [World.rangeLeft, h1, h4]
  exact this
theorem RangeI.adv {S : Nat → Prop} {G G' : Nat → Nat} (h : RangeI q w B r l rest) (ha : Adv S w G w' G') (h1 : ¬ S (G B)) (h2 : ¬ S (G r)) : RangeI q w' B r l rest :=
  h.of_blocks (ha.keep B h.map.lt h1) (ha.keep r h.lt h2)
theorem Adv.ofGrown1 {w w' : World} {G : Nat → Nat} {r : Nat} (hg : w.grownBy w' (some r)) {S : Nat → Prop} (hr : S (G r)) : Adv S w G w' (newTo w G 0) :=
  ⟨hg.os, hg.tape, hg.output, hg.size, fun _ hb => newTo_old hb, fun b hb hs => hg.block b hb fun e => by cases e; exact hs hr⟩
/-- Keys stand once. -/
theorem MapI.nodup (h : MapI q w B l) : (l.map (·.1)).Nodup := by
  obtain ⟨es, clk, _, h2, _, _, h3⟩ := h
  have e : es.toList.map (·.key) = (l.map (·.1)).map (Value.int q) := by
    have := congrArg (List.map Prod.fst) h2
    simpa [List.map_map, Function.comp_def] using this
  rw [e] at h3
  exact (List.pairwise_map.1 h3).imp fun {a b} h e => h (congrArg (Value.int q) e)
theorem range_I {P : Program} {t kt e : TypeId} (ht : P.underlying t = some (.map kt e)) (h : MapI q w B l) :
    (Instr.range t (.map (some B))).run P w = .ok (.pointer (some ⟨w.heap.size, 0, none⟩)) (w.alloc ((match w.heap[B]? with | some (.map _ c) => Obj.mapIter (some B) c #[] c | _ => Obj.mapIter none 0 #[] 0))) ∧
    RangeI q (w.alloc ((match w.heap[B]? with | some (.map _ c) => Obj.mapIter (some B) c #[] c | _ => Obj.mapIter none 0 #[] 0))) B w.heap.size l l := by
  have hlt := h.lt
  obtain ⟨es, clk, h1, h2, h3⟩ := h
  simp only [h1]
  refine ⟨run_range_map w t kt e B es clk ht h1, es, clk, clk, #[], clk, (heap_past _ _ _ hlt).trans h1, h2, h3, heap_alloc_new _ _, h3.1, Nat.le_refl _, Nat.le_refl _, ?_⟩
  rw [← h2]
  have hf : es.toList.filter (fun _ => true) = es.toList := List.filter_eq_self.2 fun _ _ => rfl
  simp [leftOf, hf]
theorem left_push (es : Array MapEntry) (seen : Array Nat) (b : Nat) : (leftOf es (seen.push b)).toList = (leftOf es seen).toList.filter (fun x => !(x.born == b)) := by
  unfold leftOf
  simp only [Array.toList_filter, List.filter_filter]
  congr 1
  funext x
  rw [contains_push]
  cases seen.contains x.born <;> cases (x.born == b) <;> rfl
theorem filter_one {e : MapEntry} : ∀ {L : List MapEntry}, (L.map (·.born)).Nodup → e ∈ L → ∃ a b, L = a ++ e :: b ∧ L.filter (fun x => !(x.born == e.born)) = a ++ b
  | [], _, h => by cases h
  | x :: L, hn, h => by
    simp only [List.map_cons, List.nodup_cons] at hn
    by_cases hx : x.born = e.born
    · have he : x = e := by
        rcases List.mem_cons.1 h with h | h
        · exact h.symm
        · exact absurd (List.mem_map.2 ⟨e, h, hx.symm⟩) hn.1
      subst he
      refine ⟨[], L, rfl, ?_⟩
      simp only [List.filter_cons, beq_self_eq_true, Bool.not_true, List.nil_append]
      rw [if_neg (by simp)]
      refine List.filter_eq_self.2 fun y hy => ?_
      have : y.born ≠ x.born := fun e => hn.1 (List.mem_map.2 ⟨y, hy, e⟩)
      simpa using this
    · have hm : e ∈ L := by
        rcases List.mem_cons.1 h with h | h
        · exact absurd (congrArg MapEntry.born h.symm) hx
        · exact h
      obtain ⟨a, b, rfl, hf⟩ := filter_one hn.2 hm
      refine ⟨x :: a, b, rfl, ?_⟩
      rw [List.filter_cons, if_pos (by simpa using hx), hf]; rfl
/-- The step. -/
theorem RangeI.next {P : Program} (h : RangeI q w B r l rest) (ty : TypeId) :
    (rest = [] ∧ (Instr.next (.pointer (some ⟨r, 0, none⟩)) false ty).run P w = .ok (.tuple #[.bool false]) w) ∨
    ∃ pre p post w', rest = pre ++ p :: post ∧ (Instr.next (.pointer (some ⟨r, 0, none⟩)) false ty).run P w = .ok (.tuple #[.bool true, .int q p.1, p.2]) w' ∧
      RangeI q w' B r l (pre ++ post) ∧ w.grownBy w' (some r) ∧ w'.heap.size = w.heap.size ∧ (Instr.entry (.pointer (some ⟨r, 0, none⟩))).run P w' = .ok (.tuple #[.int q p.1, p.2]) w' := by
  have hne := h.ne
  obtain ⟨es, clk, since, seen, c0, hb, hl, hst, hr, hold, hsc, hsk, hleft⟩ := h
  rcases run_next_at (P := P) w ty r B since c0 seen es clk hr hb hold hsc with ⟨h0, hrun⟩ | ⟨e, he, w1, hal, hrun⟩
  · refine .inl ⟨?_, hrun⟩
    have e0 : (leftOf es seen).toList = [] := List.eq_nil_of_length_eq_zero (by simpa using h0)
    rw [e0] at hleft
    cases rest with
    | nil => rfl
    | cons a b => simp at hleft
  · obtain ⟨hem, hes⟩ := mem_left he
    have hnd : ((leftOf es seen).toList.map (·.born)).Nodup := by
      have : (leftOf es seen).toList.Sublist es.toList := by
        unfold leftOf
        rw [Array.toList_filter]; exact List.filter_sublist
      exact (this.map _).nodup hst.2.1
    obtain ⟨a, b, hab, hf⟩ := filter_one hnd he
    have hr1 : w1.heap[r]? = some (.mapIter (some B) since seen c0) := by rcases hal with rfl | rfl <;> exact hr
    have hb1 : w1.heap[B]? = some (.map es clk) := by rcases hal with rfl | rfl <;> exact hb
    have hset := MapKept.heap_set (o' := .mapIter (some B) since (seen.push e.born) clk) hr1
    have hb' : (ChangeMaps.setBlock w1 r (.mapIter (some B) since (seen.push e.born) clk)).heap[B]? = some (.map es clk) := (hset.2 B (fun e1 => hne e1.symm)).trans hb1
    rw [hab, List.map_append, List.map_cons] at hleft
    obtain ⟨pre, r2, hr2, hpre, hr3⟩ := List.map_eq_append_iff.1 hleft.symm
    obtain ⟨p, post, hr4, hp, hpost⟩ := List.map_eq_cons_iff.1 hr3
    subst hr4
    have hpk : e.key = .int q p.1 := (congrArg Prod.fst hp).symm
    have hpv : e.val = p.2 := (congrArg Prod.snd hp).symm
    refine .inr ⟨pre, p, post, _, hr2, by rw [← hpk, ← hpv]; exact hrun, ⟨es, clk, since, seen.push e.born, clk, hb', hl, hst, hset.1, hold, hsk, hsk, ?_⟩, ?_, ?_, ?_⟩
    · rw [left_push, hf, List.map_append, List.map_append, hpre, hpost]
    · rcases hal with rfl | rfl <;> exact ⟨rfl, rfl, rfl, by simp [ChangeMaps.setBlock], fun i _ hi => hset.2 i (fun e1 => hi (by rw [e1]))⟩
    · rcases hal with rfl | rfl <;> simp [ChangeMaps.setBlock]
    · rw [← hpk, ← hpv]
      exact run_entry_at _ r B since seen es clk e hset.1 hb' hem hst.2.1
end
section
variable {P : Program} {w : World} {ops : Array Oper} {rest : List Oper} {o : Oper} {a : Act} {Q : Exit → Act → World → Prop}
theorem wpList_range_I {q : IntKind} (hg : o.guard = none) (m : Operand) (t : TypeId) (hop : o.op = Op.range t m) (kt e : TypeId) (ht : P.underlying t = some (.map kt e)) (B : Nat) (l : List (Int × Value))
    (hm : a.eval m = .map (some B)) (h : MapI q w B l)
    (hK : ∀ ob, RangeI q (w.alloc ob) B w.heap.size l l → wpList P ops Q rest (a.put o.dst (.pointer (some ⟨w.heap.size, 0, none⟩))) (w.alloc ob)) :
    wpList P ops Q (o :: rest) a w := by
  refine wpList_plain hg fun K' hK' => ?_
  obtain ⟨hrun, h2⟩ := range_I (P := P) ht h
  unfold Oper.wp
  simp [execOp, hop, hm, hrun, Result.andThen]
  exact hK' _ _ (hK _ h2)
theorem wpList_next_I {q : IntKind} (hg : o.guard = none) (it : Operand) (hop : o.op = Op.next it false) (B r : Nat) (l re : List (Int × Value)) (hit : a.eval it = .pointer (some ⟨r, 0, none⟩)) (h : RangeI q w B r l re)
    (hDone : re = [] → wpList P ops Q rest (a.put o.dst (.tuple #[.bool false])) w)
    (hMore : ∀ pre p post w', re = pre ++ p :: post → RangeI q w' B r l (pre ++ post) → w.grownBy w' (some r) → w'.heap.size = w.heap.size →
      (Instr.entry (.pointer (some ⟨r, 0, none⟩))).run P w' = .ok (.tuple #[.int q p.1, p.2]) w' → wpList P ops Q rest (a.put o.dst (.tuple #[.bool true, .int q p.1, p.2])) w') :
    wpList P ops Q (o :: rest) a w := by
  refine wpList_plain hg fun K' hK' => ?_
  unfold Oper.wp
  rcases h.next (P := P) o.type with ⟨h0, hrun⟩ | ⟨pre, p, post, w', h1, hrun, h2, h3, h4, h5⟩
  · simp [execOp, hop, hit, hrun, Result.andThen]
    exact hK' _ _ (hDone h0)
  · simp [execOp, hop, hit, hrun, Result.andThen]
    exact hK' _ _ (hMore pre p post w' h1 h2 h3 h4 h5)
end
end Go.Proofs.YtdnalhjdmlkbmaaGreatDoor
namespace Go.Proofs.YtdnalhjdmlkbmaaGreatDoor
open Go.RowKit
section
variable {F : Fence} {n : Nat} {P : Program} {w : World} {ops : Array Oper} {rest : List Oper} {o : Oper} {a : Act} {Q : Exit → Act → World → Prop}
theorem wpListIn_range_I {q : IntKind} (hg : o.guard = none) (m : Operand) (t : TypeId) (hop : o.op = Op.range t m) (kt e : TypeId) (ht : P.underlying t = some (.map kt e)) (B : Nat) (l : List (Int × Value))
    (hm : a.eval m = .map (some B)) (h : MapI q w B l)
    (hK : ∀ ob, RangeI q (w.alloc ob) B w.heap.size l l → wpListIn F n P ops Q rest (a.put o.dst (.pointer (some ⟨w.heap.size, 0, none⟩))) (w.alloc ob)) :
    wpListIn F n P ops Q (o :: rest) a w := by
  refine wpListIn_plain hg fun K' hK' => ?_
  obtain ⟨hrun, h2⟩ := range_I (P := P) ht h
  unfold Oper.wpIn
  refine ⟨by simp [Oper.about, hop], ?_⟩
  rw [Oper.semAt_plain F _ _ (by rw [hop]; intro c hc'; cases hc')]
  simp [execOp, hop, hm, hrun, Result.andThen]
  exact hK' _ _ (hK _ h2)
theorem wpListIn_next_I {q : IntKind} (hg : o.guard = none) (it : Operand) (hop : o.op = Op.next it false) (B r : Nat) (l re : List (Int × Value)) (hit : a.eval it = .pointer (some ⟨r, 0, none⟩)) (h : RangeI q w B r l re)
    (hDone : re = [] → wpListIn F n P ops Q rest (a.put o.dst (.tuple #[.bool false])) w)
    (hMore : ∀ pre p post w', re = pre ++ p :: post → RangeI q w' B r l (pre ++ post) → w.grownBy w' (some r) → w'.heap.size = w.heap.size →
      (Instr.entry (.pointer (some ⟨r, 0, none⟩))).run P w' = .ok (.tuple #[.int q p.1, p.2]) w' → wpListIn F n P ops Q rest (a.put o.dst (.tuple #[.bool true, .int q p.1, p.2])) w') :
    wpListIn F n P ops Q (o :: rest) a w := by
  refine wpListIn_plain hg fun K' hK' => ?_
  unfold Oper.wpIn
  refine ⟨by simp [Oper.about, hop], ?_⟩
  rw [Oper.semAt_plain F _ _ (by rw [hop]; intro c hc'; cases hc')]
  rcases h.next (P := P) o.type with ⟨h0, hrun⟩ | ⟨pre, p, post, w', h1, hrun, h2, h3, h4, h5⟩
  · simp [execOp, hop, hit, hrun, Result.andThen]
    exact hK' _ _ (hDone h0)
  · simp [execOp, hop, hit, hrun, Result.andThen]
    exact hK' _ _ (hMore pre p post w' h1 h2 h3 h4 h5)
end
theorem RangeI.walks {q : IntKind} {w w' : World} {B r : Nat} {l rest : List (Int × Value)} (h : RangeI q w B r l rest) (hk : KeepsWalks w w') : RangeI q w' B r l rest := by
  obtain ⟨es, clk, since, seen, c0, h1, h2, h3, h4, h5⟩ := h
  exact ⟨es, clk, since, seen, c0, hk.same _ _ h1 rfl, h2, h3, hk.same _ _ h4 rfl, h5⟩
theorem RangeI.walk {q : IntKind} {w : World} {B r : Nat} {l rest : List (Int × Value)} (h : RangeI q w B r l rest) : ∃ o : Obj, w.heap[r]? = some o ∧ o.isWalk = true := by
  obtain ⟨es, clk, since, seen, c0, _, _, _, h4, _⟩ := h
  exact ⟨_, h4, rfl⟩
end Go.Proofs.YtdnalhjdmlkbmaaGreatDoor
namespace Go.Proofs.YtdnalhjdmlkbmaaGreatDoor
open Go.RowKit Go.Shelf
attribute [local go_sem] Oper.semAt_some
set_option linter.unusedVariables false
def u8v (x : Int) : Value := .int .u8 x
set_option maxRecDepth 100000 in
set_option maxHeartbeats 1000000 in
/-- The iterator over a map's keys: whatever the caller keeps between its rounds. -/
theorem keys1_in (n : Nat) (hn : 1 ≤ n) (y Bm B : Nat) (l : List (Int × Value)) (J Jx : List Int → World → Prop) (W : World) (hJ : AbidesFrom W.heap.size J) (hm : W.cell? ⟨Bm, 0, none⟩ = some (.map (some B))) (hmap : MapI .u8 W B l)
    (hY : ∀ pre x W1, J pre W1 → pre.length < l.length → YieldAt Fence.wide (n - 1) Tryz.prog y #[u8v x] W1 fun e W' =>
      (e = .returned (.bool true) ∧ J (pre ++ [x]) W' ∧ KeepsWalks W1 W') ∨ (e = .returned (.bool false) ∧ Jx (pre ++ [x]) W'))
    (h0 : J [] W) :
    CallsIn Fence.wide n Tryz.prog 165 #[.func (.yield y) #[] #[], .pointer (some ⟨Bm, 0, none⟩)] W fun e W' => (∃ v, e = .returned v) ∧
      ((∃ xs : List Int, xs.Perm (l.map (·.1)) ∧ J xs W') ∨ (∃ pre, True ∧ Jx pre W')) := by
  have HJ := Lib.hid hJ
  have HY := Lib.hid hY
  clear hJ hY
  refine callsIn_of_wp Tryz.func165 rfl trivial ?_ rfl
  simp only [Tryz.ntmps165, List.size_toArray, List.length_cons, List.length_nil, Nat.reduceAdd, Nat.reduceSub, Array.replicate_succ, Array.replicate_zero, List.push_toArray, List.append_toArray, List.nil_append, List.cons_append]
  gi_wp2_with (first | (gi_at_range; refine wpListIn_range_I (q := .u8) rfl (.tmp 4) 166 rfl 5 188 Tryz.underlying166 B l rfl hmap ?_; intro ob hri) | gi_in)
  have h1 := HJ.out _ _ _ _ h0 (World.grownBy_alloc W ob none) (fun r e => by cases e)
  obtain ⟨W0, hW0⟩ : ∃ v, v = W.alloc ob := ⟨_, rfl⟩
  rw [← hW0] at hri h1 ⊢
  have HRI := Lib.hid hri
  have H1 := Lib.hid h1
  clear hri h1 hW0
  go_frame
  gi_loopw [3] (fun _ wr => ∃ (rz : List (Int × Value)) (ss : List Int), (ss ++ rz.map (·.1)).Perm (l.map (·.1)) ∧ RangeI .u8 wr B W.heap.size l rz ∧ J ss wr) (fun _ wr => wr.rangeLeft B W.heap.size)
  case atStart => exact ⟨l, [], by simp, HRI.out, H1.out⟩
  case round =>
    obtain ⟨rz, ss, hp, hri, hj⟩ := hrel
    have HP := Lib.hid hp
    have HJS := Lib.hid hj
    have HL := Lib.hid hri.left_eq
    have HRR := Lib.hid hri
    clear hp hj hri
    gi_wp2_with (first | (gi_at_next; refine wpListIn_next_I (q := .u8) rfl (.tmp 5) rfl B W.heap.size l rz rfl HRR.out ?_ ?_) | gi_in)
    · intro hz
      subst hz
      gi_wp2
      go_end0
      exact ⟨⟨_, rfl⟩, .inl ⟨ss, by simpa using HP.out, HJS.out⟩⟩
    · intro pre a b post w' hrz hri2 hgrow hsize hentry
      have hJ2 := HJ.out ss wr w' (some W.heap.size) HJS.out hgrow (fun r e => by cases e; exact ⟨Nat.le_refl _, HRR.out.walk⟩)
      have hlen : ss.length < l.length := by
        have := HP.out.length_eq
        rw [hrz] at this
        simp at this
        omega
      obtain ⟨fn, tmps, assign, body, hy, hR⟩ := HY.out ss a w' hJ2 hlen
      have HRZ := Lib.hid hrz
      have HR2 := Lib.hid hri2
      clear hsize hrz hri2 hJ2 hgrow
      unfold u8v at hy
      gi_wp2
      refine hR.mono ?_
      rintro e W3 (⟨rfl, hJ3, hk3⟩ | ⟨rfl, hJx3⟩)
      · have H3 := Lib.hid (And.intro hJ3 (HR2.out.walks hk3))
        clear hJ3 hk3
        gi_wp2
        go_roundw
        case rel =>
          refine ⟨pre ++ post, ss ++ [a], ?_, H3.out.2, H3.out.1⟩
          refine List.Perm.trans ?_ HP.out
          rw [HRZ.out]
          simp only [List.map_append, List.map_cons, List.append_assoc, List.cons_append, List.nil_append]
          exact List.Perm.append_left _ (List.perm_middle.symm)
        case measure =>
          rw [H3.out.2.left_eq, HL.out, HRZ.out]
          simp
      · gi_wp2
        refine bodyPost_ret (results_none rfl _ _ _) rfl ?_
        exact ⟨⟨_, rfl⟩, .inr ⟨ss ++ [a], trivial, hJx3⟩⟩
theorem keys_any (B : Nat) (w : World) : Calls Tryz.prog 129 #[.map (some B)] w fun e w' => e = .returned (.func (.func 165) #[] #[.pointer (some ⟨w.heap.size, 0, none⟩)]) ∧ w' = w.alloc (.cells #[.map (some B)] 166) := by
  go_enter Tryz.func129, Tryz.ntmps129
  go_wp2
  go_ret
  exact ⟨rfl, rfl⟩
/-- The iterator that maps.Keys hands back. -/
theorem keys_stops (n : Nat) (hn : 1 ≤ n) (Bm B : Nat) (l : List (Int × Value)) (w : World) (hBm : Bm < w.heap.size) (hm : w.cell? ⟨Bm, 0, none⟩ = some (.map (some B))) (hmap : MapI .u8 w B l) :
    SeqStopsK Fence.wide n Tryz.prog 165 #[.pointer (some ⟨Bm, 0, none⟩)] (fun x : Int => #[u8v x]) KeepsWalks (fun ys => ys.Perm (l.map (·.1))) (fun _ => True) l.length w := fun y J Jx W hW hJ _ hY h0 =>
  keys1_in n hn y Bm B l J Jx W hJ ((hW.cell (p := ⟨Bm, 0, none⟩) hBm).trans hm) (hmap.of_block (hW.block B hmap.lt)) hY h0
end Go.Proofs.YtdnalhjdmlkbmaaGreatDoor
namespace Go.Proofs.YtdnalhjdmlkbmaaGreatDoor
open Go.RowKit Go.Shelf
attribute [local go_sem] Oper.semAt_some
set_option linter.unusedVariables false
theorem info8 : (Tryz.prog.info? 5).map (fun i => (i.zero, i.size, i.bytes)) = some (some (.int .u8 0), 1, 1) := by kernel_rfl
/-- What has been collected: the keys, in some order, in a row of the call's own. -/
def GotU8 (w : World) (l : List (Int × Value)) (e : Ending) (w' : World) : Prop :=
  ∃ (v : Value) (ss : List Int), e = .returned v ∧ ss.Perm (l.map (·.1)) ∧ w'.ownsRow w.heap.size 5 1 v ss.length (ss.map u8v) ∧ (v = .slice none 0 0 ↔ ss = []) ∧ Below w.heap.size w w'
set_option maxRecDepth 100000 in
set_option maxHeartbeats 2000000 in
theorem appendSeq_in (Bm B : Nat) (l : List (Int × Value)) (hlen : l.length ≤ 1000000) (w : World) (hBm : Bm < w.heap.size) (hm : w.cell? ⟨Bm, 0, none⟩ = some (.map (some B))) (hmap : MapI .u8 w B l) :
    CallsIn Fence.wide 5 Tryz.prog 195 #[.slice none 0 0, .func (.func 165) #[] #[.pointer (some ⟨Bm, 0, none⟩)]] w (GotU8 w l) := by
  obtain ⟨i0, hi, hz0, hz1, hz2⟩ := info_parts info8
  refine callsIn_of_wp_marks Tryz.func195 rfl trivial ?_ rfl
  simp only [Tryz.ntmps195, List.size_toArray, List.length_cons, List.length_nil, Nat.reduceAdd, Nat.reduceSub, Array.replicate_succ, Array.replicate_zero, List.push_toArray, List.append_toArray, List.nil_append, List.cons_append]
  gi_wp2_with (fail)
  have bO := Boxed.new w 30 (.slice none 0 0)
  have hB0 : Below w.heap.size w (w.alloc (.cells #[.slice none 0 0] 30)) := (Below.refl _ w).alloc (Nat.le_refl _) _
  have hm0 : (w.alloc (.cells #[.slice none 0 0] 30)).cell? ⟨Bm, 0, none⟩ = some (.map (some B)) := (hB0.cell (p := ⟨Bm, 0, none⟩) hBm).trans hm
  have hmap0 : MapI .u8 (w.alloc (.cells #[.slice none 0 0] 30)) B l := hmap.of_block (heap_past _ _ _ hmap.lt)
  refine wpIn_rangeFunc_ownG rfl (by omega) (gf := 165) (lb := #[.pointer (some ⟨Bm, 0, none⟩)]) rfl trivial (enters_of Tryz.func165 (by kernel_rfl) rfl)
    (keys_stops 4 (by omega) Bm B l _ (by simp; omega) hm0 hmap0) walksK_t walksK_b (Below.refl _ _) (fun _ => rfl)
    (fun pre W => (∃ v, Boxed W w.heap.size 30 v ∧ W.ownsRow w.heap.size 5 1 v pre.length (pre.map u8v) ∧ (v = .slice none 0 0 ↔ pre = [])) ∧ Below w.heap.size w W)
    (fun _ _ _ => False)
    (OwnFrom.and (Own.from (holdsRow_own w.heap.size w.heap.size 30 5 1 (fun pre => pre.length) (fun pre => pre.map u8v) (fun pre v => v = .slice none 0 0 ↔ pre = [])) _) (ownFrom_below (Nat.le_refl _) (by simp)))
    (fun _ _ _ _ _ hs _ _ => hs)
    ⟨⟨_, bO, World.ownsRow_nil _ _ _ _, by simp⟩, hB0⟩
    (fun x => { tmps := #[.slice none 0 0, .func (.func 165) #[] #[.pointer (some ⟨Bm, 0, none⟩)], .pointer (some ⟨w.heap.size, 0, none⟩), undef, .slice none 0 0, u8v x, .func (.func 165) #[] #[.pointer (some ⟨Bm, 0, none⟩)], u8v x, undef, undef, undef, undef, undef], defers := [] }) ?assign ?body ?done ?stop
  case assign =>
    intro y x W K hK
    gi_wp2
    exact hK
  case body =>
    rintro y pre x W ⟨⟨v, hv, hrow, hnil⟩, hB⟩ hlt
    have hc := hv.cell
    unfold u8v
    gi_wp2_with (gi_at_builtin; refine wpListIn_append_own _ rfl _ _ 30 rfl w.heap.size 5 i0 (.int .u8 0) 1 1 Tryz.underlying30 hi hz0 hz1 hz2 rfl (by decide) _ _ _ rfl (hrow.alloc _) ⟨W.heap.size, 0, none⟩ 1 1 [.int .u8 x] rfl rfl (cell_one_new _ _ _) (by simp [Value.oneCell']) (by unfold maxLen; omega) (by omega) (by have := hB.size; simp; omega) ?_; intro v' w1 hown' hgrow _; obtain ⟨g', cap', rfl⟩ := ownsRow_succ hown'; obtain ⟨hv1, hv2, hr2, hk2, hb2⟩ := hv.appended (by decide) hrow hB.size (Nat.le_refl _) hown' hgrow; have hc1 := hv1.cell; have hf1 := hv1.frozen)
    exact ⟨hk2.from _, hk2.walks, ⟨_, hv2, by rw [List.length_append, List.map_append]; exact hr2, by simp⟩, hB.trans hb2⟩
  case done =>
    rintro D ys W hD hperm ⟨⟨v, hv, hrow, hnil⟩, hB⟩ hK
    have hc := hv.cell
    have HPm := Lib.hid hperm
    have HN := Lib.hid hnil
    clear hperm hnil
    gi_wp2
    refine ⟨by simp, .inl ⟨_, _, rfl, run_takeDeferred hK, ?_⟩⟩
    exact ⟨_, results_tmp rfl _ _ _, v, ys, rfl, HPm.out, ownsRow_putObj hrow _ hK rfl, HN.out, hB.trans (belowK_b (w := w) (Nat.le_refl _) W D _ _ (by simp at hD; omega) hK rfl rfl)⟩
  case stop =>
    rintro D c pre W _ _ h _
    exact h.elim
set_option maxHeartbeats 1000000 in
theorem collect_any (Bm B : Nat) (l : List (Int × Value)) (hlen : l.length ≤ 1000000) (w : World) (hBm : Bm < w.heap.size) (hm : w.cell? ⟨Bm, 0, none⟩ = some (.map (some B))) (hmap : MapI .u8 w B l) :
    Calls Tryz.prog 163 #[.func (.func 165) #[] #[.pointer (some ⟨Bm, 0, none⟩)]] w (GotU8 w l) := by
  have hA := callsIn_wide.1 (appendSeq_in Bm B l hlen w hBm hm hmap)
  go_enter Tryz.func163, Tryz.ntmps163
  go_wp2_with fail
  refine hA.mono ?_
  rintro e w' ⟨v, ss, rfl, h1, h2, h3, h4⟩
  go_wp2_with fail
  go_ret
  exact ⟨v, ss, rfl, h1, h2, h3, h4⟩
end Go.Proofs.YtdnalhjdmlkbmaaGreatDoor
namespace Go.Proofs.YtdnalhjdmlkbmaaGreatDoor
open Go.RowKit
set_option linter.unusedVariables false
theorem nan_any (x : Int) (w : World) : Calls Tryz.prog 221 #[.int .u8 x] w fun e w' => e = .returned (.bool false) ∧ w = w' := by
  go_enter Tryz.func221, Tryz.ntmps221
  go_wp2
  go_ret
  exact ⟨by simp, rfl⟩
theorem less_any (x y : Int) (w : World) : Calls Tryz.prog 211 #[.int .u8 x, .int .u8 y] w fun e w' => e = .returned (.bool (decide (x < y))) ∧ w' = w := by
  go_enter Tryz.func211, Tryz.ntmps211
  go_wp2_with fail
  refine (nan_any x w).mono ?_
  rintro e w' ⟨rfl, rfl⟩
  go_wp2_with fail
  go_ret
  exact ⟨rfl, rfl⟩
def sort2 (a b : Int) : List Int := if b < a then [b, a] else [a, b]
set_option maxRecDepth 100000 in
set_option maxHeartbeats 2000000 in
theorem insertion2 (G : Nat → Nat) (i g c : Nat) (a b : Int) (w : World) (h : Row 5 1 w G i (.slice (some ⟨g, 0, none⟩) 2 c) 2 ([a, b].map u8v)) :
    Calls Tryz.prog 205 #[.slice (some ⟨g, 0, none⟩) 2 c, .int .i64 0, .int .i64 2] w fun e w' => e = .returned (.tuple #[]) ∧ Adv (fun o => o = i) w G w' G ∧ Row 5 1 w' G i (.slice (some ⟨g, 0, none⟩) 2 c) 2 ((sort2 a b).map u8v) := by
  have H := Lib.hid h
  have hw0 : IntKind.i64.wrap 0 = 0 := by decide
  clear h
  go_enter Tryz.func205, Tryz.ntmps205
  go_wp2_with fail
  go_loopw [6] (fun v6 wr => ∃ k : Nat, v6 = .int .i64 k ∧ 1 ≤ k ∧ k ≤ 2 ∧ Adv (fun o => o = i) w G wr G ∧ Row 5 1 wr G i (.slice (some ⟨g, 0, none⟩) 2 c) 2 ((if k = 1 then [a, b] else sort2 a b).map u8v)) (fun v6 _ => 2 - (intOf v6).toNat)
  case atStart => exact ⟨1, rfl, by omega, by omega, Adv.refl _ _ _, by simpa using H.out⟩
  case round =>
    obtain ⟨k, rfl, k1, k2, ha, hr⟩ := hrel
    by_cases hk : k = 1
    · subst hk
      have HA := Lib.hid ha
      have HR := Lib.hid (show Row 5 1 wr G i (.slice (some ⟨g, 0, none⟩) 2 c) 2 ([a, b].map u8v) from by simpa using hr)
      clear ha hr H k1 k2
      go_wp2_with fail
      go_loopw [7] (fun v7 wq => (v7 = .int .i64 1 ∧ Adv (fun o => o = i) w G wq G ∧ Row 5 1 wq G i (.slice (some ⟨g, 0, none⟩) 2 c) 2 ([a, b].map u8v)) ∨ (v7 = .int .i64 0 ∧ b < a ∧ Adv (fun o => o = i) w G wq G ∧ Row 5 1 wq G i (.slice (some ⟨g, 0, none⟩) 2 c) 2 ([b, a].map u8v))) (fun v7 _ => (intOf v7).toNat)
      case atStart => exact .inl ⟨rfl, HA.out, HR.out⟩
      case round =>
        clear HA HR
        rcases hrel with ⟨rfl, ha, hr⟩ | ⟨rfl, hba, ha, hr⟩
        · have HA := Lib.hid ha
          have HR := Lib.hid hr
          obtain ⟨hg, -, hfz, hc⟩ := hr.at (by omega)
          have c0 := hc 0 (.int .u8 a) rfl
          have c1 := hc 1 (.int .u8 b) rfl
          have f0 := hfz 0
          have f1 := hfz 1
          clear ha hr hc hfz
          by_cases hlt : b < a
          · have hd : decide (b < a) = true := by simpa using hlt
            have HLT := Lib.hid hlt
            clear hlt
            go_wp2_with fail
            go_quiet (first | (go_at_call 211; refine Calls.quiet_of_same (less_any _ _ _)))
            go_wp2_with fail
            go_region
            all_goals
              have R1 := HR.out.adv ((Adv.refl (fun _ => False) wr G).drewN (nq + 1)) id
              go_wp2_with fail
              first
                | (have s1 := R1.store 1 (by simp) (.int .u8 a)
                   have s2 := s1.2.store 0 (by simp) (.int .u8 b)
                   have S2 := Lib.hid (And.intro (s1.1.trans s2.1) s2.2)
                   clear s1 s2 R1
                   exact ⟨.inr ⟨rfl, HLT.out, (HA.out.drewN (nq + 1)).trans S2.out.1, S2.out.2⟩, by simp [intOf]⟩)
                | (have s1 := R1.store 0 (by simp) (.int .u8 b)
                   have s2 := s1.2.store 1 (by simp) (.int .u8 a)
                   have S2 := Lib.hid (And.intro (s1.1.trans s2.1) s2.2)
                   clear s1 s2 R1
                   exact ⟨.inr ⟨rfl, HLT.out, (HA.out.drewN (nq + 1)).trans S2.out.1, S2.out.2⟩, by simp [intOf]⟩)
          · have hd : decide (b < a) = false := by simpa using hlt
            have HLT := Lib.hid hlt
            clear hlt
            go_wp2_with fail
            go_quiet (first | (go_at_call 211; refine Calls.quiet_of_same (less_any _ _ _)))
            go_wp2_with fail
            go_roundw
            case rel => exact ⟨2, rfl, by omega, by omega, HA.out.drewN _, by rw [if_neg (by decide), show sort2 a b = [a, b] from if_neg (by have := HLT.out; omega)]; exact HR.out.adv ((Adv.refl (fun _ => False) _ G).drewN _) id⟩
            case measure => simp [intOf]
        · have HA := Lib.hid ha
          have HR := Lib.hid hr
          have HLT := Lib.hid hba
          clear ha hr hba
          go_wp2_with fail
          go_quiet (fail)
          go_wp2_with fail
          go_roundw
          case rel => exact ⟨2, rfl, by omega, by omega, HA.out.drewN _, by rw [if_neg (by decide), show sort2 a b = [b, a] from if_pos HLT.out]; exact HR.out.adv ((Adv.refl (fun _ => False) _ G).drewN _) id⟩
          case measure => simp [intOf]
    · obtain rfl : k = 2 := by omega
      have HA := Lib.hid ha
      have HR := Lib.hid hr
      clear ha hr
      go_wp2_with fail
      go_end0
      exact ⟨rfl, HA.out, by simpa using HR.out⟩
end Go.Proofs.YtdnalhjdmlkbmaaGreatDoor
namespace Go.Proofs.YtdnalhjdmlkbmaaGreatDoor
open Go.RowKit
set_option linter.unusedVariables false
set_option maxRecDepth 100000 in
theorem len64_2 (w : World) : Calls Tryz.prog 215 #[.int .u64 2] w fun e w' => e = .returned (.int .i64 2) ∧ w = w' := by
  go_enter Tryz.func215, Tryz.ntmps215
  go_wp2
  go_ret
  exact ⟨by kernel_rfl, rfl⟩
theorem len_2 (w : World) : Calls Tryz.prog 197 #[.int .u64 2] w fun e w' => e = .returned (.int .i64 2) ∧ w = w' := by
  go_enter Tryz.func197, Tryz.ntmps197
  go_wp2_with fail
  refine (len64_2 w).mono ?_
  rintro e w' ⟨rfl, rfl⟩
  go_wp2_with fail
  go_ret
  exact ⟨rfl, rfl⟩
/-- What a sort of two leaves. -/
def Sort2Is (G : Nat → Nat) (i g c : Nat) (a b : Int) (w : World) (e : Ending) (w' : World) : Prop :=
  e = .returned (.tuple #[]) ∧ Adv (fun o => o = i) w G w' G ∧ Row 5 1 w' G i (.slice (some ⟨g, 0, none⟩) 2 c) 2 ((sort2 a b).map u8v)
set_option maxRecDepth 100000 in
set_option maxHeartbeats 1000000 in
theorem pdq2 (G : Nat → Nat) (i g c : Nat) (a b : Int) (w : World) (h : Row 5 1 w G i (.slice (some ⟨g, 0, none⟩) 2 c) 2 ([a, b].map u8v)) :
    Calls Tryz.prog 196 #[.slice (some ⟨g, 0, none⟩) 2 c, .int .i64 0, .int .i64 2, .int .i64 2] w (Sort2Is G i g c a b w) := by
  have H := Lib.hid h
  clear h
  go_enter Tryz.func196, Tryz.ntmps196
  go_wp2_with fail
  go_loopw [1, 2, 3] (fun v1 v2 v3 wr => v1 = .int .i64 0 ∧ v2 = .int .i64 2 ∧ v3 = .int .i64 2 ∧ wr = w) (fun _ _ _ _ => 0)
  case atStart => exact ⟨rfl, rfl, rfl, rfl⟩
  case round =>
    obtain ⟨rfl, rfl, rfl, rfl⟩ := hrel
    go_wp2_with fail
    refine (insertion2 G i g c a b _ H.out).mono ?_
    rintro e w' ⟨rfl, h1, h2⟩
    have H2 := Lib.hid (And.intro h1 h2)
    clear h1 h2
    go_wp2_with fail
    refine bodyPost_ret (results_none rfl _ _ _) rfl ?_
    exact ⟨rfl, H2.out.1, H2.out.2⟩
set_option maxHeartbeats 1000000 in
theorem sort_2 (G : Nat → Nat) (i g c : Nat) (a b : Int) (w : World) (h : Row 5 1 w G i (.slice (some ⟨g, 0, none⟩) 2 c) 2 ([a, b].map u8v)) :
    Calls Tryz.prog 164 #[.slice (some ⟨g, 0, none⟩) 2 c] w (Sort2Is G i g c a b w) := by
  have H := Lib.hid h
  clear h
  go_enter Tryz.func164, Tryz.ntmps164
  go_wp2_with fail
  refine (len_2 w).mono ?_
  rintro e w' ⟨rfl, rfl⟩
  go_wp2_with fail
  refine (pdq2 G i g c a b _ H.out).mono ?_
  rintro e w' ⟨rfl, h1, h2⟩
  have H2 := Lib.hid (And.intro h1 h2)
  clear h1 h2
  go_wp2_with fail
  go_end0
  exact ⟨rfl, H2.out.1, H2.out.2⟩
/-- The keys of a map with two entries, sorted, in new memory. -/
def KeysIs (w : World) (G : Nat → Nat) (a b : Int) (e : Ending) (w' : World) : Prop :=
  ∃ g c G', e = .returned (.slice (some ⟨g, 0, none⟩) 2 c) ∧ Adv (fun _ => False) w G w' G' ∧ Row 5 1 w' G' 0 (.slice (some ⟨g, 0, none⟩) 2 c) 2 ((sort2 a b).map u8v)
theorem sort2_comm (a b : Int) : sort2 a b = sort2 b a := by
  unfold sort2
  by_cases h1 : b < a
  · rw [if_pos h1, if_neg (by omega)]
  · by_cases h2 : a < b
    · rw [if_neg h1, if_pos h2]
    · obtain rfl : a = b := by omega
      rfl
set_option maxHeartbeats 1000000 in
theorem sorted_2 (G : Nat → Nat) (Bm B : Nat) (l : List (Int × Value)) (a b : Int) (hl : l.map (·.1) = [a, b]) (w : World) (hBm : Bm < w.heap.size) (hm : w.cell? ⟨Bm, 0, none⟩ = some (.map (some B))) (hmap : MapI .u8 w B l) :
    Calls Tryz.prog 128 #[.func (.func 165) #[] #[.pointer (some ⟨Bm, 0, none⟩)]] w (KeysIs w G a b) := by
  have hll : l.length = 2 := by have := congrArg List.length hl; simpa using this
  have hC := collect_any Bm B l (by omega) w hBm hm hmap
  go_enter Tryz.func128, Tryz.ntmps128
  go_wp2_with fail
  refine hC.mono ?_
  rintro e w1 ⟨v, ss, rfl, hp, hrow, hnil, hbelow⟩
  rw [hl] at hp
  have hs2 : ss.length = 2 := hp.length_eq
  obtain ⟨x, y, rfl⟩ : ∃ x y, ss = [x, y] := by
    match ss, hs2 with
    | [x, y], _ => exact ⟨x, y, rfl⟩
  have hxy : sort2 x y = sort2 a b := by
    have h1 : x ∈ [a, b] := hp.mem_iff.1 (by simp)
    simp only [List.mem_cons, List.not_mem_nil, or_false] at h1
    rcases h1 with rfl | rfl
    · have := (List.perm_cons x).1 hp
      obtain rfl : y = b := by simpa using this
      rfl
    · have h2 := hp.trans (List.Perm.swap x a [])
      have := (List.perm_cons x).1 h2
      obtain rfl : y = a := by simpa using this
      exact sort2_comm _ _
  obtain ⟨g, c, rfl⟩ : ∃ g c, v = .slice (some ⟨g, 0, none⟩) 2 c := ownsRow_succ hrow
  have hg : w.heap.size ≤ g := by
    rcases hrow.2 with ⟨h, _⟩ | ⟨g', cap, cur, h, hb, _⟩
    · cases h
    · cases h; exact hb
  have HR := Lib.hid (show Row 5 1 w1 (fun b => if b < w.heap.size then 0 else 5) 5 (.slice (some ⟨g, 0, none⟩) 2 c) 2 ([x, y].map u8v) from ⟨⟨hrow.1, by
    rcases hrow.2 with ⟨h, _⟩ | ⟨g', cap, cur, h, hb, h3⟩
    · cases h
    · exact .inr ⟨g', cap, cur, h, Nat.zero_le _, h3⟩⟩, fun b hb => by cases hb; show (if g < w.heap.size then 0 else 5) = 5; rw [if_neg (by omega)]⟩)
  have HB := Lib.hid (And.intro hbelow (And.intro hg hxy))
  clear hp hrow hnil hbelow hg hxy hC hmap hm hl hs2
  go_wp2_with fail
  refine (sort_2 _ 5 g c x y _ HR.out).mono ?_
  rintro e w2 ⟨rfl, h1, h2⟩
  have H2 := Lib.hid (And.intro h1 h2)
  clear h1 h2
  go_wp2_with fail
  go_ret
  refine ⟨g, c, fun b => if b < w.heap.size then G b else 0, rfl, ?_, ?_⟩
  · have hb := HB.out.1
    have a2 := H2.out.1
    exact ⟨a2.os.trans hb.os, a2.tape.trans hb.tape, a2.output.trans hb.output, Nat.le_trans hb.size a2.size, fun b hlt => if_pos hlt, fun b hlt _ => (a2.keep b (Nat.lt_of_lt_of_le hlt hb.size) (by rw [if_pos hlt]; decide)).trans (hb.block b hlt)⟩
  · have h2 := H2.out.2
    rw [HB.out.2.2] at h2
    exact ⟨h2.row, fun b hb => by cases hb; show (if g < w.heap.size then G g else 0) = 0; rw [if_neg (by have := HB.out.2.1; omega)]⟩
end Go.Proofs.YtdnalhjdmlkbmaaGreatDoor
namespace Go.Proofs.YtdnalhjdmlkbmaaGreatDoor
open Go.RowKit
set_option linter.unusedVariables false
/-- append of whatever is read to a row, as one step of a region that draws its order. -/
theorem step_append_any {P : Program} {ops : Array Oper} {o : Oper} {a : Act} {w : World} {K : Act → World → Prop} {Q : Exit → Act → World → Prop} {E : Prop}
    (hg : o.guard = none) (s x : Operand) (t : TypeId) (hop : o.op = Op.call { callee := Callee.builtin Builtin.append, args := #[s, x], argTypes := #[t, t] })
    (e : TypeId) (i : TypeInfo) (z : Value) (size bytes : Nat) (h1 : P.underlying t = some (.slice e)) (h2 : P.info? e = some i) (h3 : i.zero = some z) (h4 : i.size = size) (h5 : i.bytes = bytes) (h6 : z.cells.size = size) (h7 : 0 < size)
    (G : Nat → Nat) (q : Nat) (va : Option Addr) (n vc : Nat) (xs : List Value) (hs : a.eval s = .slice va n vc) (hrow : Row e size w G q (.slice va n vc) n xs)
    (xa : Option Addr) (m c : Nat) (news : List Value) (hx : a.eval x = .slice xa m c) (hn : news.length = m * size) (hc : Reads w xa news) (h1c : ∀ u ∈ news, u.oneCell' = true)
    (b1 : n + m ≤ maxLen) (b2 : (n + m) * bytes ≤ 140737488355328)
    (hK : ∀ va' vc' w' G', Row e size w' G' q (.slice va' (n + m) vc') (n + m) (xs ++ news) → Adv (· = q) w G w' G' → K (a.put o.dst (.slice va' (n + m) vc')) w') :
    if Region.wanted o (yielded ops a.tmps) = true then Oper.wp P o a w K Q else E := by
  by_cases hm : m = 0 ∧ xa = none
  · obtain ⟨rfl, rfl⟩ := hm
    obtain rfl : news = [] := List.eq_nil_of_length_eq_zero (by simpa using hn)
    have hw : Region.wanted o (yielded ops a.tmps) = true := by simp [Region.wanted, hg]
    rw [if_pos hw]
    have hnc : n ≤ vc := by
      obtain ⟨a', c', e1, _, h2, _⟩ := hrow.slice
      cases e1; exact h2
    have hr := run_append_nothing (P := P) w t o.type e i h1 h2 va n vc c hnc
    unfold Oper.wp
    simp [execOp, hop, resolve, invoke, builtin, hs, hx, hr, Result.andThen]
    exact hK va vc w G (by simpa using hrow) (Adv.refl _ _ _)
  · obtain ⟨ad, rfl, hn2⟩ : ∃ ad, xa = some ad ∧ ∀ j u, news[j]? = some u → w.cell? (ad.add j) = some u := by
      rcases hc with rfl | ⟨b, o, rfl, hr⟩
      · cases xa with
        | none =>
          exfalso
          apply hm
          refine ⟨?_, rfl⟩
          rcases Nat.eq_zero_or_pos m with h | h
          · exact h
          · exfalso
            have : 0 < m * size := Nat.mul_pos h h7
            simp at hn; omega
        | some ad => exact ⟨ad, rfl, fun j u hu => by simp at hu⟩
      · exact ⟨_, rfl, Reads.add hr⟩
    exact step_append_row hg s x t hop e i z size bytes h1 h2 h3 h4 h5 h6 h7 G q va n vc xs hs hrow ad m c news hx hn hn2 h1c b1 b2 hK
end Go.Proofs.YtdnalhjdmlkbmaaGreatDoor
namespace Go.Proofs.YtdnalhjdmlkbmaaGreatDoor
open Go.RowKit
set_option linter.unusedVariables false
/-- Bytes in new memory. -/
def NewB (w : World) (G : Nat → Nat) (p n : Nat) (l : List Int) (e : Ending) (w' : World) : Prop := ∃ va c G', e = .returned (.slice va n c) ∧ Adv (fun _ => False) w G w' G' ∧ Row 5 1 w' G' p (.slice va n c) n (u8s l)
set_option maxRecDepth 100000 in
set_option maxHeartbeats 400000 in
theorem clone_bytes (G : Nat → Nat) (p : Nat) (a : Addr) (n c : Nat) (l : List Int) (hn : n ≤ 1000000) (w : World) (hl : l.length = n) (hr : Reads w (some a) (u8s l)) :
    Calls Tryz.prog 127 #[.slice (some a) n c] w (NewB w G p n l) := by
  obtain ⟨i0, hi, hz0, hz1, hz2⟩ := info_parts info8
  have hE := fun (w : World) (a : Option Addr) (l c : Nat) => Lib.run_eql_slice_nil (P := Tryz.prog) w 30 5 a l c 0 0 Tryz.underlying30
  have HX := Lib.hid (hr.alloc (.cells #[] 5))
  have HA0 := Lib.hid ((Adv.refl (fun b => b = 9) w (fun _ => 0)).alloc (.cells #[] 5) 9)
  have HR0 := Lib.hid (Row.new w (fun _ => 0) 5 1 9 0 [] (Nat.zero_le _) rfl)
  have HL := Lib.hid hl
  clear hr hl
  go_enter Tryz.func127, Tryz.ntmps127
  go_wp2_with (at_builtin; refine wpList_append_reads rfl (.tmp 5) (.tmp 6) 30 rfl 5 i0 (.int .u8 0) 1 1 Tryz.underlying30 hi hz0 hz1 hz2 rfl (by decide) _ 9 (some ⟨w.heap.size, 0, none⟩) 0 0 [] rfl HR0.out (some a) n c (u8s l) rfl (by rw [u8s_length, HL.out, Nat.mul_one]) HX.out (u8s_one l) (by unfold maxLen; omega) (by omega) ?_; intro va1 vc1 w1 G1 h1 h2; rw [Nat.zero_add, List.nil_append] at h1; rw [Nat.zero_add]; have HR1 := Lib.hid h1; have HA1 := Lib.hid (HA0.out.trans h2); clear h1 h2)
  go_ret
  exact ⟨va1, vc1, _, rfl, fresh_row HA1.out HR1.out G p⟩
end Go.Proofs.YtdnalhjdmlkbmaaGreatDoor
namespace Go.Proofs.YtdnalhjdmlkbmaaGreatDoor
open Go.RowKit
set_option linter.unusedVariables false
def imageV (ba : Option Addr) (bn bc : Nat) (ra : Option Addr) (rc : Nat) (sb : Nat) (m : MemS) : Value :=
  .agg #[.slice ba bn bc, .slice ra 16384 rc, .slice (some ⟨sb, 0, none⟩) 3072 3072, .int .u8 m.chosen, .int .u8 m.pad, .int .u16 m.pitch, .int .u8 m.volume, .int .u16 m.time]
/-- One bank of an image. -/
def BankAt (w : World) (G : Nat → Nat) (va : Option Addr) (n : Nat) (p : Int × List Int) (cs : List Value) : Prop :=
  ∃ da dc, cs = [.int .i64 p.1, .slice da n dc] ∧ Row 5 1 w G 0 (.slice da n dc) n (u8s p.2)
theorem PMx.ports5 {w : World} {G : Nat → Nat} {q D B : Nat} {bs : List Nat} {tv : Value} {m : MemS} (h : PMx w G q D B bs tv m) (hm : MemOk m) :
    w.cell? ⟨D, 19457, none⟩ = some (.int .u8 m.chosen) ∧ w.cell? ⟨D, 19458, none⟩ = some (.int .u8 m.pad) ∧ w.cell? ⟨D, 19459, none⟩ = some (.int .u8 m.volume) ∧ w.cell? ⟨D, 19460, none⟩ = some (.int .u16 m.pitch) ∧ w.cell? ⟨D, 19461, none⟩ = some (.int .u16 m.time) := by
  obtain ⟨p0, p1, p2, p3, p4, -, -⟩ := h.ports hm
  exact ⟨p0, p1, p2, p3, p4⟩
theorem PMx.ramR {w : World} {G : Nat → Nat} {q D B : Nat} {bs : List Nat} {tv : Value} {m : MemS} (h : PMx w G q D B bs tv m) (hm : MemOk m) : Reads w (some ⟨D, 1, none⟩) (u8s m.ram) := by
  refine .inr ⟨D, 1, rfl, fun j u hu => ?_⟩
  have hj : j < 16384 := by have := (List.getElem?_eq_some_iff.1 hu).1; rwa [u8s_length, hm.ram] at this
  have h1 := h.ramc hm j hj
  have h2 : (u8s m.ram)[j]? = some (.int .u8 (m.ram.getD j 0)) := u8s_at _ j _ (by rw [List.getD_eq_getElem?_getD]; simp [hm.ram, hj])
  rw [h2] at hu
  cases hu
  exact h1
/-- A block of eight cells of a call's own is written whole. -/
theorem own8 {w : World} {G : Nat → Nat} (b : Nat) (hb : G b = 1000) (v0 v1 v2 v3 v4 v5 v6 v7 : Value) : Adv (fun o => o = 1000) w G ((((((((w.setCell ⟨b, 0, none⟩ v0).setCell ⟨b, 1, none⟩ v1).setCell ⟨b, 2, none⟩ v2).setCell ⟨b, 3, none⟩ v3).setCell ⟨b, 4, none⟩ v4).setCell ⟨b, 5, none⟩ v5).setCell ⟨b, 6, none⟩ v6).setCell ⟨b, 7, none⟩ v7) G :=
  ((((((((Adv.refl (fun o => o = 1000) w G).setCell (p := ⟨b, 0, none⟩) hb v0).setCell (p := ⟨b, 1, none⟩) hb v1).setCell (p := ⟨b, 2, none⟩) hb v2).setCell (p := ⟨b, 3, none⟩) hb v3).setCell (p := ⟨b, 4, none⟩) hb v4).setCell (p := ⟨b, 5, none⟩) hb v5).setCell (p := ⟨b, 6, none⟩) hb v6).setCell (p := ⟨b, 7, none⟩) hb v7
theorem setB {w : World} {b : Nat} {C : Array Value} {T : TypeId} (h : w.heap[b]? = some (.cells C T (0, 0))) (k : Nat) (v : Value) : (w.setCell ⟨b, k, none⟩ v).heap[b]? = some (.cells (C.setIfInBounds k v) T (0, 0)) := by
  simp only [World.setCell, Array.getElem?_modify, h]; simp
theorem put8 {w : World} {b : Nat} {u0 u1 u2 u3 u4 u5 u6 u7 : Value} {T : TypeId} (h : w.heap[b]? = some (.cells #[u0, u1, u2, u3, u4, u5, u6, u7] T (0, 0))) (v0 v1 v2 v3 v4 v5 v6 v7 : Value) : ((((((((w.setCell ⟨b, 0, none⟩ v0).setCell ⟨b, 1, none⟩ v1).setCell ⟨b, 2, none⟩ v2).setCell ⟨b, 3, none⟩ v3).setCell ⟨b, 4, none⟩ v4).setCell ⟨b, 5, none⟩ v5).setCell ⟨b, 6, none⟩ v6).setCell ⟨b, 7, none⟩ v7).heap[b]? = some (.cells #[v0, v1, v2, v3, v4, v5, v6, v7] T (0, 0)) := by
  have h0 : (w.setCell ⟨b, 0, none⟩ v0).heap[b]? = some (.cells #[v0, u1, u2, u3, u4, u5, u6, u7] T (0, 0)) := setB h 0 v0
  have h1 : ((w.setCell ⟨b, 0, none⟩ v0).setCell ⟨b, 1, none⟩ v1).heap[b]? = some (.cells #[v0, v1, u2, u3, u4, u5, u6, u7] T (0, 0)) := setB h0 1 v1
  have h2 : (((w.setCell ⟨b, 0, none⟩ v0).setCell ⟨b, 1, none⟩ v1).setCell ⟨b, 2, none⟩ v2).heap[b]? = some (.cells #[v0, v1, v2, u3, u4, u5, u6, u7] T (0, 0)) := setB h1 2 v2
  have h3 : ((((w.setCell ⟨b, 0, none⟩ v0).setCell ⟨b, 1, none⟩ v1).setCell ⟨b, 2, none⟩ v2).setCell ⟨b, 3, none⟩ v3).heap[b]? = some (.cells #[v0, v1, v2, v3, u4, u5, u6, u7] T (0, 0)) := setB h2 3 v3
  have h4 : (((((w.setCell ⟨b, 0, none⟩ v0).setCell ⟨b, 1, none⟩ v1).setCell ⟨b, 2, none⟩ v2).setCell ⟨b, 3, none⟩ v3).setCell ⟨b, 4, none⟩ v4).heap[b]? = some (.cells #[v0, v1, v2, v3, v4, u5, u6, u7] T (0, 0)) := setB h3 4 v4
  have h5 : ((((((w.setCell ⟨b, 0, none⟩ v0).setCell ⟨b, 1, none⟩ v1).setCell ⟨b, 2, none⟩ v2).setCell ⟨b, 3, none⟩ v3).setCell ⟨b, 4, none⟩ v4).setCell ⟨b, 5, none⟩ v5).heap[b]? = some (.cells #[v0, v1, v2, v3, v4, v5, u6, u7] T (0, 0)) := setB h4 5 v5
  have h6 : (((((((w.setCell ⟨b, 0, none⟩ v0).setCell ⟨b, 1, none⟩ v1).setCell ⟨b, 2, none⟩ v2).setCell ⟨b, 3, none⟩ v3).setCell ⟨b, 4, none⟩ v4).setCell ⟨b, 5, none⟩ v5).setCell ⟨b, 6, none⟩ v6).heap[b]? = some (.cells #[v0, v1, v2, v3, v4, v5, v6, u7] T (0, 0)) := setB h5 6 v6
  have h7 : ((((((((w.setCell ⟨b, 0, none⟩ v0).setCell ⟨b, 1, none⟩ v1).setCell ⟨b, 2, none⟩ v2).setCell ⟨b, 3, none⟩ v3).setCell ⟨b, 4, none⟩ v4).setCell ⟨b, 5, none⟩ v5).setCell ⟨b, 6, none⟩ v6).setCell ⟨b, 7, none⟩ v7).heap[b]? = some (.cells #[v0, v1, v2, v3, v4, v5, v6, v7] T (0, 0)) := setB h6 7 v7
  exact h7
/-- A block that was made since is written. -/
theorem hid8 {S : Nat → Prop} {w w2 : World} {G G2 : Nat → Nat} (h : Adv S w G w2 G2) (b : Nat) (hb : w.heap.size ≤ b) (v0 v1 v2 v3 v4 v5 v6 v7 : Value) : Adv S w G ((((((((w2.setCell ⟨b, 0, none⟩ v0).setCell ⟨b, 1, none⟩ v1).setCell ⟨b, 2, none⟩ v2).setCell ⟨b, 3, none⟩ v3).setCell ⟨b, 4, none⟩ v4).setCell ⟨b, 5, none⟩ v5).setCell ⟨b, 6, none⟩ v6).setCell ⟨b, 7, none⟩ v7) G2 :=
  (((((((h.setNew (p := ⟨b, 0, none⟩) hb v0).setNew (p := ⟨b, 1, none⟩) hb v1).setNew (p := ⟨b, 2, none⟩) hb v2).setNew (p := ⟨b, 3, none⟩) hb v3).setNew (p := ⟨b, 4, none⟩) hb v4).setNew (p := ⟨b, 5, none⟩) hb v5).setNew (p := ⟨b, 6, none⟩) hb v6).setNew (p := ⟨b, 7, none⟩) hb v7
theorem past8 {w2 : World} (b k : Nat) (hk : k ≠ b) (v0 v1 v2 v3 v4 v5 v6 v7 : Value) : ((((((((w2.setCell ⟨b, 0, none⟩ v0).setCell ⟨b, 1, none⟩ v1).setCell ⟨b, 2, none⟩ v2).setCell ⟨b, 3, none⟩ v3).setCell ⟨b, 4, none⟩ v4).setCell ⟨b, 5, none⟩ v5).setCell ⟨b, 6, none⟩ v6).setCell ⟨b, 7, none⟩ v7).heap[k]? = w2.heap[k]? := by
  rw [Below.heap_setCell _ _ _ _ hk, Below.heap_setCell _ _ _ _ hk, Below.heap_setCell _ _ _ _ hk, Below.heap_setCell _ _ _ _ hk, Below.heap_setCell _ _ _ _ hk, Below.heap_setCell _ _ _ _ hk, Below.heap_setCell _ _ _ _ hk, Below.heap_setCell _ _ _ _ hk]
/-- Behind Image's first statement. -/
structure Shot (w0 w : World) (G0 G : Nat → Nat) (q D B : Nat) (bs : List Nat) (tv : Value) (m : MemS) (x : Nat) (ra : Option Addr) (rc sb : Nat) : Prop where
  ad : Adv (fun _ => False) w0 G0 w G
  mem : PMx w G q D B bs tv m
  blk : w.heap[x]? = some (.cells #[.slice none 0 0, .slice ra 16384 rc, .slice (some ⟨sb, 0, none⟩) 3072 3072, .int .u8 m.chosen, .int .u8 m.pad, .int .u16 m.pitch, .int .u8 m.volume, .int .u16 m.time] 161 (0, 0))
  own : G x = 1000
  new : w0.heap.size < x
  res : w.heap[w0.heap.size]? = some (.cells #[.slice none 0 0, .slice none 0 0, .slice none 0 0, .int .u8 0, .int .u8 0, .int .u16 0, .int .u8 0, .int .u16 0] 161 (0, 0))
  ram : Row 5 1 w G 0 (.slice ra 16384 rc) 16384 (u8s m.ram)
  scr : Reads w (some ⟨sb, 0, none⟩) (u8s m.screen)
  sg : G sb = 0 ∧ sb < w.heap.size
  rown : G w0.heap.size = 1000
def S7 : Nat → Prop := fun o => o = 7 ∨ o = 9 ∨ o = 1000
/-- What an image holds: new rows. -/
structure Shot2 (w : World) (G : Nat → Nat) (ra : Option Addr) (rc sb : Nat) (ba : Option Addr) (bc : Nat) (k0 k1 : Int) (b0 b1 : List Int) (m : MemS) : Prop where
  ram : Row 5 1 w G 0 (.slice ra 16384 rc) 16384 (u8s m.ram)
  scr : Reads w (some ⟨sb, 0, none⟩) (u8s m.screen)
  sg : G sb = 0 ∧ sb < w.heap.size
  bks : ∃ c0 c1, Row 47 2 w G 7 (.slice ba 2 bc) 2 (c0 ++ c1) ∧ BankAt w G ba 16384 (k0, b0) c0 ∧ BankAt w G ba 16384 (k1, b1) c1
/-- m[k] without ok. -/
theorem lookup_I_plain {P : Program} {t kt e : TypeId} {q : IntKind} (ht : P.underlying t = some (.map kt e)) (hk : P.underlying kt = some (.int q)) {w : World} {B : Nat} {l : List (Int × Value)} (h : MapI q w B l) (k : Int) (v : Value) (hv : valI l k = some v) :
    (Instr.lookup t (.map (some B)) (.int q k) false).run P w = .ok v w := by
  obtain ⟨es, clk, hb, hl, hst⟩ := h
  obtain ⟨j, hj⟩ := (findNow_I q k es.toList l 0 hl).2 v hv
  simp [Instr.lookup, run_underlying ht, MapKept.run_getObj_map hb, checkKey_I hk, MapKept.run_findKey hk hj, Result.andThen]
def BanksAre (w : World) (G : Nat → Nat) : List (Int × List Int) → List Value → Prop
  | [], cs => cs = []
  | p :: l, cs => ∃ c rest, cs = c ++ rest ∧ BankAt w G none 16384 p c ∧ BanksAre w G l rest
theorem BankAt.adv {S : Nat → Prop} {w w' : World} {G G' : Nat → Nat} {va : Option Addr} {n : Nat} {p : Int × List Int} {cs : List Value} (h : BankAt w G va n p cs) (ha : Adv S w G w' G') (h0 : ¬ S 0) : BankAt w' G' va n p cs := by
  obtain ⟨da, dc, h1, h2⟩ := h
  exact ⟨da, dc, h1, h2.adv ha h0⟩
theorem BanksAre.adv {S : Nat → Prop} {w w' : World} {G G' : Nat → Nat} (ha : Adv S w G w' G') (h0 : ¬ S 0) : ∀ {l : List (Int × List Int)} {cs : List Value}, BanksAre w G l cs → BanksAre w' G' l cs
  | [], _, h => h
  | _ :: _, _, ⟨c, rest, h1, h2, h3⟩ => ⟨c, rest, h1, h2.adv ha h0, BanksAre.adv ha h0 h3⟩
theorem BanksAre.snoc {w : World} {G : Nat → Nat} {p : Int × List Int} {c : List Value} (hc : BankAt w G none 16384 p c) : ∀ {l : List (Int × List Int)} {cs : List Value}, BanksAre w G l cs → BanksAre w G (l ++ [p]) (cs ++ c)
  | [], cs, h => by
    have h' : cs = [] := h
    subst h'
    exact ⟨c, [], by simp, hc, rfl⟩
  | _ :: _, _, ⟨d, rest, h1, h2, h3⟩ => ⟨d, rest ++ c, by rw [h1, List.append_assoc], h2, BanksAre.snoc hc h3⟩
/-- Between two rounds of Image's loop. -/
structure ImgAt (w0 w : World) (G : Nat → Nat) (D B β0 β1 : Nat) (tv : Value) (m : MemS) (k0 k1 : Int) (x g gc : Nat) (ra : Option Addr) (rc sb : Nat) (k : Nat) (ba : Option Addr) (bc : Nat) (cs : List Value) : Prop where
  ad : Adv S7 w0 (fun _ => 0) w G
  mem : PMx w G 0 D B [β0, β1] tv m
  blk : w.heap[x]? = some (.cells #[.slice ba k bc, .slice ra 16384 rc, .slice (some ⟨sb, 0, none⟩) 3072 3072, .int .u8 m.chosen, .int .u8 m.pad, .int .u16 m.pitch, .int .u8 m.volume, .int .u16 m.time] 161 (0, 0))
  own : G x = 1000
  new : w0.heap.size < x
  res : w.heap[w0.heap.size]? = some (.cells #[.slice none 0 0, .slice none 0 0, .slice none 0 0, .int .u8 0, .int .u8 0, .int .u16 0, .int .u8 0, .int .u16 0] 161 (0, 0))
  rown : G w0.heap.size = 1000
  ram : Row 5 1 w G 0 (.slice ra 16384 rc) 16384 (u8s m.ram)
  scr : Reads w (some ⟨sb, 0, none⟩) (u8s m.screen)
  sg : G sb = 0 ∧ sb < w.heap.size
  keys : Row 5 1 w G 0 (.slice (some ⟨g, 0, none⟩) 2 gc) 2 ([k0, k1].map u8v)
  has : BanksAre w G (m.banks.take k) cs
theorem ImgAt.adv {S : Nat → Prop} {w0 w w' : World} {G G' : Nat → Nat} {D B β0 β1 : Nat} {tv : Value} {m : MemS} {k0 k1 : Int} {x g gc : Nat} {ra : Option Addr} {rc sb k : Nat} {ba : Option Addr} {bc : Nat} {cs : List Value}
    (h : ImgAt w0 w G D B β0 β1 tv m k0 k1 x g gc ra rc sb k ba bc cs) (ha : Adv S w G w' G') (hS : ∀ o, S o → S7 o) (h0 : ¬ S 0) (h1 : ¬ S 1000) : ImgAt w0 w' G' D B β0 β1 tv m k0 k1 x g gc ra rc sb k ba bc cs := by
  have hx : x < w.heap.size := (Array.getElem?_eq_some_iff.1 h.blk).1
  have hr : w0.heap.size < w.heap.size := (Array.getElem?_eq_some_iff.1 h.res).1
  exact ⟨h.ad.trans (ha.mono hS), h.mem.adv ha h0, (ha.keep x hx (by rw [h.own]; exact h1)).trans h.blk, (ha.own x hx).trans h.own, h.new, (ha.keep _ hr (by rw [h.rown]; exact h1)).trans h.res, (ha.own _ hr).trans h.rown, h.ram.adv ha h0,
    h.scr.adv ha (fun ad e => by cases e; rw [h.sg.1]; exact h0), ⟨(ha.own _ h.sg.2).trans h.sg.1, Nat.lt_of_lt_of_le h.sg.2 ha.size⟩, h.keys.adv ha h0, h.has.adv ha h0⟩
theorem ImgAt.put {w0 w : World} {G : Nat → Nat} {D B β0 β1 : Nat} {tv : Value} {m : MemS} {k0 k1 : Int} {x g gc : Nat} {ra : Option Addr} {rc sb k : Nat} {ba : Option Addr} {bc : Nat} {cs : List Value}
    (h : ImgAt w0 w G D B β0 β1 tv m k0 k1 x g gc ra rc sb k ba bc cs) (ba' : Option Addr) (bc' : Nat) (cs' : List Value) (hh : BanksAre w G (m.banks.take (k + 1)) cs') : ImgAt w0 (w.setCell ⟨x, 0, none⟩ (.slice ba' (k + 1) bc')) G D B β0 β1 tv m k0 k1 x g gc ra rc sb (k + 1) ba' bc' cs' := by
  have ha : Adv (fun o => o = 1000) w G (w.setCell ⟨x, 0, none⟩ (.slice ba' (k + 1) bc')) G := (Adv.refl (fun o => o = 1000) w G).setCell (p := ⟨x, 0, none⟩) h.own _
  have h0 : ¬ (fun o => o = 1000) 0 := by decide
  exact ⟨h.ad.trans (ha.mono fun _ e => .inr (.inr e)), h.mem.adv ha h0, setB h.blk 0 _, h.own, h.new, (Below.heap_setCell _ _ _ _ (fun e => by have := h.new; simp at e; omega)).trans h.res, h.rown, h.ram.adv ha h0,
    h.scr.adv ha (fun ad e => by cases e; rw [h.sg.1]; exact h0), ⟨h.sg.1, Nat.lt_of_lt_of_le h.sg.2 ha.size⟩, h.keys.adv ha h0, hh.adv ha h0⟩
theorem infoBk : (Tryz.prog.info? 47).map (fun i => (i.zero, i.size, i.bytes)) = some (some (.agg #[.int .i64 0, .slice none 0 0]), 2, 32) := by kernel_rfl
set_option maxRecDepth 100000 in
set_option maxHeartbeats 4000000 in
theorem image0 (D : Nat) (m : MemS) (hm : MemOk m) (k0 k1 : Int) (b0 b1 : List Int) (hb : m.banks = [(k0, b0), (k1, b1)]) (hk : k0 < k1) (hk0 : 0 ≤ k0) (hk1 : k1 < 256) (w : World) (hp : PM w (fun _ => 0) 0 D m) :
    Calls Tryz.prog 82 #[.pointer (some ⟨D, 0, none⟩)] w fun e w' => ∃ ba bc ra rc sb G', e = .returned (imageV ba 2 bc ra rc sb m) ∧ Adv S7 w (fun _ => 0) w' G' ∧ Shot2 w' G' ra rc sb ba bc k0 k1 b0 b1 m := by
  obtain ⟨G, hG⟩ : ∃ G : Nat → Nat, G = fun _ => 0 := ⟨_, rfl⟩
  obtain ⟨q, hq0⟩ : ∃ q : Nat, q = 0 := ⟨_, rfl⟩
  have hq : q ≠ 1000 := by omega
  rw [← hG] at hp ⊢
  have hp : PM w G q D m := by rw [hq0]; exact hp
  obtain ⟨B, bs, tv, hp⟩ := hp
  have HP := Lib.hid hp
  have hD := hp.lt
  have a0 := ((Adv.refl (fun _ => False) w G).alloc (.cells #[.slice none 0 0, .slice none 0 0, .slice none 0 0, .int .u8 0, .int .u8 0, .int .u16 0, .int .u8 0, .int .u16 0] 161) 1000).drew
  have m0 := heap_alloc_new w (.cells #[.slice none 0 0, .slice none 0 0, .slice none 0 0, .int .u8 0, .int .u8 0, .int .u16 0, .int .u8 0, .int .u16 0] 161)
  obtain ⟨W0, hW0⟩ : ∃ v, v = w.alloc (.cells #[.slice none 0 0, .slice none 0 0, .slice none 0 0, .int .u8 0, .int .u8 0, .int .u16 0, .int .u8 0, .int .u16 0] 161) := ⟨_, rfl⟩
  obtain ⟨G0, hG0⟩ : ∃ v, v = own1 w G 1000 := ⟨_, rfl⟩
  have z0 : W0.heap.size = w.heap.size + 1 := by rw [hW0]; simp
  rw [← hW0, ← hG0] at a0
  rw [← hW0] at m0
  have A0 := Lib.hid a0
  have M0 := Lib.hid m0
  have HD := Lib.hid (hp.adv a0 id)
  have HW := Lib.hid hW0
  have Z0 := Lib.hid z0
  have HG0 := Lib.hid (show G0 w.heap.size = 1000 by rw [hG0]; exact own1_new _ _ _)
  -- the second block may be laid first
  have HDa := Lib.hid (show PMx ((W0.alloc (.cells #[.slice none 0 0, .slice none 0 0, .slice none 0 0, .int .u8 0, .int .u8 0, .int .u16 0, .int .u8 0, .int .u16 0] 161)).drew) (own1 W0.drew G0 1000) q D B bs tv m from (hp.adv a0 id).adv ((Adv.refl (fun _ => False) W0.drew G0).alloc (.cells #[.slice none 0 0, .slice none 0 0, .slice none 0 0, .int .u8 0, .int .u8 0, .int .u16 0, .int .u8 0, .int .u16 0] 161) 1000) id)
  have Qa0 := Lib.hid (HDa.out.ports5 hm)
  have hRA := Lib.hid (HD.out.ramR hm)
  have hRAa := Lib.hid (HDa.out.ramR hm)
  clear hp a0 m0 hW0 hG0 z0
  go_enter Tryz.func82, Tryz.ntmps82
  go_upto_region 3 with fail
  rw [← HW.out]
  obtain ⟨q0, q1, q2, q3, q4⟩ := HD.out.ports5 hm
  go_cut [3] (fun v3 wx => ∃ x ra rc sb Gx, v3 = .pointer (some ⟨x, 0, none⟩) ∧ Shot w wx G Gx q D B bs tv m x ra rc sb)
  case first =>
    go_region_held3 (fun w' => w'.cell? ⟨D, 19457, none⟩ = some (.int .u8 m.chosen) ∧ w'.cell? ⟨D, 19458, none⟩ = some (.int .u8 m.pad) ∧ w'.cell? ⟨D, 19459, none⟩ = some (.int .u8 m.volume) ∧ w'.cell? ⟨D, 19460, none⟩ = some (.int .u16 m.pitch) ∧ w'.cell? ⟨D, 19461, none⟩ = some (.int .u16 m.time)) (first | with_reducible exact ⟨q0, q1, q2, q3, q4⟩ | with_reducible exact Qa0.out | with_reducible exact Q1.out | with_reducible exact Q1a.out | with_reducible exact Q2.out | with_reducible exact Q2z.out | with_reducible exact Q2a.out | with_reducible exact Q3.out)
      (first | (go_at_call 127; refine (clone_bytes G0 0 ⟨D, 1, none⟩ 16384 16384 m.ram (by omega) _ hm.ram hRA.out).mono ?_; rintro e w1 ⟨ra, rc, G1, rfl, a1, r1⟩; have HD1 := Lib.hid (HD.out.adv a1 id); have A1 := Lib.hid (A0.out.trans a1); have R1 := Lib.hid r1; have O1 := Lib.hid ((a1.own w.heap.size (by show w.heap.size < W0.heap.size; rw [Z0.out]; omega)).trans HG0.out); have N1 := Lib.hid ((((Adv.refl (fun _ => False) W0 G0).drew.trans a1).keep w.heap.size (by rw [Z0.out]; omega) id).trans M0.out); have Q1 := Lib.hid (HD1.out.ports5 hm); have hz1 : w.heap.size < w1.heap.size := (Array.getElem?_eq_some_iff.1 N1.out).1; have al1 := Lib.hid ((Adv.refl (fun _ => False) w1 G1).alloc (.cells #[.slice none 0 0, .slice none 0 0, .slice none 0 0, .int .u8 0, .int .u8 0, .int .u16 0, .int .u8 0, .int .u16 0] 161) 1000); have HD1a := Lib.hid (HD1.out.adv al1.out id); have Q1a := Lib.hid (HD1a.out.ports5 hm); clear a1 r1) | (go_at_call 127; refine (clone_bytes (own1 W0.drew G0 1000) 0 ⟨D, 1, none⟩ 16384 16384 m.ram (by omega) _ hm.ram hRAa.out).mono ?_; rintro e w1 ⟨ra, rc, G1, rfl, a1, r1⟩; have HD1 := Lib.hid (HDa.out.adv a1 id); have A1 := Lib.hid ((A0.out.alloc (.cells #[.slice none 0 0, .slice none 0 0, .slice none 0 0, .int .u8 0, .int .u8 0, .int .u16 0, .int .u8 0, .int .u16 0] 161) 1000).trans a1); have R1 := Lib.hid r1; have O1 := Lib.hid ((a1.own w.heap.size (by show w.heap.size < (W0.alloc _).heap.size; rw [World.size_alloc, Z0.out]; omega)).trans ((own1_old (w := W0.drew) (by show w.heap.size < W0.heap.size; rw [Z0.out]; omega)).trans HG0.out)); have N1 := Lib.hid (((((Adv.refl (fun _ => False) W0 G0).drew.alloc (.cells #[.slice none 0 0, .slice none 0 0, .slice none 0 0, .int .u8 0, .int .u8 0, .int .u16 0, .int .u8 0, .int .u16 0] 161) 1000).trans a1).keep w.heap.size (by rw [Z0.out]; omega) id).trans M0.out); have Q1 := Lib.hid (HD1.out.ports5 hm); have X1 := Lib.hid (And.intro ((a1.keep W0.heap.size (by simp) id).trans (heap_alloc_new W0.drew (.cells #[.slice none 0 0, .slice none 0 0, .slice none 0 0, .int .u8 0, .int .u8 0, .int .u16 0, .int .u8 0, .int .u16 0] 161))) (And.intro ((a1.own W0.heap.size (by simp)).trans (own1_new W0.drew G0 1000)) (show w.heap.size < W0.heap.size by rw [Z0.out]; omega))); clear a1 r1) | (go_at_call 22; refine (screen_any G1 q D m hm _ ⟨B, bs, _, HD1.out⟩).mono ?_; have hX := X1.out; rintro e w2 ⟨sb, G2, rfl, a2, sg, sn, sr, sl⟩; rw [hm.screen]; have R2 := Lib.hid (R1.out.adv a2 id); have A2 := Lib.hid (A1.out.trans a2); have HD2 := Lib.hid (HD1.out.adv a2 id); have O2 := Lib.hid ((a2.own w.heap.size (Array.getElem?_eq_some_iff.1 N1.out).1).trans O1.out); have N2 := Lib.hid ((a2.keep w.heap.size (Array.getElem?_eq_some_iff.1 N1.out).1 id).trans N1.out); have S2 := Lib.hid (And.intro sr (And.intro sg sl)); have Q2 := Lib.hid (HD2.out.ports5 hm); have X2 := Lib.hid (And.intro ((a2.keep W0.heap.size (Array.getElem?_eq_some_iff.1 hX.1).1 id).trans hX.1) (And.intro ((a2.own W0.heap.size (Array.getElem?_eq_some_iff.1 hX.1).1).trans hX.2.1) hX.2.2)); have o8 := Lib.hid (own8 (w := w2) (G := G2) W0.heap.size X2.out.2.1 (.slice none 0 0) (.slice ra 16384 rc) (.slice (some ⟨sb, 0, none⟩) 3072 3072) (.int .u8 m.chosen) (.int .u8 m.pad) (.int .u16 m.pitch) (.int .u8 m.volume) (.int .u16 m.time)); have HD3 := Lib.hid (HD2.out.adv o8.out hq); have Q3 := Lib.hid (HD3.out.ports5 hm); have xb := X2.out.1; have x0 := block_cell xb 0 _ rfl; have x1 := block_cell xb 1 _ rfl; have x2 := block_cell xb 2 _ rfl; have x3 := block_cell xb 3 _ rfl; have x4 := block_cell xb 4 _ rfl; have x5 := block_cell xb 5 _ rfl; have x6 := block_cell xb 6 _ rfl; have x7 := block_cell xb 7 _ rfl; have xf := block_free xb; have F3 := Lib.hid (Shot.mk (hid8 A2.out W0.heap.size (Nat.le_of_lt X2.out.2.2) (.slice none 0 0) (.slice ra 16384 rc) (.slice (some ⟨sb, 0, none⟩) 3072 3072) (.int .u8 m.chosen) (.int .u8 m.pad) (.int .u16 m.pitch) (.int .u8 m.volume) (.int .u16 m.time)) HD3.out (put8 xb (.slice none 0 0) (.slice ra 16384 rc) (.slice (some ⟨sb, 0, none⟩) 3072 3072) (.int .u8 m.chosen) (.int .u8 m.pad) (.int .u16 m.pitch) (.int .u8 m.volume) (.int .u16 m.time)) X2.out.2.1 X2.out.2.2 ((past8 _ w.heap.size (by have := X2.out.2.2; omega) (.slice none 0 0) (.slice ra 16384 rc) (.slice (some ⟨sb, 0, none⟩) 3072 3072) (.int .u8 m.chosen) (.int .u8 m.pad) (.int .u16 m.pitch) (.int .u8 m.volume) (.int .u16 m.time)).trans N2.out) (R2.out.adv o8.out (by decide)) (S2.out.1.adv o8.out (fun ad e => by cases e; rw [S2.out.2.1]; decide)) ⟨S2.out.2.1, Nat.lt_of_lt_of_le S2.out.2.2 o8.out.size⟩ O2.out); clear xb a2 sg sn sr sl; clear hX) | (go_at_call 22; refine (screen_any G1 q D m hm _ ⟨B, bs, _, HD1.out⟩).mono ?_; rintro e w2 ⟨sb, G2, rfl, a2, sg, sn, sr, sl⟩; rw [hm.screen]; have R2 := Lib.hid (R1.out.adv a2 id); have A2 := Lib.hid (A1.out.trans a2); have HD2 := Lib.hid (HD1.out.adv a2 id); have O2 := Lib.hid ((a2.own w.heap.size (Array.getElem?_eq_some_iff.1 N1.out).1).trans O1.out); have N2 := Lib.hid ((a2.keep w.heap.size (Array.getElem?_eq_some_iff.1 N1.out).1 id).trans N1.out); have S2 := Lib.hid (And.intro sr (And.intro sg sl)); have Q2 := Lib.hid (HD2.out.ports5 hm); have hz2 : w.heap.size < w2.heap.size := (Array.getElem?_eq_some_iff.1 N2.out).1; have alz := (Adv.refl (fun _ => False) w2 G2).alloc (.cells #[.slice none 0 0, .slice none 0 0, .slice none 0 0, .int .u8 0, .int .u8 0, .int .u16 0, .int .u8 0, .int .u16 0] 161) 1000; have Q2z := Lib.hid ((HD2.out.adv alz id).ports5 hm); have alf := (Adv.refl (fun _ => False) w2 G2).alloc (.cells #[.slice none 0 0, .slice ra 16384 rc, .slice (some ⟨sb, 0, none⟩) 3072 3072, .int .u8 m.chosen, .int .u8 m.pad, .int .u16 m.pitch, .int .u8 m.volume, .int .u16 m.time] 161) 1000; have Q2a := Lib.hid ((HD2.out.adv alf id).ports5 hm); have F3 := Lib.hid (Shot.mk (A2.out.trans alf) (HD2.out.adv alf id) (heap_alloc_new w2 (.cells #[.slice none 0 0, .slice ra 16384 rc, .slice (some ⟨sb, 0, none⟩) 3072 3072, .int .u8 m.chosen, .int .u8 m.pad, .int .u16 m.pitch, .int .u8 m.volume, .int .u16 m.time] 161)) (own1_new _ _ _) hz2 ((heap_past _ _ _ hz2).trans N2.out) (R2.out.adv alf id) (S2.out.1.adv alf (fun _ _ => id)) ⟨(alf.own _ S2.out.2.2).trans S2.out.2.1, Nat.lt_of_lt_of_le S2.out.2.2 alf.size⟩ ((alf.own _ (Array.getElem?_eq_some_iff.1 N2.out).1).trans O2.out)); clear a2 sg sn sr sl alz alf) | (go_at_call 22; refine (screen_any (own1 w1 G1 1000) q D m hm _ ⟨B, bs, _, HD1a.out⟩).mono ?_; rintro e w2 ⟨sb, G2, rfl, a2, sg, sn, sr, sl⟩; rw [hm.screen]; have R2 := Lib.hid ((R1.out.adv al1.out id).adv a2 id); have A2 := Lib.hid ((A1.out.trans al1.out).trans a2); have HD2 := Lib.hid (HD1a.out.adv a2 id); have O2 := Lib.hid (((al1.out.trans a2).own w.heap.size (Array.getElem?_eq_some_iff.1 N1.out).1).trans O1.out); have N2 := Lib.hid (((al1.out.trans a2).keep w.heap.size (Array.getElem?_eq_some_iff.1 N1.out).1 id).trans N1.out); have S2 := Lib.hid (And.intro sr (And.intro sg sl)); have Q2 := Lib.hid (HD2.out.ports5 hm); have X2 := Lib.hid (And.intro ((a2.keep w1.heap.size (by simp) id).trans (heap_alloc_new w1 (.cells #[.slice none 0 0, .slice none 0 0, .slice none 0 0, .int .u8 0, .int .u8 0, .int .u16 0, .int .u8 0, .int .u16 0] 161))) (And.intro ((a2.own w1.heap.size (by simp)).trans (own1_new w1 G1 1000)) hz1)); have o8 := Lib.hid (own8 (w := w2) (G := G2) w1.heap.size X2.out.2.1 (.slice none 0 0) (.slice ra 16384 rc) (.slice (some ⟨sb, 0, none⟩) 3072 3072) (.int .u8 m.chosen) (.int .u8 m.pad) (.int .u16 m.pitch) (.int .u8 m.volume) (.int .u16 m.time)); have HD3 := Lib.hid (HD2.out.adv o8.out hq); have Q3 := Lib.hid (HD3.out.ports5 hm); have xb := X2.out.1; have x0 := block_cell xb 0 _ rfl; have x1 := block_cell xb 1 _ rfl; have x2 := block_cell xb 2 _ rfl; have x3 := block_cell xb 3 _ rfl; have x4 := block_cell xb 4 _ rfl; have x5 := block_cell xb 5 _ rfl; have x6 := block_cell xb 6 _ rfl; have x7 := block_cell xb 7 _ rfl; have xf := block_free xb; have F3 := Lib.hid (Shot.mk (hid8 A2.out w1.heap.size (Nat.le_of_lt X2.out.2.2) (.slice none 0 0) (.slice ra 16384 rc) (.slice (some ⟨sb, 0, none⟩) 3072 3072) (.int .u8 m.chosen) (.int .u8 m.pad) (.int .u16 m.pitch) (.int .u8 m.volume) (.int .u16 m.time)) HD3.out (put8 xb (.slice none 0 0) (.slice ra 16384 rc) (.slice (some ⟨sb, 0, none⟩) 3072 3072) (.int .u8 m.chosen) (.int .u8 m.pad) (.int .u16 m.pitch) (.int .u8 m.volume) (.int .u16 m.time)) X2.out.2.1 X2.out.2.2 ((past8 _ w.heap.size (by have := X2.out.2.2; omega) (.slice none 0 0) (.slice ra 16384 rc) (.slice (some ⟨sb, 0, none⟩) 3072 3072) (.int .u8 m.chosen) (.int .u8 m.pad) (.int .u16 m.pitch) (.int .u8 m.volume) (.int .u16 m.time)).trans N2.out) (R2.out.adv o8.out (by decide)) (S2.out.1.adv o8.out (fun ad e => by cases e; rw [S2.out.2.1]; decide)) ⟨S2.out.2.1, Nat.lt_of_lt_of_le S2.out.2.2 o8.out.size⟩ O2.out); clear xb a2 sg sn sr sl))
    all_goals
      go_wp2_with fail
      go_meet
      exact ⟨_, _, _, _, _, rfl, F3.out⟩
  case rest =>
    clear HD HDa Qa0 hRA hRAa HW M0 A0 q0 q1 q2 q3 q4 Z0 HG0
    obtain ⟨x, ra, rc, sb, Gx, rfl, hsh⟩ := hcut
    have HS := Lib.hid hsh
    obtain ⟨β0, β1, rfl⟩ : ∃ β0 β1, bs = [β0, β1] := by
      have := hsh.mem.blen
      rw [hb] at this
      match bs, this with
      | [a, b], _ => exact ⟨a, b, rfl⟩
    have hbl : bankL m [β0, β1] = [(k0, .pointer (some ⟨β0, 0, none⟩)), (k1, .pointer (some ⟨β1, 0, none⟩))] := by unfold bankL; rw [hb]; rfl
    obtain ⟨CM, hCM, hCl⟩ := hsh.mem.head
    have c0 : wc.cell? ⟨D, 0, none⟩ = some (.map (some B)) := block_cell hCM 0 _ (by rw [← Array.getElem?_toList, hCl]; rfl)
    have HBL := Lib.hid hbl
    have hDl := hsh.mem.lt
    clear hsh hCM hCl hbl
    go_wp2_with fail
    refine (keys_any B wc).mono ?_
    rintro e w1 ⟨rfl, rfl⟩
    have al := (Adv.refl (fun _ => False) wc Gx).alloc (.cells #[.map (some B)] 166) 9
    have HM1 := Lib.hid (HS.out.mem.adv al id)
    have AL := Lib.hid al
    have hBm := World.block_lt_of_cell? (wc.alloc (.cells #[.map (some B)] 166)) _ (block_cell (heap_alloc_new wc (.cells #[.map (some B)] 166)) 0 (.map (some B)) rfl)
    have hBc := block_cell (heap_alloc_new wc (.cells #[.map (some B)] 166)) 0 (.map (some B)) rfl
    have hmap1 := HM1.out.map
    rw [HBL.out] at hmap1
    have hS2 := sorted_2 (own1 wc Gx 9) wc.heap.size B _ k0 k1 rfl _ hBm hBc hmap1
    clear al hBm hBc hmap1
    go_wp2_with fail
    refine hS2.mono ?_
    rintro e w2 ⟨g, gc, G2, rfl, a2, r2⟩
    rw [show sort2 k0 k1 = [k0, k1] from if_neg (by omega)] at r2
    have aL := AL.out.trans a2
    have A2 := Lib.hid ((HS.out.ad.trans aL).mono (T := S7) fun _ h => h.elim)
    have HM2 := Lib.hid (HS.out.mem.adv aL id)
    have X2 := Lib.hid ((aL.keep x (Array.getElem?_eq_some_iff.1 HS.out.blk).1 id).trans HS.out.blk)
    have XO := Lib.hid ((aL.own x (Array.getElem?_eq_some_iff.1 HS.out.blk).1).trans HS.out.own)
    have RO := Lib.hid ((aL.own w.heap.size (Array.getElem?_eq_some_iff.1 HS.out.res).1).trans HS.out.rown)
    have N2 := Lib.hid ((aL.keep w.heap.size (Array.getElem?_eq_some_iff.1 HS.out.res).1 id).trans HS.out.res)
    have R2 := Lib.hid (HS.out.ram.adv aL id)
    have C2 := Lib.hid (And.intro (HS.out.scr.adv aL (fun _ _ => id)) (And.intro ((aL.own _ HS.out.sg.2).trans HS.out.sg.1) (Nat.lt_of_lt_of_le HS.out.sg.2 aL.size)))
    have K2 := Lib.hid r2
    have NW := Lib.hid HS.out.new
    clear a2 r2 aL hS2 HS HM1 AL c0 hDl
    subst hG
    subst hq0
    have I0 := Lib.hid (ImgAt.mk (k := 0) (ba := none) (bc := 0) (cs := []) A2.out HM2.out X2.out XO.out NW.out N2.out RO.out R2.out C2.out.1 C2.out.2 K2.out (show BanksAre w2 G2 (m.banks.take 0) [] from rfl))
    clear A2 HM2 X2 XO N2 R2 C2 K2 RO
    go_wp2_with fail
    go_loopw [44] (fun v44 wr => ∃ k : Nat, v44 = .int .i64 k ∧ k ≤ 2 ∧ ∃ Gr ba bc cs, ImgAt w wr Gr D B β0 β1 tv m k0 k1 x g gc ra rc sb k ba bc cs ∧ Row 47 2 wr Gr 7 (.slice ba k bc) k cs) (fun v44 _ => 2 - (intOf v44).toNat)
    case atStart => exact ⟨0, rfl, by omega, G2, none, 0, [], I0.out, Row.nil _ _ _ _ _⟩
    case round =>
      obtain ⟨k, rfl, hk2, Gr, ba, bc, cs, hI, hbk⟩ := hrel
      have HI := Lib.hid hI
      have HBK := Lib.hid hbk
      clear hI hbk I0
      by_cases hlt : k < 2
      · obtain ⟨kv, bv, βv, e1, e2, e3, kv0, kv1⟩ : ∃ kv bv βv, [k0, k1][k]? = some kv ∧ m.banks[k]? = some (kv, bv) ∧ [β0, β1][k]? = some βv ∧ 0 ≤ kv ∧ kv < 256 := by
          rw [hb]
          rcases (show k = 0 ∨ k = 1 by omega) with rfl | rfl
          · exact ⟨k0, b0, β0, rfl, rfl, rfl, by omega, by omega⟩
          · exact ⟨k1, b1, β1, rfl, rfl, rfl, by omega, by omega⟩
        have hlv : valI (bankL m [β0, β1]) kv = some (.pointer (some ⟨βv, 0, none⟩)) := by
          rw [HBL.out]
          rcases (show k = 0 ∨ k = 1 by omega) with rfl | rfl
          · simp at e1 e3
            subst e1; subst e3
            simp [valI]
          · simp at e1 e3
            subst e1; subst e3
            simp [valI, show ¬ k0 = k1 from by omega]
        have hkc := (HI.out.keys.at (by omega)).2.2.2 k (.int .u8 kv) (by rw [List.getElem?_map, e1]; rfl)
        obtain ⟨⟨CB, hCB, hCBl⟩, -⟩ := HI.out.mem.bank k (kv, bv) βv e2 e3
        have hl16 : bv.length = 16384 := hm.banks (kv, bv) (List.mem_of_getElem? e2)
        have hbr : Reads wr.drew (some ⟨βv, 0, none⟩) (u8s bv) := .inr ⟨βv, 0, rfl, fun j u hu => block_cell hCB (0 + j) u (by rw [Nat.zero_add, ← Array.getElem?_toList, hCBl]; exact hu)⟩
        obtain ⟨CM, hCM, hCl⟩ := HI.out.mem.head
        have d0 : wr.drew.cell? ⟨D, 0, none⟩ = some (.map (some B)) := block_cell hCM 0 _ (by rw [← Array.getElem?_toList, hCl]; rfl)
        have xc : wr.drew.cell? ⟨x, 0, none⟩ = some (.slice ba k bc) := block_cell HI.out.blk 0 _ rfl
        have hlk := lookup_I_plain (P := Tryz.prog) Tryz.underlying166 Tryz.underlying5 (w := wr.drew) (HI.out.mem.map) kv _ hlv
        have hdl := HI.out.mem.lt
        have hxl : x < wr.heap.size := (Array.getElem?_eq_some_iff.1 HI.out.blk).1
        have HBR := Lib.hid (And.intro hbr (And.intro hl16 (And.intro e2 hlv)))
        have k00 : (0 : Int) ≤ (k : Int) := Int.natCast_nonneg _
        have k01 : (k : Int) < 2 := by omega
        have q1 : decide ((k : Int) < 2) = true := by simp; omega
        have hwv : IntKind.i64.wrap kv = kv := IntWalk.i64_in _ (by omega)
        have hwk : IntKind.i64.wrap ((k : Int) + 1) = (k : Int) + 1 := IntWalk.i64_in _ (by omega)
        obtain ⟨i0, hi, hz0, hz1, hz2⟩ := info_parts infoBk
        have HID := Lib.hid (HI.out.adv (Adv.refl (fun _ => False) wr Gr).drew (fun _ h => h.elim) id id)
        have HBD := Lib.hid (HBK.out.adv (Adv.refl (fun _ => False) wr Gr).drew id)
        clear e1 e2 e3 hlv hCB hCBl hl16 hbr hCM hCl
        go_upto_region 7 with fail
        go_region_law (first | (go_simp; go_at_call 127; refine (clone_bytes Gr 0 ⟨βv, 0, none⟩ 16384 16384 bv (by omega) _ HBR.out.2.1 HBR.out.1).mono ?_; rintro e w5 ⟨da, dc, G5, rfl, a5, r5⟩; have I5 := Lib.hid (HID.out.adv a5 (fun _ h => h.elim) id id); have x5 := block_cell I5.out.blk 0 _ rfl; have hx5 : x < w5.heap.size := (Array.getElem?_eq_some_iff.1 I5.out.blk).1; have al := (Adv.refl (fun _ => False) w5 G5).alloc (.cells #[.int .i64 kv, .slice da 16384 dc] 47) 9; have I6 := Lib.hid (I5.out.adv al (fun _ h => h.elim) id id); have HB6 := Lib.hid ((HBD.out.adv a5 id).adv al id); have HR6 := Lib.hid (Reads.new w5 [.int .i64 kv, .slice da 16384 dc] 47); have R6 := Lib.hid (r5.adv al id); clear a5 r5 al) | (refine step_append_any rfl (.tmp 49) (.tmp 62) 33 rfl 47 i0 (.agg #[.int .i64 0, .slice none 0 0]) 2 32 Tryz.underlying33 hi hz0 hz1 hz2 rfl (by decide) (own1 w5 G5 9) 7 ba k bc cs rfl HB6.out (some ⟨w5.heap.size, 0, none⟩) 1 1 [.int .i64 kv, .slice da 16384 dc] rfl rfl HR6.out (by intro u hu; simp at hu; rcases hu with rfl | rfl <;> rfl) (by unfold maxLen; omega) (by omega) ?_; intro va2 vc2 w7 G7 h1 h2; have I7 := Lib.hid (I6.out.adv h2 (fun _ e => .inl e) (by decide) (by decide)); have B7 := Lib.hid h1; have R7 := Lib.hid (R6.out.adv h2 (by decide)); have x7 := block_cell I7.out.blk 0 _ rfl; have f7 := block_free I7.out.blk 0; clear h1 h2))
        all_goals
          go_wp2_with fail
          go_roundw
          case rel =>
            have hh : BanksAre w7 G7 (m.banks.take (k + 1)) (cs ++ [.int .i64 kv, .slice da 16384 dc]) := by
              rw [List.take_add_one, HBR.out.2.2.1]
              exact BanksAre.snoc ⟨da, dc, rfl, R7.out⟩ I7.out.has
            exact ⟨k + 1, by simp, by omega, G7, va2, vc2, _, I7.out.put va2 vc2 _ hh, B7.out.adv ((Adv.refl (fun o => o = 1000) w7 G7).setCell (p := ⟨x, 0, none⟩) I7.out.own _) (by decide)⟩
          case measure => simp only [intOf]; omega
      · obtain rfl : k = 2 := by omega
        have y0 := block_cell HI.out.blk 0 _ rfl
        have y1 := block_cell HI.out.blk 1 _ rfl
        have y2 := block_cell HI.out.blk 2 _ rfl
        have y3 := block_cell HI.out.blk 3 _ rfl
        have y4 := block_cell HI.out.blk 4 _ rfl
        have y5 := block_cell HI.out.blk 5 _ rfl
        have y6 := block_cell HI.out.blk 6 _ rfl
        have y7 := block_cell HI.out.blk 7 _ rfl
        have z0 := block_cell HI.out.res 0 _ rfl
        have z1 := block_cell HI.out.res 1 _ rfl
        have z2 := block_cell HI.out.res 2 _ rfl
        have z3 := block_cell HI.out.res 3 _ rfl
        have z4 := block_cell HI.out.res 4 _ rfl
        have z5 := block_cell HI.out.res 5 _ rfl
        have z6 := block_cell HI.out.res 6 _ rfl
        have z7 := block_cell HI.out.res 7 _ rfl
        have zf := block_free HI.out.res
        have hne : x ≠ w.heap.size := by have := HI.out.new; omega
        go_wp2_with fail
        have hF := put8 HI.out.res (.slice ba 2 bc) (.slice ra 16384 rc) (.slice (some ⟨sb, 0, none⟩) 3072 3072) (.int .u8 m.chosen) (.int .u8 m.pad) (.int .u16 m.pitch) (.int .u8 m.volume) (.int .u16 m.time)
        have o8 := own8 (w := wr) (G := Gr) w.heap.size HI.out.rown (.slice ba 2 bc) (.slice ra 16384 rc) (.slice (some ⟨sb, 0, none⟩) 3072 3072) (.int .u8 m.chosen) (.int .u8 m.pad) (.int .u16 m.pitch) (.int .u8 m.volume) (.int .u16 m.time)
        refine bodyPost_ret (v := imageV ba 2 bc ra rc sb m) (by simp [results, Tryz.results82, go_sem, imageV, z0, z1, z2, z3, z4, z5, z6, z7]) rfl ⟨ba, bc, ra, rc, sb, Gr, rfl, HI.out.ad.trans (o8.mono fun _ e => .inr (.inr e)), HI.out.ram.adv o8 (by decide), HI.out.scr.adv o8 (fun ad e => by cases e; rw [HI.out.sg.1]; decide), ⟨HI.out.sg.1, Nat.lt_of_lt_of_le HI.out.sg.2 o8.size⟩, ?_⟩
        have hh := HI.out.has
        rw [show m.banks.take 2 = [(k0, b0), (k1, b1)] by rw [hb]; rfl] at hh
        obtain ⟨c0, r0, rfl, hc0, c1, r1, rfl, hc1, h2⟩ := hh
        obtain rfl : r1 = [] := h2
        exact ⟨c0, c1, by have := HBK.out.adv o8 (show ¬ (7 = 1000) by decide); simpa using this, hc0.adv o8 (by decide), hc1.adv o8 (by decide)⟩
end Go.Proofs.YtdnalhjdmlkbmaaGreatDoor
namespace Go.Proofs.YtdnalhjdmlkbmaaGreatDoor
open Go.RowKit
set_option linter.unusedVariables false
theorem conv_u8 {w : World} {a : Option Addr} {l : List Int} {n c : Nat} (h : Reads w a (u8s l)) (hl : l.length = n) (h0 : 0 < n) : (convert 30 9 (.slice a n c)).run Tryz.prog w = .ok (.string (strOfNums l)) w := by
  rcases h with hz | ⟨b, o, e, hh⟩
  · have := congrArg List.length hz
    rw [u8s_length, List.length_nil, hl] at this
    omega
  · subst e
    exact run_convert_bytes_arg w 30 5 Tryz.underlying30 Tryz.underlying5 b o n c l hl (fun i hi => hh i _ (by simp [u8s, List.getD_eq_getElem?_getD, List.getElem?_eq_getElem (show i < l.length by omega)])) 9 Tryz.underlying9
def eightF (m : MemS) : List Int := [m.chosen, m.pad, IntKind.u8.wrap m.pitch, IntKind.u8.wrap (m.pitch / 256), m.volume, IntKind.u8.wrap m.time, IntKind.u8.wrap (m.time / 256), IntKind.u8.wrap (m.tones.length : Int)]
/-- The text of a memory with two banks. -/
def imgS (m : MemS) (b0 b1 : List Int) : Nat → ByteArray
  | 0 => strOfNums m.ram ++ strOfNums m.screen ++ strOfNums (eightF m)
  | 1 => strOfNums m.ram ++ strOfNums m.screen ++ strOfNums (eightF m) ++ strOfNums b0
  | _ => strOfNums m.ram ++ strOfNums m.screen ++ strOfNums (eightF m) ++ strOfNums b0 ++ strOfNums b1
/-- An image in a block of the call's own. -/
structure Img8 (w : World) (G : Nat → Nat) (xi : Nat) (ba : Option Addr) (bc : Nat) (ra : Option Addr) (rc sb : Nat) (k0 k1 : Int) (b0 b1 : List Int) (m : MemS) : Prop where
  blk : w.heap[xi]? = some (.cells #[.slice ba 2 bc, .slice ra 16384 rc, .slice (some ⟨sb, 0, none⟩) 3072 3072, .int .u8 m.chosen, .int .u8 m.pad, .int .u16 m.pitch, .int .u8 m.volume, .int .u16 m.time] 161 (0, 0))
  own : G xi = 1000
  sh : Shot2 w G ra rc sb ba bc k0 k1 b0 b1 m
theorem Img8.still {w w' : World} {G G' : Nat → Nat} {xi : Nat} {ba : Option Addr} {bc : Nat} {ra : Option Addr} {rc sb : Nat} {k0 k1 : Int} {b0 b1 : List Int} {m : MemS} (h : Img8 w G xi ba bc ra rc sb k0 k1 b0 b1 m) (ha : Adv (fun _ => False) w G w' G') : Img8 w' G' xi ba bc ra rc sb k0 k1 b0 b1 m := by
  have hx := (Array.getElem?_eq_some_iff.1 h.blk).1
  obtain ⟨c0, c1, h1, h2, h3⟩ := h.sh.bks
  exact ⟨(ha.keep xi hx id).trans h.blk, (ha.own xi hx).trans h.own, h.sh.ram.adv ha id, h.sh.scr.adv ha (fun _ _ => id), ⟨(ha.own _ h.sh.sg.2).trans h.sh.sg.1, Nat.lt_of_lt_of_le h.sh.sg.2 ha.size⟩, c0, c1, h1.adv ha id, h2.adv ha id, h3.adv ha id⟩
theorem Img8.held {w' : World} {G : Nat → Nat} {xi : Nat} {ba : Option Addr} {bc : Nat} {ra : Option Addr} {rc sb : Nat} {k0 k1 : Int} {b0 b1 : List Int} {m : MemS} (h : Img8 w' G xi ba bc ra rc sb k0 k1 b0 b1 m) (hm : MemOk m) :
    w'.cell? ⟨xi, 0, none⟩ = some (.slice ba 2 bc) ∧ w'.cell? ⟨xi, 1, none⟩ = some (.slice ra 16384 rc) ∧ w'.cell? ⟨xi, 2, none⟩ = some (.slice (some ⟨sb, 0, none⟩) 3072 3072) ∧ w'.cell? ⟨xi, 3, none⟩ = some (.int .u8 m.chosen) ∧ w'.cell? ⟨xi, 4, none⟩ = some (.int .u8 m.pad) ∧ w'.cell? ⟨xi, 5, none⟩ = some (.int .u16 m.pitch) ∧ w'.cell? ⟨xi, 6, none⟩ = some (.int .u8 m.volume) ∧ w'.cell? ⟨xi, 7, none⟩ = some (.int .u16 m.time) ∧ (convert 30 9 (.slice ra 16384 rc)).run Tryz.prog w' = .ok (.string (strOfNums m.ram)) w' ∧ (convert 30 9 (.slice (some ⟨sb, 0, none⟩) 3072 3072)).run Tryz.prog w' = .ok (.string (strOfNums m.screen)) w' :=
  ⟨block_cell h.blk 0 _ rfl, block_cell h.blk 1 _ rfl, block_cell h.blk 2 _ rfl, block_cell h.blk 3 _ rfl, block_cell h.blk 4 _ rfl, block_cell h.blk 5 _ rfl, block_cell h.blk 6 _ rfl, block_cell h.blk 7 _ rfl, conv_u8 h.sh.ram.reads hm.ram (by decide), conv_u8 h.sh.scr hm.screen (by decide)⟩
theorem imgS_step (m : MemS) (b0 b1 bv : List Int) (k : Nat) (k0 k1 kv : Int) (hk : k < 2) (h : [(k0, b0), (k1, b1)][k]? = some (kv, bv)) : imgS m b0 b1 k ++ strOfNums bv = imgS m b0 b1 (k + 1) := by
  rcases (show k = 0 ∨ k = 1 by omega) with rfl | rfl
  · simp at h; rw [← h.2]; rfl
  · simp at h; rw [← h.2]; rfl
theorem imgS_size (m : MemS) (hm : MemOk m) (b0 b1 : List Int) (h0 : b0.length = 16384) (h1 : b1.length = 16384) : ∀ k, k ≤ 2 → (imgS m b0 b1 k).size ≤ 100000 := by
  intro k hk
  have e1 : (strOfNums m.ram).size = 16384 := by rw [strOfNums_size, hm.ram]
  have e2 : (strOfNums m.screen).size = 3072 := by rw [strOfNums_size, hm.screen]
  have e3 : (strOfNums (eightF m)).size = 8 := by rw [strOfNums_size]; rfl
  have e4 : (strOfNums b0).size = 16384 := by rw [strOfNums_size, h0]
  have e5 : (strOfNums b1).size = 16384 := by rw [strOfNums_size, h1]
  match k, hk with
  | 0, _ => simp only [imgS, ByteArray.size_append]; omega
  | 1, _ => simp only [imgS, ByteArray.size_append]; omega
  | 2, _ => simp only [imgS, ByteArray.size_append]; omega
/-- One bank of the image, read. -/
theorem Img8.bank {w : World} {G : Nat → Nat} {xi : Nat} {ba : Option Addr} {bc : Nat} {ra : Option Addr} {rc sb : Nat} {k0 k1 : Int} {b0 b1 : List Int} {m : MemS} (h : Img8 w G xi ba bc ra rc sb k0 k1 b0 b1 m) (k : Nat) (kv : Int) (bv : List Int) (hk : [(k0, b0), (k1, b1)][k]? = some (kv, bv)) (hl : bv.length = 16384) :
    ∃ g da dc, ba = some ⟨g, 0, none⟩ ∧ w.cell? ⟨g, k * 2 + 1, none⟩ = some (.slice da 16384 dc) ∧ (convert 30 9 (.slice da 16384 dc)).run Tryz.prog w = .ok (.string (strOfNums bv)) w := by
  obtain ⟨c0, c1, h1, ⟨da0, dc0, rfl, h2⟩, ⟨da1, dc1, rfl, h3⟩⟩ := h.sh.bks
  obtain ⟨a, c, e, _, _, hg⟩ := h1.slice
  obtain ⟨g, rfl⟩ := hg (by omega)
  obtain ⟨rfl, -, rfl⟩ : ba = some ⟨g, 0, none⟩ ∧ True ∧ bc = c := by cases e; exact ⟨rfl, trivial, rfl⟩
  have hc := (h1.at (by omega)).2.2.2
  have hk2 : k < 2 := by have := (List.getElem?_eq_some_iff.1 hk).1; simpa using this
  rcases (show k = 0 ∨ k = 1 by omega) with rfl | rfl
  · simp at hk
    obtain ⟨rfl, rfl⟩ := hk
    exact ⟨g, da0, dc0, rfl, hc 1 _ rfl, conv_u8 h2.reads hl (by decide)⟩
  · simp at hk
    obtain ⟨rfl, rfl⟩ := hk
    exact ⟨g, da1, dc1, rfl, hc 3 _ rfl, conv_u8 h3.reads hl (by decide)⟩
set_option maxRecDepth 100000 in
set_option maxHeartbeats 4000000 in
theorem imageT0 (D : Nat) (m : MemS) (hm : MemOk m) (hr : MemR m) (hn : m.tones.length ≤ 1000000) (k0 k1 : Int) (b0 b1 : List Int) (hb : m.banks = [(k0, b0), (k1, b1)]) (hk : k0 < k1) (hk0 : 0 ≤ k0) (hk1 : k1 < 256) (w : World) (hp : PM w (fun _ => 0) 0 D m) :
    Calls Tryz.prog 33 #[.pointer (some ⟨D, 0, none⟩)] w fun e w' => e = .returned (.string (imgS m b0 b1 2)) ∧ ∃ G', Adv S7 w (fun _ => 0) w' G' := by
  have HP := Lib.hid hp
  have hI := image0 D m hm k0 k1 b0 b1 hb hk hk0 hk1 w hp
  clear hp
  go_enter Tryz.func33, Tryz.ntmps33
  go_wp2_with fail
  refine hI.mono ?_
  rintro e w1 ⟨ba, bc, ra, rc, sb, G1, rfl, a1, hs⟩
  have A1 := Lib.hid a1
  have S1 := Lib.hid hs
  have HP1 := Lib.hid (HP.out.adv a1 (by unfold S7; decide))
  clear a1 hs hI
  unfold imageV
  go_upto_region 2 with fail
  obtain ⟨W2, hW2⟩ : ∃ v, v = w1.alloc (.cells #[.slice ba 2 bc, .slice ra 16384 rc, .slice (some ⟨sb, 0, none⟩) 3072 3072, .int .u8 m.chosen, .int .u8 m.pad, .int .u16 m.pitch, .int .u8 m.volume, .int .u16 m.time] 161) := ⟨_, rfl⟩
  obtain ⟨G2, hG2⟩ : ∃ v, v = own1 w1 G1 1000 := ⟨_, rfl⟩
  obtain ⟨xi, hxi⟩ : ∃ v, v = w1.heap.size := ⟨_, rfl⟩
  have al := (Adv.refl (fun _ => False) w1 G1).alloc (.cells #[.slice ba 2 bc, .slice ra 16384 rc, .slice (some ⟨sb, 0, none⟩) 3072 3072, .int .u8 m.chosen, .int .u8 m.pad, .int .u16 m.pitch, .int .u8 m.volume, .int .u16 m.time] 161) 1000
  have I2 : Img8 W2 G2 xi ba bc ra rc sb k0 k1 b0 b1 m := by
    obtain ⟨c0, c1, h1, h2, h3⟩ := S1.out.bks
    have hs2 : Shot2 W2 G2 ra rc sb ba bc k0 k1 b0 b1 m := by
      rw [hW2, hG2]
      exact ⟨S1.out.ram.adv al id, S1.out.scr.adv al (fun _ _ => id), ⟨(al.own _ S1.out.sg.2).trans S1.out.sg.1, Nat.lt_of_lt_of_le S1.out.sg.2 al.size⟩, c0, c1, h1.adv al id, h2.adv al id, h3.adv al id⟩
    exact ⟨by rw [hW2, hxi]; exact heap_alloc_new _ _, by rw [hG2, hxi]; exact own1_new _ _ _, hs2⟩
  rw [← hW2, ← hG2] at al
  rw [← hW2, ← hxi]
  have HPD := Lib.hid ((HP1.out.adv al id).adv (Adv.refl (fun _ => False) W2 G2).drew id)
  have A2 := Lib.hid (A1.out.trans (al.mono (T := S7) fun _ h => h.elim)).drew
  have ID := Lib.hid (I2.still (Adv.refl (fun _ => False) W2 G2).drew)
  have hxl : xi < W2.heap.size := (Array.getElem?_eq_some_iff.1 I2.blk).1
  obtain ⟨q0, q1, q2, q3, q4, q5, q6, q7, q8, q9⟩ := ID.out.held hm
  have hz1 : (strOfNums m.ram).size = 16384 := by rw [strOfNums_size, hm.ram]
  have hz2 : (strOfNums m.screen).size = 3072 := by rw [strOfNums_size, hm.screen]
  have hz3 : (strOfNums (eightF m)).size = 8 := by rw [strOfNums_size]; rfl
  clear al I2 hW2 hG2 hxi S1 A1 HP HP1
  go_region_held_law (fun w' => w'.cell? ⟨xi, 0, none⟩ = some (.slice ba 2 bc) ∧ w'.cell? ⟨xi, 1, none⟩ = some (.slice ra 16384 rc) ∧ w'.cell? ⟨xi, 2, none⟩ = some (.slice (some ⟨sb, 0, none⟩) 3072 3072) ∧ w'.cell? ⟨xi, 3, none⟩ = some (.int .u8 m.chosen) ∧ w'.cell? ⟨xi, 4, none⟩ = some (.int .u8 m.pad) ∧ w'.cell? ⟨xi, 5, none⟩ = some (.int .u16 m.pitch) ∧ w'.cell? ⟨xi, 6, none⟩ = some (.int .u8 m.volume) ∧ w'.cell? ⟨xi, 7, none⟩ = some (.int .u16 m.time) ∧ (convert 30 9 (.slice ra 16384 rc)).run Tryz.prog w' = .ok (.string (strOfNums m.ram)) w' ∧ (convert 30 9 (.slice (some ⟨sb, 0, none⟩) 3072 3072)).run Tryz.prog w' = .ok (.string (strOfNums m.screen)) w') (first | with_reducible exact ⟨q0, q1, q2, q3, q4, q5, q6, q7, q8, q9⟩ | with_reducible exact Q3.out | with_reducible exact Q3a.out)
    (first | (go_at_call 84; refine (tones_any _ 0 0 D m hm hn _ HPD.out).mono ?_; rintro e w3 ⟨ta, tc, G3, rfl, a3, r3⟩; have A3 := Lib.hid (A2.out.trans (a3.mono (T := S7) fun _ h => h.elim)); have I3 := Lib.hid (ID.out.still a3); have Q3 := Lib.hid (I3.out.held hm); have al3 := (Adv.refl (fun _ => False) w3 G3).alloc (.cells #[.int .u8 m.chosen, .int .u8 m.pad, .int .u8 (IntKind.u8.wrap m.pitch), .int .u8 (IntKind.u8.wrap (m.pitch / 256)), .int .u8 m.volume, .int .u8 (IntKind.u8.wrap m.time), .int .u8 (IntKind.u8.wrap (m.time / 256)), .int .u8 (IntKind.u8.wrap (m.tones.length : Int))] 5) 9; have A4 := Lib.hid (A3.out.trans (al3.mono (T := S7) fun _ h => h.elim)); have I4 := Lib.hid (I3.out.still al3); have Q3a := Lib.hid (I4.out.held hm); have cv3 : (convert 30 9 (.slice (some ⟨w3.heap.size, 0, none⟩) 8 8)).run Tryz.prog (w3.alloc (.cells #[.int .u8 m.chosen, .int .u8 m.pad, .int .u8 (IntKind.u8.wrap m.pitch), .int .u8 (IntKind.u8.wrap (m.pitch / 256)), .int .u8 m.volume, .int .u8 (IntKind.u8.wrap m.time), .int .u8 (IntKind.u8.wrap (m.time / 256)), .int .u8 (IntKind.u8.wrap (m.tones.length : Int))] 5)) = .ok (.string (strOfNums (eightF m))) (w3.alloc (.cells #[.int .u8 m.chosen, .int .u8 m.pad, .int .u8 (IntKind.u8.wrap m.pitch), .int .u8 (IntKind.u8.wrap (m.pitch / 256)), .int .u8 m.volume, .int .u8 (IntKind.u8.wrap m.time), .int .u8 (IntKind.u8.wrap (m.time / 256)), .int .u8 (IntKind.u8.wrap (m.tones.length : Int))] 5)) := conv_u8 (l := eightF m) (Reads.new w3 (u8s (eightF m)) 5) rfl (by decide); clear a3 r3 al3))
  have hl0 : b0.length = 16384 := hm.banks (k0, b0) (by rw [hb]; simp)
  have hl1 : b1.length = 16384 := hm.banks (k1, b1) (by rw [hb]; simp)
  obtain ⟨w4, hw4⟩ : ∃ v, v = w3.alloc (.cells #[.int .u8 m.chosen, .int .u8 m.pad, .int .u8 (IntKind.u8.wrap m.pitch), .int .u8 (IntKind.u8.wrap (m.pitch / 256)), .int .u8 m.volume, .int .u8 (IntKind.u8.wrap m.time), .int .u8 (IntKind.u8.wrap (m.time / 256)), .int .u8 (IntKind.u8.wrap (m.tones.length : Int))] 5) := ⟨_, rfl⟩
  obtain ⟨G4, hG4⟩ : ∃ v, v = own1 w3 G3 9 := ⟨_, rfl⟩
  rw [← hw4] at A4 I4 ⊢
  rw [← hG4] at A4 I4
  have HZ := Lib.hid (imgS_size m hm b0 b1 hl0 hl1)
  have HL := Lib.hid (And.intro hl0 hl1)
  clear hw4 hG4 cv3 Q3 Q3a I3 A3 HPD ID A2 q0 q1 q2 q3 q4 q5 q6 q7 q8 q9 hz1 hz2 hz3 hl0 hl1
  go_wp2_with fail
  go_loopw [4, 5] (fun v4 v5 wr => ∃ k : Nat, v5 = .int .i64 k ∧ k ≤ 2 ∧ v4 = .string (imgS m b0 b1 k) ∧ ∃ Gr, Adv S7 w (fun _ => 0) wr Gr ∧ Img8 wr Gr xi ba bc ra rc sb k0 k1 b0 b1 m) (fun _ v5 _ => 2 - (intOf v5).toNat)
  case atStart => exact ⟨0, rfl, by omega, rfl, G4, A4.out, I4.out⟩
  case round =>
    obtain ⟨k, rfl, hk2, rfl, Gr, ha, hi⟩ := hrel
    have HA := Lib.hid ha
    have HI := Lib.hid hi
    have x0 := block_cell hi.blk 0 _ rfl
    clear ha hi A4 I4
    by_cases hlt : k < 2
    · obtain ⟨kv, bv, hkv, hbl⟩ : ∃ kv bv, [(k0, b0), (k1, b1)][k]? = some (kv, bv) ∧ bv.length = 16384 := by
        rcases (show k = 0 ∨ k = 1 by omega) with rfl | rfl
        · exact ⟨k0, b0, rfl, HL.out.1⟩
        · exact ⟨k1, b1, rfl, HL.out.2⟩
      obtain ⟨g, da, dc, hba, cb, cvb⟩ := HI.out.bank k kv bv hkv hbl
      subst hba
      obtain ⟨s0, hs0⟩ : ∃ v, v = imgS m b0 b1 k := ⟨_, rfl⟩
      have hsz : s0.size ≤ 100000 := by rw [hs0]; exact HZ.out k hk2
      have hsb : (strOfNums bv).size = 16384 := by rw [strOfNums_size, hbl]
      rw [← hs0]
      have HS0 := Lib.hid hs0
      have HKV := Lib.hid hkv
      have k00 : (0 : Int) ≤ (k : Int) := Int.natCast_nonneg _
      have k01 : (k : Int) < 2 := by omega
      have q1 : decide ((k : Int) < 2) = true := by simp; omega
      have hwk : IntKind.i64.wrap ((k : Int) + 1) = (k : Int) + 1 := IntWalk.i64_in _ (by omega)
      clear hs0 hkv hbl
      go_wp2_with fail
      go_roundw
      case rel => exact ⟨k + 1, by simp, by omega, by rw [← imgS_step m b0 b1 bv k k0 k1 kv hlt HKV.out, HS0.out], Gr, HA.out, HI.out⟩
      case measure => simp only [intOf]; omega
    · obtain rfl : k = 2 := by omega
      have q1 : decide (((2 : Nat) : Int) < 2) = false := by simp
      go_wp2_with fail
      go_ret
      exact ⟨rfl, Gr, HA.out⟩
/-- A memory's text: it hangs on the memory alone. -/
theorem image_text (G : Nat → Nat) (q D : Nat) (m : MemS) (hm : MemOk m) (hr : MemR m) (hn : m.tones.length ≤ 1000000) (k0 k1 : Int) (b0 b1 : List Int) (hb : m.banks = [(k0, b0), (k1, b1)]) (hk : k0 < k1) (hk0 : 0 ≤ k0) (hk1 : k1 < 256) (w : World) (hp : PM w G q D m) :
    Calls Tryz.prog 33 #[.pointer (some ⟨D, 0, none⟩)] w fun e w' => e = .returned (.string (imgS m b0 b1 2)) ∧ ∃ G', Adv (fun _ => False) w G w' G' := by
  refine (imageT0 D m hm hr hn k0 k1 b0 b1 hb hk hk0 hk1 w (hp.relabel fun _ _ _ => rfl)).mono ?_
  rintro e w' ⟨rfl, G', ha⟩
  exact ⟨rfl, _, joined_adv ha (by unfold S7; decide)⟩
end Go.Proofs.YtdnalhjdmlkbmaaGreatDoor
namespace Go.Proofs.YtdnalhjdmlkbmaaGreatDoor
open Go.RowKit
set_option linter.unusedVariables false

/-- A world of wisplaw06 with owners i, j, q. -/
structure W6g (w : World) (G : Nat → Nat) (i j q K D R M : Nat) (d : List Int) (r : List (Int × Int)) (m : MemS) : Prop where
  wl : Wld w G K D R M
  tr : Trio w G i j q D R M d r m
  gd : Good3 d r m
section
variable {w w' : World} {G G' : Nat → Nat} {i j q K D R M : Nat} {d d' : List Int} {r r' : List (Int × Int)} {m m' : MemS}
theorem W6g.cells (h : W6g w G i j q K D R M d r m) : w.cell? ⟨K, 0, none⟩ = some (.pointer (some ⟨D, 0, none⟩)) ∧ w.cell? ⟨K, 1, none⟩ = some (.pointer (some ⟨R, 0, none⟩)) ∧ w.cell? ⟨K, 2, none⟩ = some (.pointer (some ⟨M, 0, none⟩)) := by
  obtain ⟨x, y, z, h1, _⟩ := h.wl
  exact ⟨block_cell h1 0 _ rfl, block_cell h1 1 _ rfl, block_cell h1 2 _ rfl⟩
theorem W6g.adv {S : Nat → Prop} (h : W6g w G i j q K D R M d r m) (ha : Adv S w G w' G') (h0 : ¬ S 0) (h1 : ¬ S i) (h2 : ¬ S j) (h3 : ¬ S q) : W6g w' G' i j q K D R M d r m := by
  obtain ⟨x, y, z, k1, k2⟩ := h.wl
  have hl : K < w.heap.size := (Array.getElem?_eq_some_iff.1 k1).1
  exact ⟨⟨x, y, z, (ha.keep K hl (by rw [k2]; exact h0)).trans k1, (ha.own K hl).trans k2⟩, h.tr.adv ha h1 h2 h3, h.gd⟩
theorem W6g.still (h : W6g w G i j q K D R M d r m) (ha : Adv (fun _ => False) w G w' G') : W6g w' G' i j q K D R M d r m := h.adv ha id id id id
theorem W6g.next (o : Own3 i j q) (h : W6g w G i j q K D R M d r m) (ha : Adv (S3 i j q) w G w' G') (ht : Trio w' G' i j q D R M d' r' m') (hg : Good3 d' r' m') : W6g w' G' i j q K D R M d' r' m' := by
  obtain ⟨x, y, z, h1, h2⟩ := h.wl
  have hl : K < w.heap.size := (Array.getElem?_eq_some_iff.1 h1).1
  exact ⟨⟨x, y, z, (ha.keep K hl (by rw [h2]; exact o.zero)).trans h1, (ha.own K hl).trans h2⟩, ht, hg⟩
end
theorem own567 : Own3 5 6 7 := ⟨by decide, by decide, by decide, by decide, by decide, by decide⟩

/-- born, its parts named i, j, q. -/
theorem bornG (G : Nat → Nat) (i j q : Nat) (xa : Option Addr) (m c : Nat) (l : List Int) (ya : Option Addr) (m2 c2 : Nat) (lr : List (Int × Int)) (w : World) (hl : l.length = m) (hr : Reads w xa (cellsU l)) (hcap : m ≤ c) (hc1 : c ≤ 9223372036854775807)
    (hlr : lr.length = m2) (hrr : Reads w ya (cellsR lr)) (hcap2 : m2 ≤ c2) (hc2 : c2 ≤ 9223372036854775807) (hwf : ∀ c ∈ lr, -9223372036854775808 ≤ c.1 ∧ c.1 ≤ 9223372036854775807) (hd : D16 l) (hR : R16 lr) :
    Calls Tryz.prog 9 #[.slice xa m c, .slice ya m2 c2] w fun e w' => ∃ K D R M G', e = .returned (.pointer (some ⟨K, 0, none⟩)) ∧ Adv (fun _ => False) w G w' G' ∧ W6g w' G' i j q K D R M (l.take 256) ((lr.take 128).map normR) (newM banks2) := by
  refine (bornR (fun _ => 0) xa m c l ya m2 c2 lr w hl hr hcap hc1 hlr hrr hcap2 hc2 hwf).mono ?_
  rintro e w' ⟨K, D, R, M, G1, rfl, ha, hw, hu, hp, hm, hK⟩
  obtain ⟨x, y, z, k1, k2⟩ := hw
  obtain ⟨H, hH⟩ : ∃ H : Nat → Nat, H = fun b => if b < w.heap.size then G b else if G1 b = 1 then i else if G1 b = 2 then j else if G1 b = 3 then q else 0 := ⟨_, rfl⟩
  have hold : ∀ b, b < w.heap.size → H b = G b := fun b hb => by rw [hH]; exact if_pos hb
  have hnew : ∀ b v, v ≠ 0 → G1 b = v → ¬ b < w.heap.size := fun b v hv hb hlt => hv (by rw [← hb, ha.own b hlt])
  refine ⟨K, D, R, M, H, rfl, ha.relabel (fun _ _ h => h) hold, ⟨x, y, z, k1, ?_⟩, ⟨hu.relabel ?_, hp.relabel ?_, hm.relabel ?_⟩, ⟨hd.take _, ?_, ?_, ?_, banks2_ok, banks2_rng⟩⟩
  · rw [hH]; simp only []; rw [if_neg (by omega), if_neg (by rw [k2]; decide), if_neg (by rw [k2]; decide), if_neg (by rw [k2]; decide)]
  · intro b _ hb; rw [hH]; simp only []; rw [if_neg (hnew b 1 (by decide) hb), if_pos hb]
  · intro b _ hb; rw [hH]; simp only []; rw [if_neg (hnew b 2 (by decide) hb), if_neg (by rw [hb]; decide), if_pos hb]
  · intro b _ hb; rw [hH]; simp only []; rw [if_neg (hnew b 3 (by decide) hb), if_neg (by rw [hb]; decide), if_neg (by rw [hb]; decide), if_pos hb]
  · intro c hc
    obtain ⟨c', hc', rfl⟩ := List.mem_map.1 hc
    exact hR c' (List.mem_of_mem_take hc')
  · rw [List.length_take]; omega
  · rw [List.length_map, List.length_take]; omega
/-- Cells that lie in memory of nobody's. -/
def Has (w : World) (G : Nat → Nat) (b : Option Addr) (xs : List Value) : Prop := Reads w b xs ∧ ∀ ad, b = some ad → G ad.block = 0 ∧ ad.block < w.heap.size
theorem Has.adv {S : Nat → Prop} {w w' : World} {G G' : Nat → Nat} {b : Option Addr} {xs : List Value} (h : Has w G b xs) (ha : Adv S w G w' G') (h0 : ¬ S 0) : Has w' G' b xs :=
  ⟨h.1.adv ha fun ad e => by rw [(h.2 ad e).1]; exact h0, fun ad e => ⟨(ha.own _ (h.2 ad e).2).trans (h.2 ad e).1, Nat.lt_of_lt_of_le (h.2 ad e).2 ha.size⟩⟩
/-- The text of a memory with the banks 0 and 9. -/
def bk (m : MemS) (i : Nat) : List Int := (m.banks.getD i (0, [])).2
def textF (m : MemS) : ByteArray := imgS m (bk m 0) (bk m 1) 2
theorem text_any (G : Nat → Nat) (q D : Nat) (m : MemS) (hm : MemOk m) (hr : MemR m) (hn : m.tones.length ≤ 1000000) (hk : keysF m = [0, 9]) (w : World) (hp : PM w G q D m) :
    Calls Tryz.prog 33 #[.pointer (some ⟨D, 0, none⟩)] w fun e w' => e = .returned (.string (textF m)) ∧ ∃ G', Adv (fun _ => False) w G w' G' := by
  obtain ⟨b0, b1, hb⟩ := two_banks hk
  have h0 : bk m 0 = b0 := by unfold bk; rw [hb]; rfl
  have h1 : bk m 1 = b1 := by unfold bk; rw [hb]; rfl
  unfold textF
  rw [h0, h1]
  exact image_text G q D m hm hr hn 0 9 b0 b1 hb (by decide) (by decide) (by decide) w hp
def CellsFull (w : World) (G : Nat → Nat) (l : List Int) (e : Ending) (w' : World) : Prop := ∃ b G', e = .returned (.slice b l.length l.length) ∧ Adv (fun _ => False) w G w' G' ∧ Has w' G' b (cellsU l)
theorem cellsU_full (G : Nat → Nat) (i D : Nat) (l : List Int) (w : World) (hp : PU w G i D l) (h1 : l.length ≤ 256) : Calls Tryz.prog 30 #[.pointer (some ⟨D, 0, none⟩)] w (CellsFull w G l) := by
  by_cases h0 : l = []
  · subst h0
    refine (cellsPU_nil G i D w hp).mono fun e w' k => ?_
    obtain ⟨k1, rfl⟩ := k
    exact ⟨none, G, k1, Adv.refl _ _ _, .inl rfl, fun ad h => by cases h⟩
  · refine (cellsPU G i D l w hp h0 (by omega)).mono fun e w' k => ?_
    obtain ⟨k1, rfl⟩ := k
    exact ⟨_, own1 w G 0, k1, (Adv.refl _ w G).alloc _ 0, Reads.new w (cellsU l) 31, fun ad h => by cases h; exact ⟨own1_new _ _ _, by simp⟩⟩
def NewCellsK (w : World) (G : Nat → Nat) (l : List (Int × Int)) (e : Ending) (w' : World) : Prop := ∃ b c G', e = .returned (.slice b l.length c) ∧ Adv (fun _ => False) w G w' G' ∧ Reads w' b (cellsR l) ∧ (∀ ad, b = some ad → G' ad.block = 0 ∧ ad.block < w'.heap.size)
theorem cellsR_new (G : Nat → Nat) (i D : Nat) (l : List (Int × Int)) (w : World) (hp : PR w G i D l) (h1 : l.length ≤ 256) : Calls Tryz.prog 31 #[.pointer (some ⟨D, 0, none⟩)] w (NewCellsK w G l) := by
  by_cases h0 : l = []
  · subst h0
    refine (cellsPR_nil G i D w hp).mono fun e w' k => ?_
    obtain ⟨k1, rfl⟩ := k
    exact ⟨none, 0, G, k1, Adv.refl _ _ _, .inl rfl, fun ad h => by cases h⟩
  · refine (cellsPR G i D l w hp h0 (by omega)).mono fun e w' k => ?_
    obtain ⟨k1, rfl⟩ := k
    exact ⟨_, _, own1 w G 0, k1, (Adv.refl _ w G).alloc _ 0, Reads.new w (cellsR l) 111, fun ad h => by cases h; exact ⟨own1_new _ _ _, by simp⟩⟩
/-- Both worlds, the tables, and a primitive's row in block P. -/
structure KW (w : World) (G : Nat → Nat) (K D R M : Nat) (d : List Int) (r : List (Int × Int)) (m : MemS) (K2 D2 R2 M2 : Nat) (d2 : List Int) (r2 : List (Int × Int)) (m2 : MemS) (P k : Nat) : Prop where
  a : W6g w G 1 2 3 K D R M d r m
  b : W6g w G 5 6 7 K2 D2 R2 M2 d2 r2 m2
  tb : Tabs w G
  pr : w.heap[P]? = some (.cells #[.int .i64 k, .string (nameB k), .int .i64 (takesN k), .int .i64 (leavesN k), .int .i64 (costsN k), .bool (operandB k)] 85 (0, 0)) ∧ G P = 0
section
variable {w w' : World} {G G' : Nat → Nat} {K D R M : Nat} {d d' : List Int} {r r' : List (Int × Int)} {m m' : MemS} {K2 D2 R2 M2 : Nat} {d2 d2' : List Int} {r2 r2' : List (Int × Int)} {m2 m2' : MemS} {P k : Nat}
theorem KW.prm {S : Nat → Prop} (h : KW w G K D R M d r m K2 D2 R2 M2 d2 r2 m2 P k) (ha : Adv S w G w' G') (h0 : ¬ S 0) : w'.heap[P]? = some (.cells #[.int .i64 k, .string (nameB k), .int .i64 (takesN k), .int .i64 (leavesN k), .int .i64 (costsN k), .bool (operandB k)] 85 (0, 0)) ∧ G' P = 0 := by
  have hl : P < w.heap.size := (Array.getElem?_eq_some_iff.1 h.pr.1).1
  exact ⟨(ha.keep P hl (by rw [h.pr.2]; exact h0)).trans h.pr.1, (ha.own P hl).trans h.pr.2⟩
theorem KW.still (h : KW w G K D R M d r m K2 D2 R2 M2 d2 r2 m2 P k) (ha : Adv (fun _ => False) w G w' G') : KW w' G' K D R M d r m K2 D2 R2 M2 d2 r2 m2 P k := ⟨h.a.still ha, h.b.still ha, h.tb.adv ha id, h.prm ha id⟩
theorem KW.next1 (h : KW w G K D R M d r m K2 D2 R2 M2 d2 r2 m2 P k) (ha : Adv (S3 1 2 3) w G w' G') (ht : Trio w' G' 1 2 3 D R M d' r' m') (hg : Good3 d' r' m') : KW w' G' K D R M d' r' m' K2 D2 R2 M2 d2 r2 m2 P k :=
  ⟨h.a.next own123 ha ht hg, h.b.adv ha own123.zero (by unfold S3; decide) (by unfold S3; decide) (by unfold S3; decide), h.tb.adv ha own123.zero, h.prm ha own123.zero⟩
theorem KW.next2 (h : KW w G K D R M d r m K2 D2 R2 M2 d2 r2 m2 P k) (ha : Adv (S3 5 6 7) w G w' G') (ht : Trio w' G' 5 6 7 D2 R2 M2 d2' r2' m2') (hg : Good3 d2' r2' m2') : KW w' G' K D R M d r m K2 D2 R2 M2 d2' r2' m2' P k :=
  ⟨h.a.adv ha own567.zero (by unfold S3; decide) (by unfold S3; decide) (by unfold S3; decide), h.b.next own567 ha ht hg, h.tb.adv ha own567.zero, h.prm ha own567.zero⟩
/-- Do in the first world. -/
theorem KW.do1 (hk : k < 64) (hpl : plainB k = true) (h : KW w G K D R M d r m K2 D2 R2 M2 d2 r2 m2 P k) (hn : m.tones.length ≤ 99999) :
    Calls Tryz.prog 23 #[.int .i64 k, .pointer (some ⟨D, 0, none⟩), .pointer (some ⟨R, 0, none⟩), .pointer (some ⟨M, 0, none⟩)] w fun e w' => e = .returned (.int .i64 (faultF k d r)) ∧ ∃ G', Adv (S3 1 2 3) w G w' G' ∧ KW w' G' K D R M (doF k d r m).1 (doF k d r m).2.1 (doF k d r m).2.2 K2 D2 R2 M2 d2 r2 m2 P k :=
  (do_any k hk hpl G 1 2 3 D R M d r m own123 h.a.gd hn w h.tb h.a.tr).mono fun e w' hl => by
    obtain ⟨h1, G', h2, h3⟩ := hl
    exact ⟨h1, G', h2, h.next1 h2 h3 (doF_good k hk h.a.gd).1⟩
theorem KW.do2 (hk : k < 64) (hpl : plainB k = true) (h : KW w G K D R M d r m K2 D2 R2 M2 d2 r2 m2 P k) (hn : m2.tones.length ≤ 99999) :
    Calls Tryz.prog 23 #[.int .i64 k, .pointer (some ⟨D2, 0, none⟩), .pointer (some ⟨R2, 0, none⟩), .pointer (some ⟨M2, 0, none⟩)] w fun e w' => e = .returned (.int .i64 (faultF k d2 r2)) ∧ ∃ G', Adv (S3 5 6 7) w G w' G' ∧ KW w' G' K D R M d r m K2 D2 R2 M2 (doF k d2 r2 m2).1 (doF k d2 r2 m2).2.1 (doF k d2 r2 m2).2.2 P k :=
  (do_any k hk hpl G 5 6 7 D2 R2 M2 d2 r2 m2 own567 h.b.gd hn w h.tb h.b.tr).mono fun e w' hl => by
    obtain ⟨h1, G', h2, h3⟩ := hl
    exact ⟨h1, G', h2, h.next2 h2 h3 (doF_good k hk h.b.gd).1⟩
theorem KW.begin2 (x : Int) (hx : 0 ≤ x ∧ x < 256) (h : KW w G K D R M d r m K2 D2 R2 M2 d2 r2 m2 P k) :
    Calls Tryz.prog 28 #[.pointer (some ⟨M2, 0, none⟩), .int .u8 x] w fun e w' => e = .returned (.tuple #[]) ∧ ∃ G', Adv (S3 5 6 7) w G w' G' ∧ KW w' G' K D R M d r m K2 D2 R2 M2 d2 r2 (beginF m2 x) P k :=
  (begin_any G 7 M2 m2 h.b.gd.mo h.b.gd.mr x w h.b.tr.pm).mono fun e w' hl => by
    obtain ⟨h1, G', h2, h3⟩ := hl
    obtain ⟨h4, h5⟩ := h.b.tr.mem own567 h2 h3
    exact ⟨h1, G', h4, h.next2 h4 h5 ⟨h.b.gd.d16, h.b.gd.r16, h.b.gd.dl, h.b.gd.rl, beginF_ok h.b.gd.mo x, beginF_rng h.b.gd.mr hx⟩⟩
theorem KW.store2 (a x : Int) (ha : 0 ≤ a ∧ a < 65536) (hx : 0 ≤ x ∧ x < 256) (hn : m2.tones.length ≤ 99999) (h : KW w G K D R M d r m K2 D2 R2 M2 d2 r2 m2 P k) :
    Calls Tryz.prog 29 #[.pointer (some ⟨M2, 0, none⟩), .int .u16 a, .int .u8 x] w fun e w' => e = .returned (.tuple #[]) ∧ ∃ G', Adv (S3 5 6 7) w G w' G' ∧ KW w' G' K D R M d r m K2 D2 R2 M2 d2 r2 (storeF m2 a x) P k :=
  (h.b.tr.store own567 h.b.gd.mo hn a ha.1 ha.2 x).mono fun e w' hl => by
    obtain ⟨h1, G', h2, h3⟩ := hl
    exact ⟨h1, G', h2, h.next2 h2 h3 ⟨h.b.gd.d16, h.b.gd.r16, h.b.gd.dl, h.b.gd.rl, storeF_ok _ h.b.gd.mo _ _, storeF_rng h.b.gd.mr _ hx⟩⟩
end
end Go.Proofs.YtdnalhjdmlkbmaaGreatDoor
namespace Go.Proofs.YtdnalhjdmlkbmaaGreatDoor
open Go.RowKit

/-- The document's data stack, return stack. -/
def EU (w : World) (G : Nat → Nat) (i D : Nat) (l : List Int) : Prop := ∃ v, Pile 31 119 1 w G i D v l.length (cellsU l)
def ER (w : World) (G : Nat → Nat) (i D : Nat) (l : List (Int × Int)) : Prop := ∃ v, Pile 111 121 2 w G i D v l.length (cellsR l)
theorem EU.adv {w w' : World} {G G' : Nat → Nat} {i D : Nat} {l : List Int} {S : Nat → Prop} (h : EU w G i D l) (ha : Adv S w G w' G') (hs : ¬ S i) : EU w' G' i D l := h.imp fun _ h => h.adv ha hs
theorem ER.adv {w w' : World} {G G' : Nat → Nat} {i D : Nat} {l : List (Int × Int)} {S : Nat → Prop} (h : ER w G i D l) (ha : Adv S w G w' G') (hs : ¬ S i) : ER w' G' i D l := h.imp fun _ h => h.adv ha hs

theorem Pile.row' {e T size : Nat} {w : World} {G : Nat → Nat} {i D : Nat} {v : Value} {n : Nat} {xs : List Value} (h : Pile e T size w G i D v n xs) : Row e size w G i v n xs := ⟨h.row, h.rown⟩
/-- Another row of i's is laid into the pointer's cell. -/
theorem Pile.put {e T size : Nat} {w w1 : World} {G G1 : Nat → Nat} {i D : Nat} {v v' : Value} {n m : Nat} {xs ys : List Value} (h : Pile e T size w G i D v n xs) (ha : Adv (fun _ => False) w G w1 G1) (hr : Row e size w1 G1 i v' m ys) (hne : v'.ownBlock ≠ some D) :
    Adv (· = i) w G (w1.setCell ⟨D, 0, none⟩ v') G1 ∧ Pile e T size (w1.setCell ⟨D, 0, none⟩ v') G1 i D v' m ys := by
  have h1 := h.adv ha id
  refine ⟨(ha.mono (fun _ h => h.elim)).setCell (p := ⟨D, 0, none⟩) h1.hown v', ?_, h1.hown, ?_, hr.own, hne⟩
  · simp only [World.setCell, Array.getElem?_modify, h1.head]; simp
  · exact ownsRow_of_block hr.row fun b e => Below.heap_setCell _ _ _ _ (fun x => hne (by rw [e]; exact congrArg some x))

/-- Need, as the document has it. -/
theorem refNeed (G : Nat → Nat) (i D : Nat) (l : List Int) (p q : Int) (w : World) (hp : EU w G i D l) (hn : l.length ≤ 256) (h1 : p ≤ 9223372036854775807) (h2 : q ≤ 9223372036854775807) :
    Calls Tryz.prog 134 #[.pointer (some ⟨D, 0, none⟩), .int .i64 p, .int .i64 q] w fun e w' => e = .returned (.int .i64 (needF l.length p q)) ∧ w = w' := by
  obtain ⟨v, h⟩ := hp
  obtain ⟨a, c, rfl⟩ := h.slice
  obtain ⟨n, hln⟩ : ∃ n, n = l.length := ⟨_, rfl⟩
  rw [← hln]
  have hc := h.cell
  rw [← hln] at hc hn
  clear h hln
  go_enter Tryz.func134, Tryz.ntmps134
  go_wp2
  all_goals
    go_ret
    exact ⟨ret_int (by unfold needF; (repeat' split) <;> omega), rfl⟩
theorem refPush_no (G : Nat → Nat) (i D : Nat) (l : List Int) (xa : Option Addr) (n c : Nat) (w : World) (hp : EU w G i D l) (hl : l.length ≤ 256) (hn : n ≤ 100000000000000) (hfull : 256 < l.length + n) :
    Calls Tryz.prog 40 #[.pointer (some ⟨D, 0, none⟩), .slice xa n c] w fun e w' => e = .returned (.int .i64 2) ∧ w = w' := by
  obtain ⟨v, h⟩ := hp
  obtain ⟨a, cap, rfl⟩ := h.slice
  obtain ⟨m, hm⟩ : ∃ m, m = l.length := ⟨_, rfl⟩
  have hc := h.cell
  rw [← hm] at hc hl hfull
  have hd : decide (256 < (m : Int) + n) = true := by simp; omega
  clear h hm
  go_enter Tryz.func40, Tryz.ntmps40
  go_wp2
  go_ret
  exact ⟨rfl, rfl⟩
set_option maxHeartbeats 1000000 in
theorem refPush (G : Nat → Nat) (i D : Nat) (l m : List Int) (xa : Option Addr) (n c : Nat) (w : World) (hp : EU w G i D l) (hn : m.length = n) (hroom : l.length + n ≤ 256) (hr : Reads w xa (cellsU m)) :
    Calls Tryz.prog 40 #[.pointer (some ⟨D, 0, none⟩), .slice xa n c] w fun e w' => e = .returned (.int .i64 0) ∧ ∃ G', Adv (· = i) w G w' G' ∧ EU w' G' i D (l ++ m) := by
  obtain ⟨v, h⟩ := hp
  obtain ⟨a, cap, rfl⟩ := h.slice
  obtain ⟨k, hk⟩ : ∃ k, k = l.length := ⟨_, rfl⟩
  rw [← hk] at h hroom
  have hc := h.cell
  have hf := h.frozen
  have hd : decide (256 < (k : Int) + n) = false := by simp; omega
  obtain ⟨i0, hi, hz0, hz1, hz2⟩ := info_parts Tryz.info31
  have HP := Lib.hid h
  have HK := Lib.hid hk
  have HN := Lib.hid hn
  have HR := Lib.hid hr
  have hD := h.lt
  have hrl := h.reads.1.alloc (.cells #[] 31)
  have hA0 := (Adv.refl (fun i => i = 1) w (fun _ => 0)).alloc (.cells #[] 31) 1
  have hR0 := Row.new w (fun _ => 0) 31 1 1 0 [] (Nat.zero_le _) rfl
  obtain ⟨G1, hG1⟩ : ∃ G1, G1 = own1 w (fun _ => 0) 1 := ⟨_, rfl⟩
  rw [← hG1] at hA0 hR0
  have HA0 := Lib.hid hA0
  have HR0 := Lib.hid hR0
  have HRL := Lib.hid hrl
  clear h hk hn hr hrl hA0 hR0 hG1
  have hk256 : k ≤ 256 := by omega
  go_enter Tryz.func40, Tryz.ntmps40
  go_wp2_with (first
    | (at_builtin; refine wpList_append_reads rfl (.tmp 15) (.tmp 19) 22 rfl 31 i0 (.int .u16 0) 1 2 Tryz.underlying22 hi hz0 hz1 hz2 rfl (by decide) G1 1 (some ⟨w.heap.size, 0, none⟩) 0 0 [] rfl HR0.out a k cap (cellsU l) rfl (by rw [cellsU_length, ← HK.out, Nat.mul_one]) HRL.out (cellsU_one l) (by unfold maxLen; omega) (by omega) ?_; intro va1 vc1 w1 G2 h1 h2; rw [Nat.zero_add, List.nil_append] at h1; rw [Nat.zero_add]; have HR1 := Lib.hid h1; have HA1 := Lib.hid (HA0.out.trans h2); clear h1 h2)
    | (at_builtin; refine wpList_append_reads rfl (.tmp 20) (.tmp 21) 22 rfl 31 i0 (.int .u16 0) 1 2 Tryz.underlying22 hi hz0 hz1 hz2 rfl (by decide) G2 1 va1 k vc1 (cellsU l) rfl HR1.out xa n c (cellsU m) rfl (by rw [cellsU_length, HN.out, Nat.mul_one]) (HR.out.adv HA1.out (fun _ _ => by omega)) (cellsU_one m) (by unfold maxLen; omega) (by omega) ?_; intro va2 vc2 w2 G3 h1 h2; have hc2 := (HA1.out.trans h2).cell_some hc (by show ¬ (0 = 1); omega); have hf2 : w2.frozen? ⟨D, 0, none⟩ = false := (World.frozen?_of_block ((HA1.out.trans h2).keep D hD (by show ¬ (0 = 1); omega))).trans hf; have HR2 := Lib.hid h1; have HA2 := Lib.hid (HA1.out.trans h2); clear h1 h2))
  go_ret
  have hne : (Value.slice va2 (k + n) vc2).ownBlock ≠ some D := by
    intro e
    have h1 := HR2.out.own D e
    rw [HA2.out.own D hD] at h1
    exact absurd h1 (by show ¬ (0 = 1); omega)
  have ha : Adv (fun _ => False) w G w2 (named w G G3 i 0) := HA2.out.relabel (fun _ _ => by omega) (fun _ hb => named_old hb)
  have hr : Row 31 1 w2 (named w G G3 i 0) i (.slice va2 (k + n) vc2) (k + n) (cellsU l ++ cellsU m) := ⟨HR2.out.row, fun b e => named_1 HA2.out b (HR2.out.row.lt b e).2 (HR2.out.own b e)⟩
  have hput := HP.out.put ha hr hne
  exact ⟨rfl, _, hput.1, _, by rw [List.length_append, cellsU_append, ← HK.out, HN.out]; exact hput.2⟩
end Go.Proofs.YtdnalhjdmlkbmaaGreatDoor
namespace Go.Proofs.YtdnalhjdmlkbmaaGreatDoor
open Go.RowKit

theorem refPushR_no (G : Nat → Nat) (i D : Nat) (l : List (Int × Int)) (xa : Option Addr) (n c : Nat) (w : World) (hp : ER w G i D l) (hl : l.length ≤ 128) (hn : n ≤ 100000000000000) (hfull : 128 < l.length + n) :
    Calls Tryz.prog 42 #[.pointer (some ⟨D, 0, none⟩), .slice xa n c] w fun e w' => e = .returned (.int .i64 4) ∧ w = w' := by
  obtain ⟨v, h⟩ := hp
  obtain ⟨a, cap, rfl⟩ := h.slice
  obtain ⟨m, hm⟩ : ∃ m, m = l.length := ⟨_, rfl⟩
  have hc := h.cell
  rw [← hm] at hc hl hfull
  have hd : decide (128 < (m : Int) + n) = true := by simp; omega
  clear h hm
  go_enter Tryz.func42, Tryz.ntmps42
  go_wp2
  go_ret
  exact ⟨rfl, rfl⟩
set_option maxHeartbeats 1000000 in
theorem refPushR (G : Nat → Nat) (i D : Nat) (l m : List (Int × Int)) (xa : Option Addr) (n c : Nat) (w : World) (hp : ER w G i D l) (hn : m.length = n) (hroom : l.length + n ≤ 128) (hr : Reads w xa (cellsR m)) :
    Calls Tryz.prog 42 #[.pointer (some ⟨D, 0, none⟩), .slice xa n c] w fun e w' => e = .returned (.int .i64 0) ∧ ∃ G', Adv (· = i) w G w' G' ∧ ER w' G' i D (l ++ m) := by
  obtain ⟨v, h⟩ := hp
  obtain ⟨a, cap, rfl⟩ := h.slice
  obtain ⟨k, hk⟩ : ∃ k, k = l.length := ⟨_, rfl⟩
  rw [← hk] at h hroom
  have hc := h.cell
  have hf := h.frozen
  have hd : decide (128 < (k : Int) + n) = false := by simp; omega
  obtain ⟨i0, hi, hz0, hz1, hz2⟩ := info_parts Tryz.info111
  have HP := Lib.hid h
  have HK := Lib.hid hk
  have HN := Lib.hid hn
  have HR := Lib.hid hr
  have hD := h.lt
  have hrl := h.reads.1.alloc (.cells #[] 111)
  have hA0 := (Adv.refl (fun i => i = 1) w (fun _ => 0)).alloc (.cells #[] 111) 1
  have hR0 := Row.new w (fun _ => 0) 111 2 1 0 [] (Nat.zero_le _) rfl
  obtain ⟨G1, hG1⟩ : ∃ G1, G1 = own1 w (fun _ => 0) 1 := ⟨_, rfl⟩
  rw [← hG1] at hA0 hR0
  have HA0 := Lib.hid hA0
  have HR0 := Lib.hid hR0
  have HRL := Lib.hid hrl
  clear h hk hn hr hrl hA0 hR0 hG1
  have hk256 : k ≤ 128 := by omega
  go_enter Tryz.func42, Tryz.ntmps42
  go_wp2_with (first
    | (at_builtin; refine wpList_append_reads rfl (.tmp 15) (.tmp 19) 23 rfl 111 i0 (.agg #[.int .i64 0, .int .u16 0]) 2 16 Tryz.underlying23 hi hz0 hz1 hz2 rfl (by decide) G1 1 (some ⟨w.heap.size, 0, none⟩) 0 0 [] rfl HR0.out a k cap (cellsR l) rfl (by rw [cellsR_length, ← HK.out]) HRL.out (cellsR_one l) (by unfold maxLen; omega) (by omega) ?_; intro va1 vc1 w1 G2 h1 h2; rw [Nat.zero_add, List.nil_append] at h1; rw [Nat.zero_add]; have HR1 := Lib.hid h1; have HA1 := Lib.hid (HA0.out.trans h2); clear h1 h2)
    | (at_builtin; refine wpList_append_reads rfl (.tmp 20) (.tmp 21) 23 rfl 111 i0 (.agg #[.int .i64 0, .int .u16 0]) 2 16 Tryz.underlying23 hi hz0 hz1 hz2 rfl (by decide) G2 1 va1 k vc1 (cellsR l) rfl HR1.out xa n c (cellsR m) rfl (by rw [cellsR_length, HN.out]) (HR.out.adv HA1.out (fun _ _ => by omega)) (cellsR_one m) (by unfold maxLen; omega) (by omega) ?_; intro va2 vc2 w2 G3 h1 h2; have hc2 := (HA1.out.trans h2).cell_some hc (by show ¬ (0 = 1); omega); have hf2 : w2.frozen? ⟨D, 0, none⟩ = false := (World.frozen?_of_block ((HA1.out.trans h2).keep D hD (by show ¬ (0 = 1); omega))).trans hf; have HR2 := Lib.hid h1; have HA2 := Lib.hid (HA1.out.trans h2); clear h1 h2))
  go_ret
  have hne : (Value.slice va2 (k + n) vc2).ownBlock ≠ some D := by
    intro e
    have h1 := HR2.out.own D e
    rw [HA2.out.own D hD] at h1
    exact absurd h1 (by show ¬ (0 = 1); omega)
  have ha : Adv (fun _ => False) w G w2 (named w G G3 i 0) := HA2.out.relabel (fun _ _ => by omega) (fun _ hb => named_old hb)
  have hr : Row 111 2 w2 (named w G G3 i 0) i (.slice va2 (k + n) vc2) (k + n) (cellsR l ++ cellsR m) := ⟨HR2.out.row, fun b e => named_1 HA2.out b (HR2.out.row.lt b e).2 (HR2.out.own b e)⟩
  have hput := HP.out.put ha hr hne
  exact ⟨rfl, _, hput.1, _, by rw [List.length_append, cellsR_append, ← HK.out, HN.out]; exact hput.2⟩

theorem refAt_out (D : Nat) (a : Option Addr) (m cap : Nat) (n kind : Int) (w : World) (hc : w.cell? ⟨D, 0, none⟩ = some (.slice a m cap)) (hn : n < 0 ∨ (m : Int) ≤ n) :
    Calls Tryz.prog 166 #[.pointer (some ⟨D, 0, none⟩), .int .i64 n, .int .i64 kind] w fun e w' => e = .returned (.tuple #[.int .u16 0, .int .i64 3]) ∧ w = w' := by
  by_cases h1 : n < 0
  · have h2 : decide (n < 0) = true := by simpa using h1
    go_enter Tryz.func166, Tryz.ntmps166
    go_wp2
    go_ret2
    exact ⟨rfl, rfl⟩
  · have h2 : decide (n < 0) = false := by simpa using h1
    have h3 : decide ((m : Int) ≤ n) = true := by simp; omega
    go_enter Tryz.func166, Tryz.ntmps166
    go_wp2
    go_ret2
    exact ⟨rfl, rfl⟩
set_option maxHeartbeats 1000000 in
theorem refAt_same (D g : Nat) (m cap j k : Nat) (c1 c2 : Int) (w : World) (hc : w.cell? ⟨D, 0, none⟩ = some (.slice (some ⟨g, 0, none⟩) m cap)) (hm : m ≤ 100000) (hj : j + k + 1 = m)
    (h1 : w.cell? ⟨g, k * 2, none⟩ = some (.int .i64 c1)) (h2 : w.cell? ⟨g, k * 2 + 1, none⟩ = some (.int .u16 c2)) :
    Calls Tryz.prog 166 #[.pointer (some ⟨D, 0, none⟩), .int .i64 j, .int .i64 c1] w fun e w' => e = .returned (.tuple #[.int .u16 c2, .int .i64 0]) ∧ w' = (w.alloc (.cells #[.int .i64 c1, .int .u16 c2] 111)).drew := by
  have hd1 : decide ((j : Int) < 0) = false := by simp
  have hd2 : decide (m ≤ j) = false := by simp; omega
  have hw1 : IntKind.i64.wrap ((m : Int) - 1) = (m : Int) - 1 := IntWalk.i64_in _ (by omega)
  have hw2 : IntKind.i64.wrap ((m : Int) - 1 - (j : Int)) = (k : Int) := by
    rw [IntWalk.i64_in _ (by omega)]; omega
  have hk0 : (0 : Int) ≤ (k : Int) := Int.natCast_nonneg _
  have hk1 : (k : Int) < (m : Int) := by omega
  have hg := World.block_lt_of_cell? w _ h1
  have hD := World.block_lt_of_cell? w _ hc
  clear hj
  go_enter Tryz.func166, Tryz.ntmps166
  go_wp2_with fail
  go_region
  all_goals (go_wp2; go_ret2; exact ⟨rfl, rfl⟩)
set_option maxHeartbeats 1000000 in
theorem refAt_other (D g : Nat) (m cap j k : Nat) (kind c1 c2 : Int) (hb : (c1 != kind) = true) (w : World) (hc : w.cell? ⟨D, 0, none⟩ = some (.slice (some ⟨g, 0, none⟩) m cap)) (hm : m ≤ 100000) (hj : j + k + 1 = m)
    (h1 : w.cell? ⟨g, k * 2, none⟩ = some (.int .i64 c1)) (h2 : w.cell? ⟨g, k * 2 + 1, none⟩ = some (.int .u16 c2)) :
    Calls Tryz.prog 166 #[.pointer (some ⟨D, 0, none⟩), .int .i64 j, .int .i64 kind] w fun e w' => e = .returned (.tuple #[.int .u16 0, .int .i64 5]) ∧ w' = (w.alloc (.cells #[.int .i64 c1, .int .u16 c2] 111)).drew := by
  have hd1 : decide ((j : Int) < 0) = false := by simp
  have hd2 : decide (m ≤ j) = false := by simp; omega
  have hw1 : IntKind.i64.wrap ((m : Int) - 1) = (m : Int) - 1 := IntWalk.i64_in _ (by omega)
  have hw2 : IntKind.i64.wrap ((m : Int) - 1 - (j : Int)) = (k : Int) := by
    rw [IntWalk.i64_in _ (by omega)]; omega
  have hk0 : (0 : Int) ≤ (k : Int) := Int.natCast_nonneg _
  have hk1 : (k : Int) < (m : Int) := by omega
  have hg := World.block_lt_of_cell? w _ h1
  have hD := World.block_lt_of_cell? w _ hc
  have hk : ¬ c1 = kind := by simpa using hb
  clear hj
  go_enter Tryz.func166, Tryz.ntmps166
  go_wp2_with fail
  go_region
  all_goals (go_wp2; go_ret2; exact ⟨rfl, rfl⟩)

/-- At, as the document has it. -/
theorem refAt (G : Nat → Nat) (i D : Nat) (l : List (Int × Int)) (n kind : Int) (w : World) (hp : ER w G i D l) (hm : l.length ≤ 100000) :
    Calls Tryz.prog 166 #[.pointer (some ⟨D, 0, none⟩), .int .i64 n, .int .i64 kind] w fun e w' => e = .returned (.tuple #[.int .u16 (atV l n kind), .int .i64 (atE l n kind)]) ∧ ∃ G', Adv (fun _ => False) w G w' G' := by
  obtain ⟨v, h⟩ := hp
  obtain ⟨a, cap, rfl⟩ := h.slice
  by_cases hn : 0 ≤ n ∧ n < l.length
  · obtain ⟨j, rfl⟩ : ∃ j : Nat, n = j := ⟨n.toNat, by omega⟩
    obtain ⟨k, hk⟩ : ∃ k : Nat, j + k + 1 = l.length := ⟨l.length - 1 - j, by omega⟩
    obtain ⟨c, hc⟩ : ∃ c, l[k]? = some c := ⟨l[k]'(by omega), by simp⟩
    obtain ⟨g, rfl, _, _, _, _, h1, h2, _, _⟩ := h.atR k c hc
    rw [atV_in (by omega) hc, atE_in (by omega) hc]
    by_cases e : c.1 = kind
    · rw [if_pos e, if_pos e, ← e]
      refine (refAt_same D g l.length cap j k c.1 c.2 w h.cell hm hk h1 h2).mono ?_
      rintro e w' ⟨rfl, rfl⟩
      exact ⟨rfl, _, ((Adv.refl _ w G).alloc _ 0).drew⟩
    · rw [if_neg e, if_neg e]
      refine (refAt_other D g l.length cap j k kind c.1 c.2 (by simpa using e) w h.cell hm hk h1 h2).mono ?_
      rintro e w' ⟨rfl, rfl⟩
      exact ⟨rfl, _, ((Adv.refl _ w G).alloc _ 0).drew⟩
  · rw [(at_out (by omega)).1, (at_out (by omega)).2]
    refine (refAt_out D a l.length cap n kind w h.cell (by omega)).mono ?_
    rintro e w' ⟨rfl, rfl⟩
    exact ⟨rfl, G, Adv.refl _ _ _⟩

theorem refPopR_not (G : Nat → Nat) (i D : Nat) (l : List (Int × Int)) (kind : Int) (w : World) (hp : ER w G i D l) (hm : l.length ≤ 100000) (hne : (atE l 0 kind == 0) = false) :
    Calls Tryz.prog 139 #[.pointer (some ⟨D, 0, none⟩), .int .i64 kind] w fun e w' => e = .returned (.tuple #[.int .u16 (atV l 0 kind), .int .i64 (atE l 0 kind)]) ∧ ∃ G', Adv (fun _ => False) w G w' G' := by
  have HP := Lib.hid hp
  clear hp
  go_enter Tryz.func139, Tryz.ntmps139
  go_wp2_with (go_at_call 166; refine (refAt G i D l 0 kind _ HP.out hm).mono ?_; rintro e w' ⟨rfl, ha⟩; have HA := Lib.hid ha; clear ha)
  go_ret2
  exact ⟨rfl, HA.out⟩
set_option maxHeartbeats 1000000 in
theorem refPopR (G : Nat → Nat) (i D : Nat) (l : List (Int × Int)) (c : Int × Int) (w : World) (hp : ER w G i D (l ++ [c])) (hm : l.length < 1000) :
    Calls Tryz.prog 139 #[.pointer (some ⟨D, 0, none⟩), .int .i64 c.1] w fun e w' => e = .returned (.tuple #[.int .u16 c.2, .int .i64 0]) ∧ ∃ G', Adv (· = i) w G w' G' ∧ ER w' G' i D l := by
  have h0 : atV (l ++ [c]) 0 c.1 = c.2 := by
    have h := atV_in (l := l ++ [c]) (j := 0) (k := l.length) (kind := c.1) (c := c) (by simp) (by simp)
    simpa using h
  have h1 : atE (l ++ [c]) 0 c.1 = 0 := by
    have h := atE_in (l := l ++ [c]) (j := 0) (k := l.length) (kind := c.1) (c := c) (by simp) (by simp)
    simpa using h
  have HP := Lib.hid hp
  have H0 := Lib.hid h0
  have H1 := Lib.hid h1
  clear hp h0 h1
  go_enter Tryz.func139, Tryz.ntmps139
  go_wp2_with fail
  refine (refAt G i D (l ++ [c]) 0 c.1 _ HP.out (by simp; omega)).mono ?_
  rintro e w1 ⟨rfl, G1, ha⟩
  rw [H0.out, H1.out]
  obtain ⟨v, h⟩ := HP.out.adv ha id
  obtain ⟨a, cap, rfl⟩ := h.slice
  rw [List.length_append] at h
  obtain ⟨m, hm2⟩ : ∃ m, m = l.length := ⟨_, rfl⟩
  rw [← hm2] at h hm
  have hc := h.cell
  have hf := h.frozen
  rw [show m + [c].length = m + 1 from rfl] at hc
  obtain ⟨g, rfl, hlc, hcap, _⟩ := h.atR m c (by rw [hm2]; simp)
  have hmax : cap ≤ 9223372036854775807 := by unfold maxLen at hcap; omega
  have hlc2 : m + 1 ≤ cap := hlc
  have HA := Lib.hid ha
  have HPI := Lib.hid h
  have HM := Lib.hid hm2
  have hw1 : IntKind.i64.wrap ((m : Int) + 1 - 1) = (m : Int) := by rw [IntWalk.i64_in _ (by omega)]; omega
  clear ha h hm2 hcap hlc
  go_wp2_with fail
  go_region
  all_goals
    go_wp2
    go_ret2
    obtain ⟨h1, h2⟩ := HPI.out.cut (m := m) (by simp)
    have h3 := h2 (.inr rfl)
    rw [cellsR_append, List.take_left' (by rw [cellsR_length, HM.out])] at h3
    exact ⟨rfl, G1, ((HA.out.mono (fun _ h => h.elim)).trans h1).drew, _, by rw [← HM.out]; exact h3.drewN 1⟩

end Go.Proofs.YtdnalhjdmlkbmaaGreatDoor
namespace Go.Proofs.YtdnalhjdmlkbmaaGreatDoor
open Go.RowKit

theorem lower_1 (G : Nat → Nat) (w : World) : Calls Tryz.prog 136 #[.int .i64 1] w fun e w' => e = .returned (primV 1) ∧ ∃ G', Adv (fun _ => False) w G w' G' := by
  go_enter Tryz.func136, Tryz.ntmps136
  go_wp2
  exact bodyPost_ret (v := .agg #[.int .i64 1, .string ⟨#[]⟩, .int .i64 0, .int .i64 0, .int .i64 2, .bool false]) (by simp [results, Tryz.results136, go_sem]) rfl ⟨rfl, _, (Adv.refl _ w G).alloc _ 0⟩
theorem lower_2 (G : Nat → Nat) (w : World) : Calls Tryz.prog 136 #[.int .i64 2] w fun e w' => e = .returned (primV 2) ∧ ∃ G', Adv (fun _ => False) w G w' G' := by
  go_enter Tryz.func136, Tryz.ntmps136
  go_wp2
  exact bodyPost_ret (v := .agg #[.int .i64 2, .string ⟨#[]⟩, .int .i64 0, .int .i64 1, .int .i64 2, .bool false]) (by simp [results, Tryz.results136, go_sem]) rfl ⟨rfl, _, (Adv.refl _ w G).alloc _ 0⟩
theorem lower_3 (G : Nat → Nat) (w : World) : Calls Tryz.prog 136 #[.int .i64 3] w fun e w' => e = .returned (primV 3) ∧ ∃ G', Adv (fun _ => False) w G w' G' := by
  go_enter Tryz.func136, Tryz.ntmps136
  go_wp2
  exact bodyPost_ret (v := .agg #[.int .i64 3, .string ⟨#[]⟩, .int .i64 0, .int .i64 1, .int .i64 2, .bool true]) (by simp [results, Tryz.results136, go_sem]) rfl ⟨rfl, _, (Adv.refl _ w G).alloc _ 0⟩
theorem lower_4 (G : Nat → Nat) (w : World) : Calls Tryz.prog 136 #[.int .i64 4] w fun e w' => e = .returned (primV 4) ∧ ∃ G', Adv (fun _ => False) w G w' G' := by
  go_enter Tryz.func136, Tryz.ntmps136
  go_wp2
  exact bodyPost_ret (v := .agg #[.int .i64 4, .string ⟨#[]⟩, .int .i64 0, .int .i64 0, .int .i64 2, .bool true]) (by simp [results, Tryz.results136, go_sem]) rfl ⟨rfl, _, (Adv.refl _ w G).alloc _ 0⟩
theorem lower_5 (G : Nat → Nat) (w : World) : Calls Tryz.prog 136 #[.int .i64 5] w fun e w' => e = .returned (primV 5) ∧ ∃ G', Adv (fun _ => False) w G w' G' := by
  go_enter Tryz.func136, Tryz.ntmps136
  go_wp2
  exact bodyPost_ret (v := .agg #[.int .i64 5, .string ⟨#[]⟩, .int .i64 1, .int .i64 0, .int .i64 2, .bool true]) (by simp [results, Tryz.results136, go_sem]) rfl ⟨rfl, _, (Adv.refl _ w G).alloc _ 0⟩
theorem lower_6 (G : Nat → Nat) (w : World) : Calls Tryz.prog 136 #[.int .i64 6] w fun e w' => e = .returned (primV 6) ∧ ∃ G', Adv (fun _ => False) w G w' G' := by
  go_enter Tryz.func136, Tryz.ntmps136
  go_wp2
  exact bodyPost_ret (v := .agg #[.int .i64 6, .string ⟨#[]⟩, .int .i64 2, .int .i64 0, .int .i64 3, .bool false]) (by simp [results, Tryz.results136, go_sem]) rfl ⟨rfl, _, (Adv.refl _ w G).alloc _ 0⟩
theorem lower_7 (G : Nat → Nat) (w : World) : Calls Tryz.prog 136 #[.int .i64 7] w fun e w' => e = .returned (primV 7) ∧ ∃ G', Adv (fun _ => False) w G w' G' := by
  go_enter Tryz.func136, Tryz.ntmps136
  go_wp2
  exact bodyPost_ret (v := .agg #[.int .i64 7, .string ⟨#[]⟩, .int .i64 0, .int .i64 0, .int .i64 3, .bool true]) (by simp [results, Tryz.results136, go_sem]) rfl ⟨rfl, _, (Adv.refl _ w G).alloc _ 0⟩
theorem lower_8 (G : Nat → Nat) (w : World) : Calls Tryz.prog 136 #[.int .i64 8] w fun e w' => e = .returned (primV 8) ∧ ∃ G', Adv (fun _ => False) w G w' G' := by
  go_enter Tryz.func136, Tryz.ntmps136
  go_wp2
  exact bodyPost_ret (v := .agg #[.int .i64 8, .string ⟨#[]⟩, .int .i64 0, .int .i64 0, .int .i64 2, .bool false]) (by simp [results, Tryz.results136, go_sem]) rfl ⟨rfl, _, (Adv.refl _ w G).alloc _ 0⟩
theorem lower_9 (G : Nat → Nat) (w : World) : Calls Tryz.prog 136 #[.int .i64 9] w fun e w' => e = .returned (primV 9) ∧ ∃ G', Adv (fun _ => False) w G w' G' := by
  go_enter Tryz.func136, Tryz.ntmps136
  go_wp2
  exact bodyPost_ret (v := .agg #[.int .i64 9, .string ⟨#[110, 111, 112]⟩, .int .i64 0, .int .i64 0, .int .i64 1, .bool false]) (by simp [results, Tryz.results136, go_sem]) rfl ⟨rfl, _, (Adv.refl _ w G).alloc _ 0⟩
theorem lower_10 (G : Nat → Nat) (w : World) : Calls Tryz.prog 136 #[.int .i64 10] w fun e w' => e = .returned (primV 10) ∧ ∃ G', Adv (fun _ => False) w G w' G' := by
  go_enter Tryz.func136, Tryz.ntmps136
  go_wp2
  exact bodyPost_ret (v := .agg #[.int .i64 10, .string ⟨#[121, 105, 101, 108, 100]⟩, .int .i64 0, .int .i64 0, .int .i64 1, .bool false]) (by simp [results, Tryz.results136, go_sem]) rfl ⟨rfl, _, (Adv.refl _ w G).alloc _ 0⟩
theorem lower_11 (G : Nat → Nat) (w : World) : Calls Tryz.prog 136 #[.int .i64 11] w fun e w' => e = .returned (primV 11) ∧ ∃ G', Adv (fun _ => False) w G w' G' := by
  go_enter Tryz.func136, Tryz.ntmps136
  go_wp2
  exact bodyPost_ret (v := .agg #[.int .i64 11, .string ⟨#[104, 97, 108, 116]⟩, .int .i64 0, .int .i64 0, .int .i64 1, .bool false]) (by simp [results, Tryz.results136, go_sem]) rfl ⟨rfl, _, (Adv.refl _ w G).alloc _ 0⟩
theorem lower_12 (G : Nat → Nat) (w : World) : Calls Tryz.prog 136 #[.int .i64 12] w fun e w' => e = .returned (primV 12) ∧ ∃ G', Adv (fun _ => False) w G w' G' := by
  go_enter Tryz.func136, Tryz.ntmps136
  go_wp2
  exact bodyPost_ret (v := .agg #[.int .i64 12, .string ⟨#[100, 117, 112]⟩, .int .i64 1, .int .i64 2, .int .i64 1, .bool false]) (by simp [results, Tryz.results136, go_sem]) rfl ⟨rfl, _, (Adv.refl _ w G).alloc _ 0⟩
theorem lower_13 (G : Nat → Nat) (w : World) : Calls Tryz.prog 136 #[.int .i64 13] w fun e w' => e = .returned (primV 13) ∧ ∃ G', Adv (fun _ => False) w G w' G' := by
  go_enter Tryz.func136, Tryz.ntmps136
  go_wp2
  exact bodyPost_ret (v := .agg #[.int .i64 13, .string ⟨#[100, 114, 111, 112]⟩, .int .i64 1, .int .i64 0, .int .i64 1, .bool false]) (by simp [results, Tryz.results136, go_sem]) rfl ⟨rfl, _, (Adv.refl _ w G).alloc _ 0⟩
theorem lower_14 (G : Nat → Nat) (w : World) : Calls Tryz.prog 136 #[.int .i64 14] w fun e w' => e = .returned (primV 14) ∧ ∃ G', Adv (fun _ => False) w G w' G' := by
  go_enter Tryz.func136, Tryz.ntmps136
  go_wp2
  exact bodyPost_ret (v := .agg #[.int .i64 14, .string ⟨#[115, 119, 97, 112]⟩, .int .i64 2, .int .i64 2, .int .i64 1, .bool false]) (by simp [results, Tryz.results136, go_sem]) rfl ⟨rfl, _, (Adv.refl _ w G).alloc _ 0⟩
theorem lower_15 (G : Nat → Nat) (w : World) : Calls Tryz.prog 136 #[.int .i64 15] w fun e w' => e = .returned (primV 15) ∧ ∃ G', Adv (fun _ => False) w G w' G' := by
  go_enter Tryz.func136, Tryz.ntmps136
  go_wp2
  exact bodyPost_ret (v := .agg #[.int .i64 15, .string ⟨#[111, 118, 101, 114]⟩, .int .i64 2, .int .i64 3, .int .i64 1, .bool false]) (by simp [results, Tryz.results136, go_sem]) rfl ⟨rfl, _, (Adv.refl _ w G).alloc _ 0⟩
theorem lower_16 (G : Nat → Nat) (w : World) : Calls Tryz.prog 136 #[.int .i64 16] w fun e w' => e = .returned (primV 16) ∧ ∃ G', Adv (fun _ => False) w G w' G' := by
  go_enter Tryz.func136, Tryz.ntmps136
  go_wp2
  exact bodyPost_ret (v := .agg #[.int .i64 16, .string ⟨#[114, 111, 116]⟩, .int .i64 3, .int .i64 3, .int .i64 1, .bool false]) (by simp [results, Tryz.results136, go_sem]) rfl ⟨rfl, _, (Adv.refl _ w G).alloc _ 0⟩
theorem lower_17 (G : Nat → Nat) (w : World) : Calls Tryz.prog 136 #[.int .i64 17] w fun e w' => e = .returned (primV 17) ∧ ∃ G', Adv (fun _ => False) w G w' G' := by
  go_enter Tryz.func136, Tryz.ntmps136
  go_wp2
  exact bodyPost_ret (v := .agg #[.int .i64 17, .string ⟨#[110, 105, 112]⟩, .int .i64 2, .int .i64 1, .int .i64 1, .bool false]) (by simp [results, Tryz.results136, go_sem]) rfl ⟨rfl, _, (Adv.refl _ w G).alloc _ 0⟩
theorem lower_18 (G : Nat → Nat) (w : World) : Calls Tryz.prog 136 #[.int .i64 18] w fun e w' => e = .returned (primV 18) ∧ ∃ G', Adv (fun _ => False) w G w' G' := by
  go_enter Tryz.func136, Tryz.ntmps136
  go_wp2
  exact bodyPost_ret (v := .agg #[.int .i64 18, .string ⟨#[116, 117, 99, 107]⟩, .int .i64 2, .int .i64 3, .int .i64 1, .bool false]) (by simp [results, Tryz.results136, go_sem]) rfl ⟨rfl, _, (Adv.refl _ w G).alloc _ 0⟩
theorem lower_19 (G : Nat → Nat) (w : World) : Calls Tryz.prog 136 #[.int .i64 19] w fun e w' => e = .returned (primV 19) ∧ ∃ G', Adv (fun _ => False) w G w' G' := by
  go_enter Tryz.func136, Tryz.ntmps136
  go_wp2
  exact bodyPost_ret (v := .agg #[.int .i64 19, .string ⟨#[50, 100, 117, 112]⟩, .int .i64 2, .int .i64 4, .int .i64 2, .bool false]) (by simp [results, Tryz.results136, go_sem]) rfl ⟨rfl, _, (Adv.refl _ w G).alloc _ 0⟩
theorem lower_20 (G : Nat → Nat) (w : World) : Calls Tryz.prog 136 #[.int .i64 20] w fun e w' => e = .returned (primV 20) ∧ ∃ G', Adv (fun _ => False) w G w' G' := by
  go_enter Tryz.func136, Tryz.ntmps136
  go_wp2
  exact bodyPost_ret (v := .agg #[.int .i64 20, .string ⟨#[50, 100, 114, 111, 112]⟩, .int .i64 2, .int .i64 0, .int .i64 1, .bool false]) (by simp [results, Tryz.results136, go_sem]) rfl ⟨rfl, _, (Adv.refl _ w G).alloc _ 0⟩
end Go.Proofs.YtdnalhjdmlkbmaaGreatDoor
namespace Go.Proofs.YtdnalhjdmlkbmaaGreatDoor
open Go.RowKit

theorem middle_21 (G : Nat → Nat) (w : World) : Calls Tryz.prog 137 #[.int .i64 21] w fun e w' => e = .returned (primV 21) ∧ ∃ G', Adv (fun _ => False) w G w' G' := by
  go_enter Tryz.func137, Tryz.ntmps137
  go_wp2
  exact bodyPost_ret (v := .agg #[.int .i64 21, .string ⟨#[43]⟩, .int .i64 2, .int .i64 1, .int .i64 1, .bool false]) (by simp [results, Tryz.results137, go_sem]) rfl ⟨rfl, _, (Adv.refl _ w G).alloc _ 0⟩
theorem middle_22 (G : Nat → Nat) (w : World) : Calls Tryz.prog 137 #[.int .i64 22] w fun e w' => e = .returned (primV 22) ∧ ∃ G', Adv (fun _ => False) w G w' G' := by
  go_enter Tryz.func137, Tryz.ntmps137
  go_wp2
  exact bodyPost_ret (v := .agg #[.int .i64 22, .string ⟨#[45]⟩, .int .i64 2, .int .i64 1, .int .i64 1, .bool false]) (by simp [results, Tryz.results137, go_sem]) rfl ⟨rfl, _, (Adv.refl _ w G).alloc _ 0⟩
theorem middle_23 (G : Nat → Nat) (w : World) : Calls Tryz.prog 137 #[.int .i64 23] w fun e w' => e = .returned (primV 23) ∧ ∃ G', Adv (fun _ => False) w G w' G' := by
  go_enter Tryz.func137, Tryz.ntmps137
  go_wp2
  exact bodyPost_ret (v := .agg #[.int .i64 23, .string ⟨#[42]⟩, .int .i64 2, .int .i64 1, .int .i64 3, .bool false]) (by simp [results, Tryz.results137, go_sem]) rfl ⟨rfl, _, (Adv.refl _ w G).alloc _ 0⟩
theorem middle_24 (G : Nat → Nat) (w : World) : Calls Tryz.prog 137 #[.int .i64 24] w fun e w' => e = .returned (primV 24) ∧ ∃ G', Adv (fun _ => False) w G w' G' := by
  go_enter Tryz.func137, Tryz.ntmps137
  go_wp2
  exact bodyPost_ret (v := .agg #[.int .i64 24, .string ⟨#[47]⟩, .int .i64 2, .int .i64 1, .int .i64 4, .bool false]) (by simp [results, Tryz.results137, go_sem]) rfl ⟨rfl, _, (Adv.refl _ w G).alloc _ 0⟩
theorem middle_25 (G : Nat → Nat) (w : World) : Calls Tryz.prog 137 #[.int .i64 25] w fun e w' => e = .returned (primV 25) ∧ ∃ G', Adv (fun _ => False) w G w' G' := by
  go_enter Tryz.func137, Tryz.ntmps137
  go_wp2
  exact bodyPost_ret (v := .agg #[.int .i64 25, .string ⟨#[109, 111, 100]⟩, .int .i64 2, .int .i64 1, .int .i64 4, .bool false]) (by simp [results, Tryz.results137, go_sem]) rfl ⟨rfl, _, (Adv.refl _ w G).alloc _ 0⟩
theorem middle_26 (G : Nat → Nat) (w : World) : Calls Tryz.prog 137 #[.int .i64 26] w fun e w' => e = .returned (primV 26) ∧ ∃ G', Adv (fun _ => False) w G w' G' := by
  go_enter Tryz.func137, Tryz.ntmps137
  go_wp2
  exact bodyPost_ret (v := .agg #[.int .i64 26, .string ⟨#[117, 47]⟩, .int .i64 2, .int .i64 1, .int .i64 4, .bool false]) (by simp [results, Tryz.results137, go_sem]) rfl ⟨rfl, _, (Adv.refl _ w G).alloc _ 0⟩
theorem middle_27 (G : Nat → Nat) (w : World) : Calls Tryz.prog 137 #[.int .i64 27] w fun e w' => e = .returned (primV 27) ∧ ∃ G', Adv (fun _ => False) w G w' G' := by
  go_enter Tryz.func137, Tryz.ntmps137
  go_wp2
  exact bodyPost_ret (v := .agg #[.int .i64 27, .string ⟨#[117, 109, 111, 100]⟩, .int .i64 2, .int .i64 1, .int .i64 4, .bool false]) (by simp [results, Tryz.results137, go_sem]) rfl ⟨rfl, _, (Adv.refl _ w G).alloc _ 0⟩
theorem middle_28 (G : Nat → Nat) (w : World) : Calls Tryz.prog 137 #[.int .i64 28] w fun e w' => e = .returned (primV 28) ∧ ∃ G', Adv (fun _ => False) w G w' G' := by
  go_enter Tryz.func137, Tryz.ntmps137
  go_wp2
  exact bodyPost_ret (v := .agg #[.int .i64 28, .string ⟨#[110, 101, 103, 97, 116, 101]⟩, .int .i64 1, .int .i64 1, .int .i64 1, .bool false]) (by simp [results, Tryz.results137, go_sem]) rfl ⟨rfl, _, (Adv.refl _ w G).alloc _ 0⟩
theorem middle_29 (G : Nat → Nat) (w : World) : Calls Tryz.prog 137 #[.int .i64 29] w fun e w' => e = .returned (primV 29) ∧ ∃ G', Adv (fun _ => False) w G w' G' := by
  go_enter Tryz.func137, Tryz.ntmps137
  go_wp2
  exact bodyPost_ret (v := .agg #[.int .i64 29, .string ⟨#[97, 98, 115]⟩, .int .i64 1, .int .i64 1, .int .i64 1, .bool false]) (by simp [results, Tryz.results137, go_sem]) rfl ⟨rfl, _, (Adv.refl _ w G).alloc _ 0⟩
theorem middle_30 (G : Nat → Nat) (w : World) : Calls Tryz.prog 137 #[.int .i64 30] w fun e w' => e = .returned (primV 30) ∧ ∃ G', Adv (fun _ => False) w G w' G' := by
  go_enter Tryz.func137, Tryz.ntmps137
  go_wp2
  exact bodyPost_ret (v := .agg #[.int .i64 30, .string ⟨#[109, 105, 110]⟩, .int .i64 2, .int .i64 1, .int .i64 1, .bool false]) (by simp [results, Tryz.results137, go_sem]) rfl ⟨rfl, _, (Adv.refl _ w G).alloc _ 0⟩
theorem middle_31 (G : Nat → Nat) (w : World) : Calls Tryz.prog 137 #[.int .i64 31] w fun e w' => e = .returned (primV 31) ∧ ∃ G', Adv (fun _ => False) w G w' G' := by
  go_enter Tryz.func137, Tryz.ntmps137
  go_wp2
  exact bodyPost_ret (v := .agg #[.int .i64 31, .string ⟨#[109, 97, 120]⟩, .int .i64 2, .int .i64 1, .int .i64 1, .bool false]) (by simp [results, Tryz.results137, go_sem]) rfl ⟨rfl, _, (Adv.refl _ w G).alloc _ 0⟩
theorem middle_32 (G : Nat → Nat) (w : World) : Calls Tryz.prog 137 #[.int .i64 32] w fun e w' => e = .returned (primV 32) ∧ ∃ G', Adv (fun _ => False) w G w' G' := by
  go_enter Tryz.func137, Tryz.ntmps137
  go_wp2
  exact bodyPost_ret (v := .agg #[.int .i64 32, .string ⟨#[49, 43]⟩, .int .i64 1, .int .i64 1, .int .i64 1, .bool false]) (by simp [results, Tryz.results137, go_sem]) rfl ⟨rfl, _, (Adv.refl _ w G).alloc _ 0⟩
theorem middle_33 (G : Nat → Nat) (w : World) : Calls Tryz.prog 137 #[.int .i64 33] w fun e w' => e = .returned (primV 33) ∧ ∃ G', Adv (fun _ => False) w G w' G' := by
  go_enter Tryz.func137, Tryz.ntmps137
  go_wp2
  exact bodyPost_ret (v := .agg #[.int .i64 33, .string ⟨#[49, 45]⟩, .int .i64 1, .int .i64 1, .int .i64 1, .bool false]) (by simp [results, Tryz.results137, go_sem]) rfl ⟨rfl, _, (Adv.refl _ w G).alloc _ 0⟩
theorem middle_34 (G : Nat → Nat) (w : World) : Calls Tryz.prog 137 #[.int .i64 34] w fun e w' => e = .returned (primV 34) ∧ ∃ G', Adv (fun _ => False) w G w' G' := by
  go_enter Tryz.func137, Tryz.ntmps137
  go_wp2
  exact bodyPost_ret (v := .agg #[.int .i64 34, .string ⟨#[50, 42]⟩, .int .i64 1, .int .i64 1, .int .i64 1, .bool false]) (by simp [results, Tryz.results137, go_sem]) rfl ⟨rfl, _, (Adv.refl _ w G).alloc _ 0⟩
theorem middle_35 (G : Nat → Nat) (w : World) : Calls Tryz.prog 137 #[.int .i64 35] w fun e w' => e = .returned (primV 35) ∧ ∃ G', Adv (fun _ => False) w G w' G' := by
  go_enter Tryz.func137, Tryz.ntmps137
  go_wp2
  exact bodyPost_ret (v := .agg #[.int .i64 35, .string ⟨#[50, 47]⟩, .int .i64 1, .int .i64 1, .int .i64 1, .bool false]) (by simp [results, Tryz.results137, go_sem]) rfl ⟨rfl, _, (Adv.refl _ w G).alloc _ 0⟩
theorem middle_36 (G : Nat → Nat) (w : World) : Calls Tryz.prog 137 #[.int .i64 36] w fun e w' => e = .returned (primV 36) ∧ ∃ G', Adv (fun _ => False) w G w' G' := by
  go_enter Tryz.func137, Tryz.ntmps137
  go_wp2
  exact bodyPost_ret (v := .agg #[.int .i64 36, .string ⟨#[97, 110, 100]⟩, .int .i64 2, .int .i64 1, .int .i64 1, .bool false]) (by simp [results, Tryz.results137, go_sem]) rfl ⟨rfl, _, (Adv.refl _ w G).alloc _ 0⟩
theorem middle_37 (G : Nat → Nat) (w : World) : Calls Tryz.prog 137 #[.int .i64 37] w fun e w' => e = .returned (primV 37) ∧ ∃ G', Adv (fun _ => False) w G w' G' := by
  go_enter Tryz.func137, Tryz.ntmps137
  go_wp2
  exact bodyPost_ret (v := .agg #[.int .i64 37, .string ⟨#[111, 114]⟩, .int .i64 2, .int .i64 1, .int .i64 1, .bool false]) (by simp [results, Tryz.results137, go_sem]) rfl ⟨rfl, _, (Adv.refl _ w G).alloc _ 0⟩
theorem middle_38 (G : Nat → Nat) (w : World) : Calls Tryz.prog 137 #[.int .i64 38] w fun e w' => e = .returned (primV 38) ∧ ∃ G', Adv (fun _ => False) w G w' G' := by
  go_enter Tryz.func137, Tryz.ntmps137
  go_wp2
  exact bodyPost_ret (v := .agg #[.int .i64 38, .string ⟨#[120, 111, 114]⟩, .int .i64 2, .int .i64 1, .int .i64 1, .bool false]) (by simp [results, Tryz.results137, go_sem]) rfl ⟨rfl, _, (Adv.refl _ w G).alloc _ 0⟩
theorem middle_39 (G : Nat → Nat) (w : World) : Calls Tryz.prog 137 #[.int .i64 39] w fun e w' => e = .returned (primV 39) ∧ ∃ G', Adv (fun _ => False) w G w' G' := by
  go_enter Tryz.func137, Tryz.ntmps137
  go_wp2
  exact bodyPost_ret (v := .agg #[.int .i64 39, .string ⟨#[105, 110, 118, 101, 114, 116]⟩, .int .i64 1, .int .i64 1, .int .i64 1, .bool false]) (by simp [results, Tryz.results137, go_sem]) rfl ⟨rfl, _, (Adv.refl _ w G).alloc _ 0⟩
theorem middle_40 (G : Nat → Nat) (w : World) : Calls Tryz.prog 137 #[.int .i64 40] w fun e w' => e = .returned (primV 40) ∧ ∃ G', Adv (fun _ => False) w G w' G' := by
  go_enter Tryz.func137, Tryz.ntmps137
  go_wp2
  exact bodyPost_ret (v := .agg #[.int .i64 40, .string ⟨#[108, 115, 104, 105, 102, 116]⟩, .int .i64 2, .int .i64 1, .int .i64 1, .bool false]) (by simp [results, Tryz.results137, go_sem]) rfl ⟨rfl, _, (Adv.refl _ w G).alloc _ 0⟩
theorem middle_41 (G : Nat → Nat) (w : World) : Calls Tryz.prog 137 #[.int .i64 41] w fun e w' => e = .returned (primV 41) ∧ ∃ G', Adv (fun _ => False) w G w' G' := by
  go_enter Tryz.func137, Tryz.ntmps137
  go_wp2
  exact bodyPost_ret (v := .agg #[.int .i64 41, .string ⟨#[114, 115, 104, 105, 102, 116]⟩, .int .i64 2, .int .i64 1, .int .i64 1, .bool false]) (by simp [results, Tryz.results137, go_sem]) rfl ⟨rfl, _, (Adv.refl _ w G).alloc _ 0⟩
end Go.Proofs.YtdnalhjdmlkbmaaGreatDoor
namespace Go.Proofs.YtdnalhjdmlkbmaaGreatDoor
open Go.RowKit

theorem upper_42 (G : Nat → Nat) (w : World) : Calls Tryz.prog 138 #[.int .i64 42] w fun e w' => e = .returned (primV 42) ∧ ∃ G', Adv (fun _ => False) w G w' G' := by
  go_enter Tryz.func138, Tryz.ntmps138
  go_wp2
  exact bodyPost_ret (v := .agg #[.int .i64 42, .string ⟨#[61]⟩, .int .i64 2, .int .i64 1, .int .i64 1, .bool false]) (by simp [results, Tryz.results138, go_sem]) rfl ⟨rfl, _, (Adv.refl _ w G).alloc _ 0⟩
theorem upper_43 (G : Nat → Nat) (w : World) : Calls Tryz.prog 138 #[.int .i64 43] w fun e w' => e = .returned (primV 43) ∧ ∃ G', Adv (fun _ => False) w G w' G' := by
  go_enter Tryz.func138, Tryz.ntmps138
  go_wp2
  exact bodyPost_ret (v := .agg #[.int .i64 43, .string ⟨#[60, 62]⟩, .int .i64 2, .int .i64 1, .int .i64 1, .bool false]) (by simp [results, Tryz.results138, go_sem]) rfl ⟨rfl, _, (Adv.refl _ w G).alloc _ 0⟩
theorem upper_44 (G : Nat → Nat) (w : World) : Calls Tryz.prog 138 #[.int .i64 44] w fun e w' => e = .returned (primV 44) ∧ ∃ G', Adv (fun _ => False) w G w' G' := by
  go_enter Tryz.func138, Tryz.ntmps138
  go_wp2
  exact bodyPost_ret (v := .agg #[.int .i64 44, .string ⟨#[60]⟩, .int .i64 2, .int .i64 1, .int .i64 1, .bool false]) (by simp [results, Tryz.results138, go_sem]) rfl ⟨rfl, _, (Adv.refl _ w G).alloc _ 0⟩
theorem upper_45 (G : Nat → Nat) (w : World) : Calls Tryz.prog 138 #[.int .i64 45] w fun e w' => e = .returned (primV 45) ∧ ∃ G', Adv (fun _ => False) w G w' G' := by
  go_enter Tryz.func138, Tryz.ntmps138
  go_wp2
  exact bodyPost_ret (v := .agg #[.int .i64 45, .string ⟨#[62]⟩, .int .i64 2, .int .i64 1, .int .i64 1, .bool false]) (by simp [results, Tryz.results138, go_sem]) rfl ⟨rfl, _, (Adv.refl _ w G).alloc _ 0⟩
theorem upper_46 (G : Nat → Nat) (w : World) : Calls Tryz.prog 138 #[.int .i64 46] w fun e w' => e = .returned (primV 46) ∧ ∃ G', Adv (fun _ => False) w G w' G' := by
  go_enter Tryz.func138, Tryz.ntmps138
  go_wp2
  exact bodyPost_ret (v := .agg #[.int .i64 46, .string ⟨#[117, 60]⟩, .int .i64 2, .int .i64 1, .int .i64 1, .bool false]) (by simp [results, Tryz.results138, go_sem]) rfl ⟨rfl, _, (Adv.refl _ w G).alloc _ 0⟩
theorem upper_47 (G : Nat → Nat) (w : World) : Calls Tryz.prog 138 #[.int .i64 47] w fun e w' => e = .returned (primV 47) ∧ ∃ G', Adv (fun _ => False) w G w' G' := by
  go_enter Tryz.func138, Tryz.ntmps138
  go_wp2
  exact bodyPost_ret (v := .agg #[.int .i64 47, .string ⟨#[117, 62]⟩, .int .i64 2, .int .i64 1, .int .i64 1, .bool false]) (by simp [results, Tryz.results138, go_sem]) rfl ⟨rfl, _, (Adv.refl _ w G).alloc _ 0⟩
theorem upper_48 (G : Nat → Nat) (w : World) : Calls Tryz.prog 138 #[.int .i64 48] w fun e w' => e = .returned (primV 48) ∧ ∃ G', Adv (fun _ => False) w G w' G' := by
  go_enter Tryz.func138, Tryz.ntmps138
  go_wp2
  exact bodyPost_ret (v := .agg #[.int .i64 48, .string ⟨#[48, 61]⟩, .int .i64 1, .int .i64 1, .int .i64 1, .bool false]) (by simp [results, Tryz.results138, go_sem]) rfl ⟨rfl, _, (Adv.refl _ w G).alloc _ 0⟩
theorem upper_49 (G : Nat → Nat) (w : World) : Calls Tryz.prog 138 #[.int .i64 49] w fun e w' => e = .returned (primV 49) ∧ ∃ G', Adv (fun _ => False) w G w' G' := by
  go_enter Tryz.func138, Tryz.ntmps138
  go_wp2
  exact bodyPost_ret (v := .agg #[.int .i64 49, .string ⟨#[48, 60]⟩, .int .i64 1, .int .i64 1, .int .i64 1, .bool false]) (by simp [results, Tryz.results138, go_sem]) rfl ⟨rfl, _, (Adv.refl _ w G).alloc _ 0⟩
theorem upper_50 (G : Nat → Nat) (w : World) : Calls Tryz.prog 138 #[.int .i64 50] w fun e w' => e = .returned (primV 50) ∧ ∃ G', Adv (fun _ => False) w G w' G' := by
  go_enter Tryz.func138, Tryz.ntmps138
  go_wp2
  exact bodyPost_ret (v := .agg #[.int .i64 50, .string ⟨#[64]⟩, .int .i64 1, .int .i64 1, .int .i64 2, .bool false]) (by simp [results, Tryz.results138, go_sem]) rfl ⟨rfl, _, (Adv.refl _ w G).alloc _ 0⟩
theorem upper_51 (G : Nat → Nat) (w : World) : Calls Tryz.prog 138 #[.int .i64 51] w fun e w' => e = .returned (primV 51) ∧ ∃ G', Adv (fun _ => False) w G w' G' := by
  go_enter Tryz.func138, Tryz.ntmps138
  go_wp2
  exact bodyPost_ret (v := .agg #[.int .i64 51, .string ⟨#[33]⟩, .int .i64 2, .int .i64 0, .int .i64 2, .bool false]) (by simp [results, Tryz.results138, go_sem]) rfl ⟨rfl, _, (Adv.refl _ w G).alloc _ 0⟩
theorem upper_52 (G : Nat → Nat) (w : World) : Calls Tryz.prog 138 #[.int .i64 52] w fun e w' => e = .returned (primV 52) ∧ ∃ G', Adv (fun _ => False) w G w' G' := by
  go_enter Tryz.func138, Tryz.ntmps138
  go_wp2
  exact bodyPost_ret (v := .agg #[.int .i64 52, .string ⟨#[99, 64]⟩, .int .i64 1, .int .i64 1, .int .i64 2, .bool false]) (by simp [results, Tryz.results138, go_sem]) rfl ⟨rfl, _, (Adv.refl _ w G).alloc _ 0⟩
theorem upper_53 (G : Nat → Nat) (w : World) : Calls Tryz.prog 138 #[.int .i64 53] w fun e w' => e = .returned (primV 53) ∧ ∃ G', Adv (fun _ => False) w G w' G' := by
  go_enter Tryz.func138, Tryz.ntmps138
  go_wp2
  exact bodyPost_ret (v := .agg #[.int .i64 53, .string ⟨#[99, 33]⟩, .int .i64 2, .int .i64 0, .int .i64 2, .bool false]) (by simp [results, Tryz.results138, go_sem]) rfl ⟨rfl, _, (Adv.refl _ w G).alloc _ 0⟩
theorem upper_54 (G : Nat → Nat) (w : World) : Calls Tryz.prog 138 #[.int .i64 54] w fun e w' => e = .returned (primV 54) ∧ ∃ G', Adv (fun _ => False) w G w' G' := by
  go_enter Tryz.func138, Tryz.ntmps138
  go_wp2
  exact bodyPost_ret (v := .agg #[.int .i64 54, .string ⟨#[43, 33]⟩, .int .i64 2, .int .i64 0, .int .i64 3, .bool false]) (by simp [results, Tryz.results138, go_sem]) rfl ⟨rfl, _, (Adv.refl _ w G).alloc _ 0⟩
theorem upper_55 (G : Nat → Nat) (w : World) : Calls Tryz.prog 138 #[.int .i64 55] w fun e w' => e = .returned (primV 55) ∧ ∃ G', Adv (fun _ => False) w G w' G' := by
  go_enter Tryz.func138, Tryz.ntmps138
  go_wp2
  exact bodyPost_ret (v := .agg #[.int .i64 55, .string ⟨#[62, 114]⟩, .int .i64 1, .int .i64 0, .int .i64 1, .bool false]) (by simp [results, Tryz.results138, go_sem]) rfl ⟨rfl, _, (Adv.refl _ w G).alloc _ 0⟩
theorem upper_56 (G : Nat → Nat) (w : World) : Calls Tryz.prog 138 #[.int .i64 56] w fun e w' => e = .returned (primV 56) ∧ ∃ G', Adv (fun _ => False) w G w' G' := by
  go_enter Tryz.func138, Tryz.ntmps138
  go_wp2
  exact bodyPost_ret (v := .agg #[.int .i64 56, .string ⟨#[114, 62]⟩, .int .i64 0, .int .i64 1, .int .i64 1, .bool false]) (by simp [results, Tryz.results138, go_sem]) rfl ⟨rfl, _, (Adv.refl _ w G).alloc _ 0⟩
theorem upper_57 (G : Nat → Nat) (w : World) : Calls Tryz.prog 138 #[.int .i64 57] w fun e w' => e = .returned (primV 57) ∧ ∃ G', Adv (fun _ => False) w G w' G' := by
  go_enter Tryz.func138, Tryz.ntmps138
  go_wp2
  exact bodyPost_ret (v := .agg #[.int .i64 57, .string ⟨#[114, 64]⟩, .int .i64 0, .int .i64 1, .int .i64 1, .bool false]) (by simp [results, Tryz.results138, go_sem]) rfl ⟨rfl, _, (Adv.refl _ w G).alloc _ 0⟩
theorem upper_58 (G : Nat → Nat) (w : World) : Calls Tryz.prog 138 #[.int .i64 58] w fun e w' => e = .returned (primV 58) ∧ ∃ G', Adv (fun _ => False) w G w' G' := by
  go_enter Tryz.func138, Tryz.ntmps138
  go_wp2
  exact bodyPost_ret (v := .agg #[.int .i64 58, .string ⟨#[105]⟩, .int .i64 0, .int .i64 1, .int .i64 1, .bool false]) (by simp [results, Tryz.results138, go_sem]) rfl ⟨rfl, _, (Adv.refl _ w G).alloc _ 0⟩
theorem upper_59 (G : Nat → Nat) (w : World) : Calls Tryz.prog 138 #[.int .i64 59] w fun e w' => e = .returned (primV 59) ∧ ∃ G', Adv (fun _ => False) w G w' G' := by
  go_enter Tryz.func138, Tryz.ntmps138
  go_wp2
  exact bodyPost_ret (v := .agg #[.int .i64 59, .string ⟨#[106]⟩, .int .i64 0, .int .i64 1, .int .i64 1, .bool false]) (by simp [results, Tryz.results138, go_sem]) rfl ⟨rfl, _, (Adv.refl _ w G).alloc _ 0⟩
theorem upper_60 (G : Nat → Nat) (w : World) : Calls Tryz.prog 138 #[.int .i64 60] w fun e w' => e = .returned (primV 60) ∧ ∃ G', Adv (fun _ => False) w G w' G' := by
  go_enter Tryz.func138, Tryz.ntmps138
  go_wp2
  exact bodyPost_ret (v := .agg #[.int .i64 60, .string ⟨#[112, 108, 111, 116]⟩, .int .i64 3, .int .i64 0, .int .i64 3, .bool false]) (by simp [results, Tryz.results138, go_sem]) rfl ⟨rfl, _, (Adv.refl _ w G).alloc _ 0⟩
theorem upper_61 (G : Nat → Nat) (w : World) : Calls Tryz.prog 138 #[.int .i64 61] w fun e w' => e = .returned (primV 61) ∧ ∃ G', Adv (fun _ => False) w G w' G' := by
  go_enter Tryz.func138, Tryz.ntmps138
  go_wp2
  exact bodyPost_ret (v := .agg #[.int .i64 61, .string ⟨#[112, 97, 100]⟩, .int .i64 0, .int .i64 1, .int .i64 1, .bool false]) (by simp [results, Tryz.results138, go_sem]) rfl ⟨rfl, _, (Adv.refl _ w G).alloc _ 0⟩
theorem upper_62 (G : Nat → Nat) (w : World) : Calls Tryz.prog 138 #[.int .i64 62] w fun e w' => e = .returned (primV 62) ∧ ∃ G', Adv (fun _ => False) w G w' G' := by
  go_enter Tryz.func138, Tryz.ntmps138
  go_wp2
  exact bodyPost_ret (v := .agg #[.int .i64 62, .string ⟨#[116, 111, 110, 101]⟩, .int .i64 2, .int .i64 0, .int .i64 2, .bool false]) (by simp [results, Tryz.results138, go_sem]) rfl ⟨rfl, _, (Adv.refl _ w G).alloc _ 0⟩
theorem upper_63 (G : Nat → Nat) (w : World) : Calls Tryz.prog 138 #[.int .i64 63] w fun e w' => e = .returned (primV 63) ∧ ∃ G', Adv (fun _ => False) w G w' G' := by
  go_enter Tryz.func138, Tryz.ntmps138
  go_wp2
  exact bodyPost_ret (v := .agg #[.int .i64 63, .string ⟨#[98, 97, 110, 107]⟩, .int .i64 1, .int .i64 0, .int .i64 1, .bool false]) (by simp [results, Tryz.results138, go_sem]) rfl ⟨rfl, _, (Adv.refl _ w G).alloc _ 0⟩
end Go.Proofs.YtdnalhjdmlkbmaaGreatDoor
