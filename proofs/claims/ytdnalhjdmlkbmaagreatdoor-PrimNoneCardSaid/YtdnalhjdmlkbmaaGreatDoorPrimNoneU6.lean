/- wisplaw06.born, of cells of both stacks: the program's side; What the document's stacks (wispref05) do; What the document's return stack does; wisplaw06.born of any data and ret: the program's parts and the document's; wisplaw06.memories: the program's memory and the document's, the same; wispref04.SameTones of what is the same; wisplaw06.memories answers true where both memories are the same; The small functions of PrimKeeps; The world of wisplaw06's statements, all at once; pushed; wisplaw06.image: a memory as text; The two worlds of PrimKeeps, all at once; The world of wisplaw06, the program's parts and the document's alike; stacks answers true; prim.Do where it does nothing: what is not plain, or a part is nil; PrimNone: the walk. -/
import Derived.Deep.RegionHeld3
import Derived.RegionTactic
import Derived.BigRegion
import Derived.ChangeAlike
import Derived.Deep.DeepCutAuto
import Derived.Laws.StructEq
import Derived.BigQuiet
import Derived.Deep.QuietTactic
import Derived.Laws.BytesArg
import Derived.Deep.RegionHeldLaw
import Derived.Test.YtdnalhjdmlkbmaaGreatDoorPrimNoneU1
import Derived.Test.YtdnalhjdmlkbmaaGreatDoorPrimNoneU2
import Derived.Test.YtdnalhjdmlkbmaaGreatDoorPrimNoneU3
import Derived.Test.YtdnalhjdmlkbmaaGreatDoorPrimNoneU4
import Derived.Test.YtdnalhjdmlkbmaaGreatDoorPrimNoneU5
set_option linter.unusedVariables false
set_option linter.unusedSimpArgs false
set_option linter.unnecessarySimpa false
namespace Go.Proofs.YtdnalhjdmlkbmaaGreatDoor
open Go.RowKit
set_option linter.unusedVariables false

/-- A cell of the return stack, its kind brought to 1 to 4. -/
def normR (c : Int × Int) : Int × Int := (1 + c.1 % 4, c.2)
theorem normR_good (l : List (Int × Int)) : ∀ c ∈ l.map normR, 1 ≤ c.1 ∧ c.1 ≤ 4 := by
  intro c hc
  obtain ⟨d, _, rfl⟩ := List.mem_map.1 hc
  simp only [normR]; omega
theorem Reads.left {w : World} {a : Option Addr} {xs ys : List Value} (h : Reads w a (xs ++ ys)) : Reads w a xs := by
  by_cases he : xs = []
  · exact .inl he
  · obtain ⟨b, o, rfl, hr, _⟩ := h.some (by simp [he])
    refine .inr ⟨b, o, rfl, fun j u hu => hr j u ?_⟩
    rw [List.getElem?_append_left (List.getElem?_eq_some_iff.1 hu).1]; exact hu
theorem Reads.takeR {w : World} {a : Option Addr} {l : List (Int × Int)} (h : Reads w a (cellsR l)) (n : Nat) : Reads w a (cellsR (l.take n)) := by
  rw [← List.take_append_drop n l, cellsR_append] at h
  exact h.left
theorem normR_set (l : List (Int × Int)) (j : Nat) (c : Int × Int) (h : l[j]? = some c) :
    (cellsR ((l.take j).map normR ++ l.drop j)).set (j * 2) (.int .i64 (1 + c.1 % 4)) = cellsR ((l.take (j + 1)).map normR ++ l.drop (j + 1)) := by
  have hj : j < l.length := (List.getElem?_eq_some_iff.1 h).1
  have h1 : l.drop j = c :: l.drop (j + 1) := by
    rw [List.drop_eq_getElem_cons hj]; congr 1; exact (List.getElem?_eq_some_iff.1 h).2
  have h2 : l.take (j + 1) = l.take j ++ [c] := by rw [List.take_add_one, h]; rfl
  rw [h1, h2, List.map_append, List.append_assoc, cellsR_append, cellsR_append]
  have hlen : (cellsR ((l.take j).map normR)).length = j * 2 := by rw [cellsR_length]; simp; omega
  rw [List.set_append_right _ _ (by omega), hlen, Nat.sub_self]
  rfl
theorem normR_get (l : List (Int × Int)) (j : Nat) (c : Int × Int) (h : l[j]? = some c) : (cellsR ((l.take j).map normR ++ l.drop j))[j * 2]? = some (.int .i64 c.1) := by
  refine (cellsR_fst _ j c ?_).1
  have hj : j < l.length := (List.getElem?_eq_some_iff.1 h).1
  rw [List.getElem?_append_right (by simp; omega)]
  simp only [List.length_map, List.length_take]
  rw [show j - min j l.length = 0 from by omega, List.getElem?_drop]
  exact h
theorem rem4 (x : Int) : Int.tmod (Int.tmod x 4 + 4) 4 = x % 4 := by
  rcases Int.le_total 0 x with h | h
  · rw [Int.tmod_eq_emod_of_nonneg h, Int.tmod_eq_emod_of_nonneg (by omega)]; omega
  · have h1 : Int.tmod x 4 = - ((-x) % 4) := by
      have := Int.neg_tmod (-x) 4
      rw [Int.neg_neg] at this
      rw [this, Int.tmod_eq_emod_of_nonneg (by omega)]
    rw [h1, Int.tmod_eq_emod_of_nonneg (by omega)]; omega
theorem wpList_min {P : Program} {w : World} {ops : Array Oper} {rest : List Oper} {o : Oper} {a : Act} {Q : Exit → Act → World → Prop} (hgd : o.guard = none) (s x : Operand) (t : TypeId)
    (ho : o.op = .call { callee := .builtin .min, args := #[s, x], argTypes := #[t, t] }) (m n k : Int) (hs : a.eval s = .int .i64 m) (hx : a.eval x = .int .i64 n) (hk : k = min m n)
    (h : wpList P ops Q rest (a.put o.dst (.int .i64 k)) w) : wpList P ops Q (o :: rest) a w := by
  refine wpList_plain hgd fun K hK => ?_
  unfold Oper.wp execOp
  have hr : (Builtin.min_ #[t, t] o.type #[.int .i64 m, .int .i64 n]).run P w = .ok (.int .i64 k) w := by
    simp only [Builtin.min_, List.foldlM, Builtin.min2]
    by_cases h1 : m ≤ n
    · have : k = m := by omega
      have h2 : ¬ n < m := by omega
      simp [this, h2]
    · have : k = n := by omega
      have h2 : n < m := by omega
      simp [this, h2]
  simp only [ho, resolve, invoke, builtin, Sem.run_bind, Sem.run_pure, Result.andThen_ok, List.map_toArray, List.map_cons, List.map_nil, hs, hx, hr]
  exact hK _ _ h
theorem tmod_ge4 (x : Int) : -4 < Int.tmod x 4 := by
  rcases Int.le_total 0 x with h | h
  · rw [Int.tmod_eq_emod_of_nonneg h]; omega
  · have := Int.neg_tmod (-x) 4
    rw [Int.neg_neg] at this
    rw [this, Int.tmod_eq_emod_of_nonneg (by omega)]; omega
def S98 (b : Nat) : Prop := b = 9 ∨ b = 8

set_option maxRecDepth 100000 in
set_option maxHeartbeats 2000000 in
theorem bornR (G : Nat → Nat) (xa : Option Addr) (m c : Nat) (l : List Int) (ya : Option Addr) (m2 c2 : Nat) (lr : List (Int × Int)) (w : World) (hl : l.length = m) (hr : Reads w xa (cellsU l)) (hcap : m ≤ c) (hc1 : c ≤ 9223372036854775807)
    (hlr : lr.length = m2) (hrr : Reads w ya (cellsR lr)) (hcap2 : m2 ≤ c2) (hc2 : c2 ≤ 9223372036854775807) (hwf : ∀ c ∈ lr, -9223372036854775808 ≤ c.1 ∧ c.1 ≤ 9223372036854775807) :
    Calls Tryz.prog 9 #[.slice xa m c, .slice ya m2 c2] w fun e w' => ∃ K D R M G', e = .returned (.pointer (some ⟨K, 0, none⟩)) ∧ Adv (fun _ => False) w G w' G' ∧ Wld w' G' K D R M ∧ PU w' G' 1 D (l.take 256) ∧ PR w' G' 2 R ((lr.take 128).map normR) ∧ PM w' G' 3 M (newM banks2) ∧ w.heap.size ≤ K := by
  obtain ⟨i0, hi, hz0, hz1, hz2⟩ := info_parts Tryz.info31
  obtain ⟨j0, hj, hy0, hy1, hy2⟩ := info_parts Tryz.info111
  obtain ⟨n, hn⟩ : ∃ n, n = min m 256 := ⟨_, rfl⟩
  obtain ⟨n2, hn2⟩ : ∃ n2, n2 = min m2 128 := ⟨_, rfl⟩
  obtain ⟨L, hLdef⟩ : ∃ L, L = l.take 256 := ⟨_, rfl⟩
  obtain ⟨LR, hLRdef⟩ : ∃ LR, LR = lr.take 128 := ⟨_, rfl⟩
  rw [← hLdef, ← hLRdef]
  have hLn : L.length = n := by rw [hLdef, List.length_take]; omega
  have hLRn : LR.length = n2 := by rw [hLRdef, List.length_take]; omega
  have hrL : Reads w xa (cellsU L) := by rw [hLdef]; exact hr.takeU 256
  have hrLR : Reads w ya (cellsR LR) := by rw [hLRdef]; exact hrr.takeR 128
  have HWF := Lib.hid (show ∀ c ∈ LR, -9223372036854775808 ≤ c.1 ∧ c.1 ≤ 9223372036854775807 from fun c hc => hwf c (List.mem_of_mem_take (hLRdef ▸ hc)))
  have HMIN := Lib.hid (show min (m : Int) 256 = (n : Int) from by omega)
  have HMIN2 := Lib.hid (show min (m2 : Int) 128 = (n2 : Int) from by omega)
  have hnm : n ≤ 256 := by omega
  have hnm2 : n2 ≤ 128 := by omega
  have hnc : n ≤ c := by omega
  have hnc2 : n2 ≤ c2 := by omega
  have HL := Lib.hid hLn
  have HLR := Lib.hid hLRn
  have HX := Lib.hid (hrL.alloc (.cells #[] 31))
  have HYX : ∀ {w1 : World} {G1 : Nat → Nat}, Adv S98 w (fun _ => 0) w1 G1 → Reads (w1.alloc (.cells #[] 111)) ya (cellsR LR) := fun h => (hrLR.adv h (fun _ _ => by unfold S98; omega)).alloc _
  have HA0 := Lib.hid ((Adv.refl S98 w (fun _ => 0)).alloc (.cells #[] 31) 9)
  have HR0 := Lib.hid (Row.new w (fun _ => 0) 31 1 9 0 [] (Nat.zero_le _) rfl)
  clear hl hr hlr hrr hwf hLdef hLRdef hLn hLRn hrL hrLR hn hn2 hcap hcap2
  go_enter Tryz.func9, Tryz.ntmps9
  go_wp2_with (first
    | (refine wpList_min ?mng (.tmp 17) (.const (.int .i64 256)) 3 ?mno m 256 n ?mns ?mnx HMIN.out.symm ?mnr; (case mng => rfl); (case mno => rfl); (case mns => rfl); (case mnx => rfl))
    | (at_builtin; refine wpList_append_reads rfl (.tmp 14) (.tmp 19) 22 rfl 31 i0 (.int .u16 0) 1 2 Tryz.underlying22 hi hz0 hz1 hz2 rfl (by decide) _ 9 (some ⟨w.heap.size, 0, none⟩) 0 0 [] rfl HR0.out xa n c (cellsU L) rfl (by rw [cellsU_length, HL.out, Nat.mul_one]) HX.out (cellsU_one L) (by unfold maxLen; omega) (by omega) ?_; intro va1 vc1 w1 G1 h1 h2; rw [Nat.zero_add, List.nil_append] at h1; rw [Nat.zero_add]; have HR1 := Lib.hid h1; have HA1 := Lib.hid (HA0.out.trans (h2.mono (T := S98) (fun _ h => .inl h))); clear h1 h2)
    | (refine wpList_min ?mpg (.tmp 24) (.const (.int .i64 128)) 3 ?mpo m2 128 n2 ?mps ?mpx HMIN2.out.symm ?mpr; (case mpg => rfl); (case mpo => rfl); (case mps => rfl); (case mpx => rfl))
    | (at_builtin; refine wpList_append_reads rfl (.tmp 21) (.tmp 26) 23 rfl 111 j0 (.agg #[.int .i64 0, .int .u16 0]) 2 16 Tryz.underlying23 hj hy0 hy1 hy2 rfl (by decide) _ 8 (some ⟨w1.heap.size, 0, none⟩) 0 0 [] rfl (Row.new w1 G1 111 2 8 0 [] (Nat.zero_le _) rfl) ya n2 c2 (cellsR LR) rfl (by rw [cellsR_length, HLR.out]) (HYX HA1.out) (cellsR_one LR) (by unfold maxLen; omega) (by omega) ?_; intro ya1 yc1 w2 G2 h1 h2; rw [Nat.zero_add, List.nil_append] at h1; rw [Nat.zero_add]; have HRC := Lib.hid h1; have HRD := Lib.hid ((HR1.out.adv (S := fun _ => False) ((Adv.refl (fun _ => False) w1 G1).alloc (.cells #[] 111) 8) id).adv h2 (by omega)); have HA2 := Lib.hid ((HA1.out.alloc (.cells #[] 111) 8).trans (h2.mono (T := S98) (fun _ h => .inr h))); clear h1 h2))
  go_loopw [5] (fun v wr => ∃ j : Nat, j ≤ n2 ∧ v = .int .i64 j ∧ ∃ Gr, Adv S98 w (fun _ => 0) wr Gr ∧ Row 31 1 wr Gr 9 (.slice va1 n vc1) n (cellsU L) ∧ Row 111 2 wr Gr 8 (.slice ya1 n2 yc1) n2 (cellsR ((LR.take j).map normR ++ LR.drop j))) (fun v _ => n2 - (intOf v).toNat)
  case atStart => exact ⟨0, Nat.zero_le _, rfl, _, HA2.out, HRD.out, HRC.out⟩
  case round =>
    obtain ⟨j, hj0, rfl, Gr, h1, h2, h3⟩ := hrel
    by_cases hlt : j < n2
    · obtain ⟨ck, hck⟩ : ∃ ck, LR[j]? = some ck := ⟨LR[j]'(by rw [HLR.out]; exact hlt), by simp⟩
      obtain ⟨hw1, hw2⟩ := HWF.out ck (List.mem_of_getElem? hck)
      obtain ⟨g, rfl⟩ : ∃ g, ya1 = some ⟨g, 0, none⟩ := by
        obtain ⟨a', c', e1, _, _, h6⟩ := h3.slice
        cases e1; exact h6 (by omega)
      obtain ⟨hg, hG, hf, hc⟩ := h3.at (by omega)
      have hget := hc (j * 2) _ (normR_get LR j ck hck)
      have hf2 := hf (j * 2)
      have hlen : j * 2 < (cellsR ((LR.take j).map normR ++ LR.drop j)).length := by rw [h3.nlen]; omega
      have HS := Lib.hid (h3.store (j * 2) hlen (.int .i64 (1 + ck.1 % 4)))
      have HE := Lib.hid (normR_set LR j ck hck)
      have H1 := Lib.hid h1
      have H2 := Lib.hid h2
      have HRW := Lib.hid (show wrap64 (1 + (wrap64 (ck.1.tmod 4 + 4)).tmod 4) = 1 + ck.1 % 4 from by
        have h4 := rem4 ck.1
        have h5 : wrap64 (ck.1.tmod 4 + 4) = ck.1.tmod 4 + 4 := (by unfold wrap64; have := Int.tmod_lt_of_pos ck.1 (b := 4) (by decide); have := tmod_ge4 ck.1; omega)
        rw [h5, h4]
        unfold wrap64; omega)
      clear hck hf hc hG h1 h2 h3
      go_wp2
      go_roundw
      case rel =>
        rw [HRW.out]
        exact ⟨j + 1, by omega, by go_num, Gr, H1.out.trans (HS.out.1.mono (T := S98) (fun _ h => .inr h)), H2.out.adv HS.out.1 (by omega), by rw [← HE.out]; exact HS.out.2⟩
      case measure => simp [intOf]; omega
    · obtain rfl : n2 = j := by omega
      rw [List.take_of_length_le (by rw [HLR.out]; omega), List.drop_of_length_le (by rw [HLR.out]; omega), List.append_nil] at h3
      have HA3 := Lib.hid (h1.alloc (.cells #[] 31) 9)
      have hAr := (Adv.refl (fun _ => False) wr Gr).alloc (.cells #[] 31) 9
      have HRe := Lib.hid (h2.adv hAr id)
      have HRf := Lib.hid (h3.adv hAr id)
      have HR3 := Lib.hid (Row.new wr Gr 31 1 9 0 [] (Nat.zero_le _) rfl)
      clear h1 h2 h3 hAr
      go_wp2_with (first
        | (at_builtin; refine wpList_append_reads rfl (.tmp 48) (.tmp 49) 22 rfl 31 i0 (.int .u16 0) 1 2 Tryz.underlying22 hi hz0 hz1 hz2 rfl (by decide) _ 9 (some ⟨wr.heap.size, 0, none⟩) 0 0 [] rfl HR3.out va1 n vc1 (cellsU L) rfl (by rw [cellsU_length, HL.out, Nat.mul_one]) HRe.out.reads (cellsU_one L) (by unfold maxLen; omega) (by omega) ?_; intro va2 vc2 w13 G13 h1 h2; rw [Nat.zero_add, List.nil_append] at h1; rw [Nat.zero_add]; have hAs := (Adv.refl (fun _ => False) w13 G13).alloc (.cells #[] 111) 8; have HR4 := Lib.hid (h1.adv hAs id); have HA4 := Lib.hid ((HA3.out.trans (h2.mono (T := S98) (fun _ h => .inl h))).alloc (.cells #[] 111) 8); have HRg := Lib.hid ((HRf.out.adv h2 (by omega)).adv hAs id); clear h1 h2 hAs)
        | (at_builtin; refine wpList_append_reads rfl (.tmp 51) (.tmp 52) 23 rfl 111 j0 (.agg #[.int .i64 0, .int .u16 0]) 2 16 Tryz.underlying23 hj hy0 hy1 hy2 rfl (by decide) _ 8 (some ⟨w13.heap.size, 0, none⟩) 0 0 [] rfl (Row.new w13 G13 111 2 8 0 [] (Nat.zero_le _) rfl) ya1 n2 yc1 (cellsR (LR.map normR)) rfl (by rw [cellsR_length, List.length_map, HLR.out]) HRg.out.reads (cellsR_one _) (by unfold maxLen; omega) (by omega) ?_; intro ya2 yc2 w14 G14 h1 h2; rw [Nat.zero_add, List.nil_append] at h1; rw [Nat.zero_add]; have HR5 := Lib.hid h1; have HR6 := Lib.hid (HR4.out.adv h2 (by omega)); have HA5 := Lib.hid (HA4.out.trans (h2.mono (T := S98) (fun _ h => .inr h))); clear h1 h2))
      refine (stacksP G14 1 2 va2 n vc2 L ya2 n2 yc2 (LR.map normR) w14 HL.out hnm HR6.out.reads (by rw [List.length_map, HLR.out]) hnm2 HR5.out.reads (normR_good LR)).mono ?_
      rintro e w3 ⟨D, R, G3, rfl, ha3, hp3, hr3⟩
      have hb1 := ((Adv.refl (fun _ => False) w3 G3).alloc (.cells #[.int .u8 1, .int .u8 2, .int .u8 3] 5) 9).alloc (.cells #[.int .u8 4] 5) 9
      have hb2 := hb1.alloc (.cells #[.int .i64 0, .slice (some ⟨w3.heap.size, 0, none⟩) 3 3, .int .i64 9, .slice (some ⟨w3.heap.size + 1, 0, none⟩) 1 1] 47) 9
      obtain ⟨G4, hG4⟩ : ∃ G4, G4 = own1 ((w3.alloc (.cells #[.int .u8 1, .int .u8 2, .int .u8 3] 5)).alloc (.cells #[.int .u8 4] 5)) (own1 (w3.alloc (.cells #[.int .u8 1, .int .u8 2, .int .u8 3] 5)) (own1 w3 G3 9) 9) 9 := ⟨_, rfl⟩
      rw [← hG4] at hb2
      have HB2 := Lib.hid hb2
      have HA6 := Lib.hid ((HA5.out.trans (ha3.mono (T := S98) (fun _ h => h.elim))).trans (hb2.mono (T := S98) (fun _ h => h.elim)))
      have HP6 := Lib.hid (hp3.adv hb2 id)
      have HR6 := Lib.hid (hr3.adv hb2 id)
      clear ha3 hp3 hr3 hb1 hb2 hG4
      go_wp2_with fail
      refine (new_ok G4 3 (by omega) _ 2 2 banks2 rfl (by omega) (by decide) _ (bankIn2 w3 G4)).mono ?_
      rintro e w5 ⟨M, G5, rfl, ha5, hm5⟩
      have HA7 := Lib.hid (HA6.out.trans (ha5.mono (T := S98) (fun _ h => h.elim)))
      have HP7 := Lib.hid (HP6.out.adv ha5 id)
      have HR7 := Lib.hid (HR6.out.adv ha5 id)
      have HM7 := Lib.hid hm5
      have HI7 := Lib.hid (fun (w' : World) (G' : Nat → Nat) (h : Adv (fun _ => False) w5 G5 w' G') => bankIn2 w3 G4 w' G' (ha5.trans h))
      clear ha5 hm5
      go_wp2_with fail
      refine (refNew_any G5 _ 2 2 banks2 rfl (by omega) (by decide) _ HI7.out).mono ?_
      rintro e w6 ⟨Z, G6, rfl, ha6⟩
      have HA8 := Lib.hid (HA7.out.trans (ha6.mono (T := S98) (fun _ h => h.elim)))
      have HP8 := Lib.hid (HP7.out.adv ha6 id)
      have HR8 := Lib.hid (HR7.out.adv ha6 id)
      have HM8 := Lib.hid (HM7.out.adv ha6 id)
      clear ha6
      go_wp2_with fail
      go_ret
      have hx := (((HA8.out.alloc (.cells #[.slice va1 n vc1] 119) 9).alloc (.cells #[.slice ya1 n2 yc1] 121) 9).alloc (.cells #[.pointer (some ⟨D, 0, none⟩), .pointer (some ⟨R, 0, none⟩), .pointer (some ⟨M, 0, none⟩), .pointer (some ⟨w6.heap.size, 0, none⟩), .pointer (some ⟨w6.heap.size + 1, 0, none⟩), .pointer (some ⟨Z, 0, none⟩)] 82) 0)
      have hf := (((Adv.refl (fun _ => False) w6 G6).alloc (.cells #[.slice va1 n vc1] 119) 9).alloc (.cells #[.slice ya1 n2 yc1] 121) 9).alloc (.cells #[.pointer (some ⟨D, 0, none⟩), .pointer (some ⟨R, 0, none⟩), .pointer (some ⟨M, 0, none⟩), .pointer (some ⟨w6.heap.size, 0, none⟩), .pointer (some ⟨w6.heap.size + 1, 0, none⟩), .pointer (some ⟨Z, 0, none⟩)] 82) 0
      refine ⟨w6.heap.size + 1 + 1, D, R, M, _, rfl, joined_adv hx (by unfold S98; omega), ⟨_, _, _, heap_at _ _ _ (by simp), ?_⟩, (HP8.out.adv hf id).relabel (joined_new hx (by decide)), (HR8.out.adv hf id).relabel (joined_new hx (by decide)), (HM8.out.adv hf id).relabel (joined_new hx (by decide)), by have := HA8.out.size; omega⟩
      have hs := HA8.out.size
      unfold joined
      rw [if_neg (by omega)]
      simp [own1]
end Go.Proofs.YtdnalhjdmlkbmaaGreatDoor
namespace Go.Proofs.YtdnalhjdmlkbmaaGreatDoor
open Go.RowKit

/-- The document's data stack, return stack. -/
def EU (w : World) (G : Nat → Nat) (i D : Nat) (l : List Int) : Prop := ∃ v, Pile 31 119 1 w G i D v l.length (cellsU l)
def ER (w : World) (G : Nat → Nat) (i D : Nat) (l : List (Int × Int)) : Prop := ∃ v, Pile 111 121 2 w G i D v l.length (cellsR l)
theorem EU.adv {w w' : World} {G G' : Nat → Nat} {i D : Nat} {l : List Int} {S : Nat → Prop} (h : EU w G i D l) (ha : Adv S w G w' G') (hs : ¬ S i) : EU w' G' i D l := h.imp fun _ h => h.adv ha hs
theorem ER.adv {w w' : World} {G G' : Nat → Nat} {i D : Nat} {l : List (Int × Int)} {S : Nat → Prop} (h : ER w G i D l) (ha : Adv S w G w' G') (hs : ¬ S i) : ER w' G' i D l := h.imp fun _ h => h.adv ha hs

theorem Pile.row' {e T size : Nat} {w : World} {G : Nat → Nat} {i D : Nat} {v : Value} {n : Nat} {xs : List Value} (h : Pile e T size w G i D v n xs) : Row e size w G i v n xs := ⟨h.row, h.rown⟩
/-- Another row of i's is laid into the pointer's cell. -/
theorem Pile.put {e T size : Nat} {w w1 : World} {G G1 : Nat → Nat} {i D : Nat} {v v' : Value} {n m : Nat} {xs ys : List Value} (h : Pile e T size w G i D v n xs) (ha : Adv (fun _ => False) w G w1 G1) (hr : Row e size w1 G1 i v' m ys) (hne : v'.ownBlock ≠ some D) :
    Adv (· = i) w G (w1.setCell ⟨D, 0, none⟩ v') G1 ∧ Pile e T size (w1.setCell ⟨D, 0, none⟩ v') G1 i D v' m ys := by
  have h1 := h.adv ha id
  refine ⟨(ha.mono (fun _ h => h.elim)).setCell (p := ⟨D, 0, none⟩) h1.hown v', ?_, h1.hown, ?_, hr.own, hne⟩
  · simp only [World.setCell, Array.getElem?_modify, h1.head]; simp
  · exact ownsRow_of_block hr.row fun b e => Below.heap_setCell _ _ _ _ (fun x => hne (by rw [e]; exact congrArg some x))

/-- Need, as the document has it. -/
theorem refNeed (G : Nat → Nat) (i D : Nat) (l : List Int) (p q : Int) (w : World) (hp : EU w G i D l) (hn : l.length ≤ 256) (h1 : p ≤ 9223372036854775807) (h2 : q ≤ 9223372036854775807) :
    Calls Tryz.prog 134 #[.pointer (some ⟨D, 0, none⟩), .int .i64 p, .int .i64 q] w fun e w' => e = .returned (.int .i64 (needF l.length p q)) ∧ w = w' := by
  obtain ⟨v, h⟩ := hp
  obtain ⟨a, c, rfl⟩ := h.slice
  obtain ⟨n, hln⟩ : ∃ n, n = l.length := ⟨_, rfl⟩
  rw [← hln]
  have hc := h.cell
  rw [← hln] at hc hn
  clear h hln
  go_enter Tryz.func134, Tryz.ntmps134
  go_wp2
  all_goals
    go_ret
    exact ⟨ret_int (by unfold needF; (repeat' split) <;> omega), rfl⟩
theorem refPush_no (G : Nat → Nat) (i D : Nat) (l : List Int) (xa : Option Addr) (n c : Nat) (w : World) (hp : EU w G i D l) (hl : l.length ≤ 256) (hn : n ≤ 100000000000000) (hfull : 256 < l.length + n) :
    Calls Tryz.prog 40 #[.pointer (some ⟨D, 0, none⟩), .slice xa n c] w fun e w' => e = .returned (.int .i64 2) ∧ w = w' := by
  obtain ⟨v, h⟩ := hp
  obtain ⟨a, cap, rfl⟩ := h.slice
  obtain ⟨m, hm⟩ : ∃ m, m = l.length := ⟨_, rfl⟩
  have hc := h.cell
  rw [← hm] at hc hl hfull
  have hd : decide (256 < (m : Int) + n) = true := by simp; omega
  clear h hm
  go_enter Tryz.func40, Tryz.ntmps40
  go_wp2
  go_ret
  exact ⟨rfl, rfl⟩
set_option maxHeartbeats 1000000 in
theorem refPush (G : Nat → Nat) (i D : Nat) (l m : List Int) (xa : Option Addr) (n c : Nat) (w : World) (hp : EU w G i D l) (hn : m.length = n) (hroom : l.length + n ≤ 256) (hr : Reads w xa (cellsU m)) :
    Calls Tryz.prog 40 #[.pointer (some ⟨D, 0, none⟩), .slice xa n c] w fun e w' => e = .returned (.int .i64 0) ∧ ∃ G', Adv (· = i) w G w' G' ∧ EU w' G' i D (l ++ m) := by
  obtain ⟨v, h⟩ := hp
  obtain ⟨a, cap, rfl⟩ := h.slice
  obtain ⟨k, hk⟩ : ∃ k, k = l.length := ⟨_, rfl⟩
  rw [← hk] at h hroom
  have hc := h.cell
  have hf := h.frozen
  have hd : decide (256 < (k : Int) + n) = false := by simp; omega
  obtain ⟨i0, hi, hz0, hz1, hz2⟩ := info_parts Tryz.info31
  have HP := Lib.hid h
  have HK := Lib.hid hk
  have HN := Lib.hid hn
  have HR := Lib.hid hr
  have hD := h.lt
  have hrl := h.reads.1.alloc (.cells #[] 31)
  have hA0 := (Adv.refl (fun i => i = 1) w (fun _ => 0)).alloc (.cells #[] 31) 1
  have hR0 := Row.new w (fun _ => 0) 31 1 1 0 [] (Nat.zero_le _) rfl
  obtain ⟨G1, hG1⟩ : ∃ G1, G1 = own1 w (fun _ => 0) 1 := ⟨_, rfl⟩
  rw [← hG1] at hA0 hR0
  have HA0 := Lib.hid hA0
  have HR0 := Lib.hid hR0
  have HRL := Lib.hid hrl
  clear h hk hn hr hrl hA0 hR0 hG1
  have hk256 : k ≤ 256 := by omega
  go_enter Tryz.func40, Tryz.ntmps40
  go_wp2_with (first
    | (at_builtin; refine wpList_append_reads rfl (.tmp 15) (.tmp 19) 22 rfl 31 i0 (.int .u16 0) 1 2 Tryz.underlying22 hi hz0 hz1 hz2 rfl (by decide) G1 1 (some ⟨w.heap.size, 0, none⟩) 0 0 [] rfl HR0.out a k cap (cellsU l) rfl (by rw [cellsU_length, ← HK.out, Nat.mul_one]) HRL.out (cellsU_one l) (by unfold maxLen; omega) (by omega) ?_; intro va1 vc1 w1 G2 h1 h2; rw [Nat.zero_add, List.nil_append] at h1; rw [Nat.zero_add]; have HR1 := Lib.hid h1; have HA1 := Lib.hid (HA0.out.trans h2); clear h1 h2)
    | (at_builtin; refine wpList_append_reads rfl (.tmp 20) (.tmp 21) 22 rfl 31 i0 (.int .u16 0) 1 2 Tryz.underlying22 hi hz0 hz1 hz2 rfl (by decide) G2 1 va1 k vc1 (cellsU l) rfl HR1.out xa n c (cellsU m) rfl (by rw [cellsU_length, HN.out, Nat.mul_one]) (HR.out.adv HA1.out (fun _ _ => by omega)) (cellsU_one m) (by unfold maxLen; omega) (by omega) ?_; intro va2 vc2 w2 G3 h1 h2; have hc2 := (HA1.out.trans h2).cell_some hc (by show ¬ (0 = 1); omega); have hf2 : w2.frozen? ⟨D, 0, none⟩ = false := (World.frozen?_of_block ((HA1.out.trans h2).keep D hD (by show ¬ (0 = 1); omega))).trans hf; have HR2 := Lib.hid h1; have HA2 := Lib.hid (HA1.out.trans h2); clear h1 h2))
  go_ret
  have hne : (Value.slice va2 (k + n) vc2).ownBlock ≠ some D := by
    intro e
    have h1 := HR2.out.own D e
    rw [HA2.out.own D hD] at h1
    exact absurd h1 (by show ¬ (0 = 1); omega)
  have ha : Adv (fun _ => False) w G w2 (named w G G3 i 0) := HA2.out.relabel (fun _ _ => by omega) (fun _ hb => named_old hb)
  have hr : Row 31 1 w2 (named w G G3 i 0) i (.slice va2 (k + n) vc2) (k + n) (cellsU l ++ cellsU m) := ⟨HR2.out.row, fun b e => named_1 HA2.out b (HR2.out.row.lt b e).2 (HR2.out.own b e)⟩
  have hput := HP.out.put ha hr hne
  exact ⟨rfl, _, hput.1, _, by rw [List.length_append, cellsU_append, ← HK.out, HN.out]; exact hput.2⟩
end Go.Proofs.YtdnalhjdmlkbmaaGreatDoor
namespace Go.Proofs.YtdnalhjdmlkbmaaGreatDoor
open Go.RowKit

theorem refPushR_no (G : Nat → Nat) (i D : Nat) (l : List (Int × Int)) (xa : Option Addr) (n c : Nat) (w : World) (hp : ER w G i D l) (hl : l.length ≤ 128) (hn : n ≤ 100000000000000) (hfull : 128 < l.length + n) :
    Calls Tryz.prog 42 #[.pointer (some ⟨D, 0, none⟩), .slice xa n c] w fun e w' => e = .returned (.int .i64 4) ∧ w = w' := by
  obtain ⟨v, h⟩ := hp
  obtain ⟨a, cap, rfl⟩ := h.slice
  obtain ⟨m, hm⟩ : ∃ m, m = l.length := ⟨_, rfl⟩
  have hc := h.cell
  rw [← hm] at hc hl hfull
  have hd : decide (128 < (m : Int) + n) = true := by simp; omega
  clear h hm
  go_enter Tryz.func42, Tryz.ntmps42
  go_wp2
  go_ret
  exact ⟨rfl, rfl⟩
set_option maxHeartbeats 1000000 in
theorem refPushR (G : Nat → Nat) (i D : Nat) (l m : List (Int × Int)) (xa : Option Addr) (n c : Nat) (w : World) (hp : ER w G i D l) (hn : m.length = n) (hroom : l.length + n ≤ 128) (hr : Reads w xa (cellsR m)) :
    Calls Tryz.prog 42 #[.pointer (some ⟨D, 0, none⟩), .slice xa n c] w fun e w' => e = .returned (.int .i64 0) ∧ ∃ G', Adv (· = i) w G w' G' ∧ ER w' G' i D (l ++ m) := by
  obtain ⟨v, h⟩ := hp
  obtain ⟨a, cap, rfl⟩ := h.slice
  obtain ⟨k, hk⟩ : ∃ k, k = l.length := ⟨_, rfl⟩
  rw [← hk] at h hroom
  have hc := h.cell
  have hf := h.frozen
  have hd : decide (128 < (k : Int) + n) = false := by simp; omega
  obtain ⟨i0, hi, hz0, hz1, hz2⟩ := info_parts Tryz.info111
  have HP := Lib.hid h
  have HK := Lib.hid hk
  have HN := Lib.hid hn
  have HR := Lib.hid hr
  have hD := h.lt
  have hrl := h.reads.1.alloc (.cells #[] 111)
  have hA0 := (Adv.refl (fun i => i = 1) w (fun _ => 0)).alloc (.cells #[] 111) 1
  have hR0 := Row.new w (fun _ => 0) 111 2 1 0 [] (Nat.zero_le _) rfl
  obtain ⟨G1, hG1⟩ : ∃ G1, G1 = own1 w (fun _ => 0) 1 := ⟨_, rfl⟩
  rw [← hG1] at hA0 hR0
  have HA0 := Lib.hid hA0
  have HR0 := Lib.hid hR0
  have HRL := Lib.hid hrl
  clear h hk hn hr hrl hA0 hR0 hG1
  have hk256 : k ≤ 128 := by omega
  go_enter Tryz.func42, Tryz.ntmps42
  go_wp2_with (first
    | (at_builtin; refine wpList_append_reads rfl (.tmp 15) (.tmp 19) 23 rfl 111 i0 (.agg #[.int .i64 0, .int .u16 0]) 2 16 Tryz.underlying23 hi hz0 hz1 hz2 rfl (by decide) G1 1 (some ⟨w.heap.size, 0, none⟩) 0 0 [] rfl HR0.out a k cap (cellsR l) rfl (by rw [cellsR_length, ← HK.out]) HRL.out (cellsR_one l) (by unfold maxLen; omega) (by omega) ?_; intro va1 vc1 w1 G2 h1 h2; rw [Nat.zero_add, List.nil_append] at h1; rw [Nat.zero_add]; have HR1 := Lib.hid h1; have HA1 := Lib.hid (HA0.out.trans h2); clear h1 h2)
    | (at_builtin; refine wpList_append_reads rfl (.tmp 20) (.tmp 21) 23 rfl 111 i0 (.agg #[.int .i64 0, .int .u16 0]) 2 16 Tryz.underlying23 hi hz0 hz1 hz2 rfl (by decide) G2 1 va1 k vc1 (cellsR l) rfl HR1.out xa n c (cellsR m) rfl (by rw [cellsR_length, HN.out]) (HR.out.adv HA1.out (fun _ _ => by omega)) (cellsR_one m) (by unfold maxLen; omega) (by omega) ?_; intro va2 vc2 w2 G3 h1 h2; have hc2 := (HA1.out.trans h2).cell_some hc (by show ¬ (0 = 1); omega); have hf2 : w2.frozen? ⟨D, 0, none⟩ = false := (World.frozen?_of_block ((HA1.out.trans h2).keep D hD (by show ¬ (0 = 1); omega))).trans hf; have HR2 := Lib.hid h1; have HA2 := Lib.hid (HA1.out.trans h2); clear h1 h2))
  go_ret
  have hne : (Value.slice va2 (k + n) vc2).ownBlock ≠ some D := by
    intro e
    have h1 := HR2.out.own D e
    rw [HA2.out.own D hD] at h1
    exact absurd h1 (by show ¬ (0 = 1); omega)
  have ha : Adv (fun _ => False) w G w2 (named w G G3 i 0) := HA2.out.relabel (fun _ _ => by omega) (fun _ hb => named_old hb)
  have hr : Row 111 2 w2 (named w G G3 i 0) i (.slice va2 (k + n) vc2) (k + n) (cellsR l ++ cellsR m) := ⟨HR2.out.row, fun b e => named_1 HA2.out b (HR2.out.row.lt b e).2 (HR2.out.own b e)⟩
  have hput := HP.out.put ha hr hne
  exact ⟨rfl, _, hput.1, _, by rw [List.length_append, cellsR_append, ← HK.out, HN.out]; exact hput.2⟩

theorem refAt_out (D : Nat) (a : Option Addr) (m cap : Nat) (n kind : Int) (w : World) (hc : w.cell? ⟨D, 0, none⟩ = some (.slice a m cap)) (hn : n < 0 ∨ (m : Int) ≤ n) :
    Calls Tryz.prog 166 #[.pointer (some ⟨D, 0, none⟩), .int .i64 n, .int .i64 kind] w fun e w' => e = .returned (.tuple #[.int .u16 0, .int .i64 3]) ∧ w = w' := by
  by_cases h1 : n < 0
  · have h2 : decide (n < 0) = true := by simpa using h1
    go_enter Tryz.func166, Tryz.ntmps166
    go_wp2
    go_ret2
    exact ⟨rfl, rfl⟩
  · have h2 : decide (n < 0) = false := by simpa using h1
    have h3 : decide ((m : Int) ≤ n) = true := by simp; omega
    go_enter Tryz.func166, Tryz.ntmps166
    go_wp2
    go_ret2
    exact ⟨rfl, rfl⟩
set_option maxHeartbeats 1000000 in
theorem refAt_same (D g : Nat) (m cap j k : Nat) (c1 c2 : Int) (w : World) (hc : w.cell? ⟨D, 0, none⟩ = some (.slice (some ⟨g, 0, none⟩) m cap)) (hm : m ≤ 100000) (hj : j + k + 1 = m)
    (h1 : w.cell? ⟨g, k * 2, none⟩ = some (.int .i64 c1)) (h2 : w.cell? ⟨g, k * 2 + 1, none⟩ = some (.int .u16 c2)) :
    Calls Tryz.prog 166 #[.pointer (some ⟨D, 0, none⟩), .int .i64 j, .int .i64 c1] w fun e w' => e = .returned (.tuple #[.int .u16 c2, .int .i64 0]) ∧ w' = (w.alloc (.cells #[.int .i64 c1, .int .u16 c2] 111)).drew := by
  have hd1 : decide ((j : Int) < 0) = false := by simp
  have hd2 : decide (m ≤ j) = false := by simp; omega
  have hw1 : IntKind.i64.wrap ((m : Int) - 1) = (m : Int) - 1 := IntWalk.i64_in _ (by omega)
  have hw2 : IntKind.i64.wrap ((m : Int) - 1 - (j : Int)) = (k : Int) := by
    rw [IntWalk.i64_in _ (by omega)]; omega
  have hk0 : (0 : Int) ≤ (k : Int) := Int.natCast_nonneg _
  have hk1 : (k : Int) < (m : Int) := by omega
  have hg := World.block_lt_of_cell? w _ h1
  have hD := World.block_lt_of_cell? w _ hc
  clear hj
  go_enter Tryz.func166, Tryz.ntmps166
  go_wp2_with fail
  go_region
  all_goals (go_wp2; go_ret2; exact ⟨rfl, rfl⟩)
set_option maxHeartbeats 1000000 in
theorem refAt_other (D g : Nat) (m cap j k : Nat) (kind c1 c2 : Int) (hb : (c1 != kind) = true) (w : World) (hc : w.cell? ⟨D, 0, none⟩ = some (.slice (some ⟨g, 0, none⟩) m cap)) (hm : m ≤ 100000) (hj : j + k + 1 = m)
    (h1 : w.cell? ⟨g, k * 2, none⟩ = some (.int .i64 c1)) (h2 : w.cell? ⟨g, k * 2 + 1, none⟩ = some (.int .u16 c2)) :
    Calls Tryz.prog 166 #[.pointer (some ⟨D, 0, none⟩), .int .i64 j, .int .i64 kind] w fun e w' => e = .returned (.tuple #[.int .u16 0, .int .i64 5]) ∧ w' = (w.alloc (.cells #[.int .i64 c1, .int .u16 c2] 111)).drew := by
  have hd1 : decide ((j : Int) < 0) = false := by simp
  have hd2 : decide (m ≤ j) = false := by simp; omega
  have hw1 : IntKind.i64.wrap ((m : Int) - 1) = (m : Int) - 1 := IntWalk.i64_in _ (by omega)
  have hw2 : IntKind.i64.wrap ((m : Int) - 1 - (j : Int)) = (k : Int) := by
    rw [IntWalk.i64_in _ (by omega)]; omega
  have hk0 : (0 : Int) ≤ (k : Int) := Int.natCast_nonneg _
  have hk1 : (k : Int) < (m : Int) := by omega
  have hg := World.block_lt_of_cell? w _ h1
  have hD := World.block_lt_of_cell? w _ hc
  have hk : ¬ c1 = kind := by simpa using hb
  clear hj
  go_enter Tryz.func166, Tryz.ntmps166
  go_wp2_with fail
  go_region
  all_goals (go_wp2; go_ret2; exact ⟨rfl, rfl⟩)

/-- At, as the document has it. -/
theorem refAt (G : Nat → Nat) (i D : Nat) (l : List (Int × Int)) (n kind : Int) (w : World) (hp : ER w G i D l) (hm : l.length ≤ 100000) :
    Calls Tryz.prog 166 #[.pointer (some ⟨D, 0, none⟩), .int .i64 n, .int .i64 kind] w fun e w' => e = .returned (.tuple #[.int .u16 (atV l n kind), .int .i64 (atE l n kind)]) ∧ ∃ G', Adv (fun _ => False) w G w' G' := by
  obtain ⟨v, h⟩ := hp
  obtain ⟨a, cap, rfl⟩ := h.slice
  by_cases hn : 0 ≤ n ∧ n < l.length
  · obtain ⟨j, rfl⟩ : ∃ j : Nat, n = j := ⟨n.toNat, by omega⟩
    obtain ⟨k, hk⟩ : ∃ k : Nat, j + k + 1 = l.length := ⟨l.length - 1 - j, by omega⟩
    obtain ⟨c, hc⟩ : ∃ c, l[k]? = some c := ⟨l[k]'(by omega), by simp⟩
    obtain ⟨g, rfl, _, _, _, _, h1, h2, _, _⟩ := h.atR k c hc
    rw [atV_in (by omega) hc, atE_in (by omega) hc]
    by_cases e : c.1 = kind
    · rw [if_pos e, if_pos e, ← e]
      refine (refAt_same D g l.length cap j k c.1 c.2 w h.cell hm hk h1 h2).mono ?_
      rintro e w' ⟨rfl, rfl⟩
      exact ⟨rfl, _, ((Adv.refl _ w G).alloc _ 0).drew⟩
    · rw [if_neg e, if_neg e]
      refine (refAt_other D g l.length cap j k kind c.1 c.2 (by simpa using e) w h.cell hm hk h1 h2).mono ?_
      rintro e w' ⟨rfl, rfl⟩
      exact ⟨rfl, _, ((Adv.refl _ w G).alloc _ 0).drew⟩
  · rw [(at_out (by omega)).1, (at_out (by omega)).2]
    refine (refAt_out D a l.length cap n kind w h.cell (by omega)).mono ?_
    rintro e w' ⟨rfl, rfl⟩
    exact ⟨rfl, G, Adv.refl _ _ _⟩

theorem refPopR_not (G : Nat → Nat) (i D : Nat) (l : List (Int × Int)) (kind : Int) (w : World) (hp : ER w G i D l) (hm : l.length ≤ 100000) (hne : (atE l 0 kind == 0) = false) :
    Calls Tryz.prog 139 #[.pointer (some ⟨D, 0, none⟩), .int .i64 kind] w fun e w' => e = .returned (.tuple #[.int .u16 (atV l 0 kind), .int .i64 (atE l 0 kind)]) ∧ ∃ G', Adv (fun _ => False) w G w' G' := by
  have HP := Lib.hid hp
  clear hp
  go_enter Tryz.func139, Tryz.ntmps139
  go_wp2_with (go_at_call 166; refine (refAt G i D l 0 kind _ HP.out hm).mono ?_; rintro e w' ⟨rfl, ha⟩; have HA := Lib.hid ha; clear ha)
  go_ret2
  exact ⟨rfl, HA.out⟩
set_option maxHeartbeats 1000000 in
theorem refPopR (G : Nat → Nat) (i D : Nat) (l : List (Int × Int)) (c : Int × Int) (w : World) (hp : ER w G i D (l ++ [c])) (hm : l.length < 1000) :
    Calls Tryz.prog 139 #[.pointer (some ⟨D, 0, none⟩), .int .i64 c.1] w fun e w' => e = .returned (.tuple #[.int .u16 c.2, .int .i64 0]) ∧ ∃ G', Adv (· = i) w G w' G' ∧ ER w' G' i D l := by
  have h0 : atV (l ++ [c]) 0 c.1 = c.2 := by
    have h := atV_in (l := l ++ [c]) (j := 0) (k := l.length) (kind := c.1) (c := c) (by simp) (by simp)
    simpa using h
  have h1 : atE (l ++ [c]) 0 c.1 = 0 := by
    have h := atE_in (l := l ++ [c]) (j := 0) (k := l.length) (kind := c.1) (c := c) (by simp) (by simp)
    simpa using h
  have HP := Lib.hid hp
  have H0 := Lib.hid h0
  have H1 := Lib.hid h1
  clear hp h0 h1
  go_enter Tryz.func139, Tryz.ntmps139
  go_wp2_with fail
  refine (refAt G i D (l ++ [c]) 0 c.1 _ HP.out (by simp; omega)).mono ?_
  rintro e w1 ⟨rfl, G1, ha⟩
  rw [H0.out, H1.out]
  obtain ⟨v, h⟩ := HP.out.adv ha id
  obtain ⟨a, cap, rfl⟩ := h.slice
  rw [List.length_append] at h
  obtain ⟨m, hm2⟩ : ∃ m, m = l.length := ⟨_, rfl⟩
  rw [← hm2] at h hm
  have hc := h.cell
  have hf := h.frozen
  rw [show m + [c].length = m + 1 from rfl] at hc
  obtain ⟨g, rfl, hlc, hcap, _⟩ := h.atR m c (by rw [hm2]; simp)
  have hmax : cap ≤ 9223372036854775807 := by unfold maxLen at hcap; omega
  have hlc2 : m + 1 ≤ cap := hlc
  have HA := Lib.hid ha
  have HPI := Lib.hid h
  have HM := Lib.hid hm2
  have hw1 : IntKind.i64.wrap ((m : Int) + 1 - 1) = (m : Int) := by rw [IntWalk.i64_in _ (by omega)]; omega
  clear ha h hm2 hcap hlc
  go_wp2_with fail
  go_region
  all_goals
    go_wp2
    go_ret2
    obtain ⟨h1, h2⟩ := HPI.out.cut (m := m) (by simp)
    have h3 := h2 (.inr rfl)
    rw [cellsR_append, List.take_left' (by rw [cellsR_length, HM.out])] at h3
    exact ⟨rfl, G1, ((HA.out.mono (fun _ h => h.elim)).trans h1).drew, _, by rw [← HM.out]; exact h3.drewN 1⟩

end Go.Proofs.YtdnalhjdmlkbmaaGreatDoor
namespace Go.Proofs.YtdnalhjdmlkbmaaGreatDoor
open Go.RowKit
set_option linter.unusedVariables false
def S4 (b : Nat) : Prop := b = 9 ∨ b = 8 ∨ b = 19 ∨ b = 18
theorem EU.relabel {w : World} {G H : Nat → Nat} {i j D : Nat} {l : List Int} (h : EU w G i D l) (hH : ∀ b, b < w.heap.size → G b = i → H b = j) : EU w H j D l := h.imp fun _ h => h.relabel hH
theorem ER.relabel {w : World} {G H : Nat → Nat} {i j D : Nat} {l : List (Int × Int)} (h : ER w G i D l) (hH : ∀ b, b < w.heap.size → G b = i → H b = j) : ER w H j D l := h.imp fun _ h => h.relabel hH
def W6h (w : World) (G : Nat → Nat) (K D R M X Y Z : Nat) : Prop :=
  w.heap[K]? = some (.cells #[.pointer (some ⟨D, 0, none⟩), .pointer (some ⟨R, 0, none⟩), .pointer (some ⟨M, 0, none⟩), .pointer (some ⟨X, 0, none⟩), .pointer (some ⟨Y, 0, none⟩), .pointer (some ⟨Z, 0, none⟩)] 82 (0, 0)) ∧ G K = 0
theorem Row.pile {e T size : Nat} {w : World} {G : Nat → Nat} {i n D : Nat} {v : Value} {xs : List Value} (h : Row e size w G i v n xs) (hh : w.heap[D]? = some (.cells #[v] T (0, 0))) (hG : G D = i) (hne : v.ownBlock ≠ some D) : Pile e T size w G i D v n xs :=
  ⟨hh, hG, h.row, h.own, hne⟩
theorem Row.old {e size : Nat} {w : World} {G : Nat → Nat} {i n : Nat} {v : Value} {xs : List Value} (h : Row e size w G i v n xs) : ∀ b, v.ownBlock = some b → b < w.heap.size := fun b e => (h.row.lt b e).2
set_option maxRecDepth 100000 in
set_option maxHeartbeats 2000000 in
theorem bornF (G : Nat → Nat) (xa : Option Addr) (m c : Nat) (l : List Int) (ya : Option Addr) (m2 c2 : Nat) (lr : List (Int × Int)) (w : World) (hl : l.length = m) (hr : Reads w xa (cellsU l)) (hcap : m ≤ c) (hc1 : c ≤ 9223372036854775807)
    (hlr : lr.length = m2) (hrr : Reads w ya (cellsR lr)) (hcap2 : m2 ≤ c2) (hc2 : c2 ≤ 9223372036854775807) (hwf : ∀ c ∈ lr, -9223372036854775808 ≤ c.1 ∧ c.1 ≤ 9223372036854775807) :
    Calls Tryz.prog 9 #[.slice xa m c, .slice ya m2 c2] w fun e w' => ∃ K D R M X Y Z G', e = .returned (.pointer (some ⟨K, 0, none⟩)) ∧ Adv (fun _ => False) w G w' G' ∧ W6h w' G' K D R M X Y Z ∧ PU w' G' 1 D (l.take 256) ∧ PR w' G' 2 R ((lr.take 128).map normR) ∧ PM w' G' 3 M (newM banks2) ∧
      EU w' G' 9 X (l.take 256) ∧ ER w' G' 8 Y ((lr.take 128).map normR) ∧ RM w' G' 11 Z (newM banks2) := by
  obtain ⟨i0, hi, hz0, hz1, hz2⟩ := info_parts Tryz.info31
  obtain ⟨j0, hj, hy0, hy1, hy2⟩ := info_parts Tryz.info111
  obtain ⟨n, hn⟩ : ∃ n, n = min m 256 := ⟨_, rfl⟩
  obtain ⟨n2, hn2⟩ : ∃ n2, n2 = min m2 128 := ⟨_, rfl⟩
  obtain ⟨L, hLdef⟩ : ∃ L, L = l.take 256 := ⟨_, rfl⟩
  obtain ⟨LR, hLRdef⟩ : ∃ LR, LR = lr.take 128 := ⟨_, rfl⟩
  rw [← hLdef, ← hLRdef]
  have hLn : L.length = n := by rw [hLdef, List.length_take]; omega
  have hLRn : LR.length = n2 := by rw [hLRdef, List.length_take]; omega
  have hrL : Reads w xa (cellsU L) := by rw [hLdef]; exact hr.takeU 256
  have hrLR : Reads w ya (cellsR LR) := by rw [hLRdef]; exact hrr.takeR 128
  have HWF := Lib.hid (show ∀ c ∈ LR, -9223372036854775808 ≤ c.1 ∧ c.1 ≤ 9223372036854775807 from fun c hc => hwf c (List.mem_of_mem_take (hLRdef ▸ hc)))
  have HMIN := Lib.hid (show min (m : Int) 256 = (n : Int) from by omega)
  have HMIN2 := Lib.hid (show min (m2 : Int) 128 = (n2 : Int) from by omega)
  have hnm : n ≤ 256 := by omega
  have hnm2 : n2 ≤ 128 := by omega
  have hnc : n ≤ c := by omega
  have hnc2 : n2 ≤ c2 := by omega
  have HL := Lib.hid hLn
  have HLR := Lib.hid hLRn
  have HX := Lib.hid (hrL.alloc (.cells #[] 31))
  have HYX : ∀ {w1 : World} {G1 : Nat → Nat}, Adv S4 w (fun _ => 0) w1 G1 → Reads (w1.alloc (.cells #[] 111)) ya (cellsR LR) := fun h => (hrLR.adv h (fun _ _ => by unfold S4; omega)).alloc _
  have HA0 := Lib.hid ((Adv.refl S4 w (fun _ => 0)).alloc (.cells #[] 31) 9)
  have HR0 := Lib.hid (Row.new w (fun _ => 0) 31 1 9 0 [] (Nat.zero_le _) rfl)
  clear hl hr hlr hrr hwf hLdef hLRdef hLn hLRn hrL hrLR hn hn2 hcap hcap2
  go_enter Tryz.func9, Tryz.ntmps9
  go_wp2_with (first
    | (refine wpList_min ?mng (.tmp 17) (.const (.int .i64 256)) 3 ?mno m 256 n ?mns ?mnx HMIN.out.symm ?mnr; (case mng => rfl); (case mno => rfl); (case mns => rfl); (case mnx => rfl))
    | (at_builtin; refine wpList_append_reads rfl (.tmp 14) (.tmp 19) 22 rfl 31 i0 (.int .u16 0) 1 2 Tryz.underlying22 hi hz0 hz1 hz2 rfl (by decide) _ 9 (some ⟨w.heap.size, 0, none⟩) 0 0 [] rfl HR0.out xa n c (cellsU L) rfl (by rw [cellsU_length, HL.out, Nat.mul_one]) HX.out (cellsU_one L) (by unfold maxLen; omega) (by omega) ?_; intro va1 vc1 w1 G1 h1 h2; rw [Nat.zero_add, List.nil_append] at h1; rw [Nat.zero_add]; have HR1 := Lib.hid h1; have HA1 := Lib.hid (HA0.out.trans (h2.mono (T := S4) (fun _ h => .inl h))); clear h1 h2)
    | (refine wpList_min ?mpg (.tmp 24) (.const (.int .i64 128)) 3 ?mpo m2 128 n2 ?mps ?mpx HMIN2.out.symm ?mpr; (case mpg => rfl); (case mpo => rfl); (case mps => rfl); (case mpx => rfl))
    | (at_builtin; refine wpList_append_reads rfl (.tmp 21) (.tmp 26) 23 rfl 111 j0 (.agg #[.int .i64 0, .int .u16 0]) 2 16 Tryz.underlying23 hj hy0 hy1 hy2 rfl (by decide) _ 8 (some ⟨w1.heap.size, 0, none⟩) 0 0 [] rfl (Row.new w1 G1 111 2 8 0 [] (Nat.zero_le _) rfl) ya n2 c2 (cellsR LR) rfl (by rw [cellsR_length, HLR.out]) (HYX HA1.out) (cellsR_one LR) (by unfold maxLen; omega) (by omega) ?_; intro ya1 yc1 w2 G2 h1 h2; rw [Nat.zero_add, List.nil_append] at h1; rw [Nat.zero_add]; have HRC := Lib.hid h1; have HRD := Lib.hid ((HR1.out.adv (S := fun _ => False) ((Adv.refl (fun _ => False) w1 G1).alloc (.cells #[] 111) 8) id).adv h2 (by omega)); have HA2 := Lib.hid ((HA1.out.alloc (.cells #[] 111) 8).trans (h2.mono (T := S4) (fun _ h => .inr (.inl h)))); clear h1 h2))
  go_loopw [5] (fun v wr => ∃ j : Nat, j ≤ n2 ∧ v = .int .i64 j ∧ ∃ Gr, Adv S4 w (fun _ => 0) wr Gr ∧ Row 31 1 wr Gr 9 (.slice va1 n vc1) n (cellsU L) ∧ Row 111 2 wr Gr 8 (.slice ya1 n2 yc1) n2 (cellsR ((LR.take j).map normR ++ LR.drop j))) (fun v _ => n2 - (intOf v).toNat)
  case atStart => exact ⟨0, Nat.zero_le _, rfl, _, HA2.out, HRD.out, HRC.out⟩
  case round =>
    obtain ⟨j, hj0, rfl, Gr, h1, h2, h3⟩ := hrel
    by_cases hlt : j < n2
    · obtain ⟨ck, hck⟩ : ∃ ck, LR[j]? = some ck := ⟨LR[j]'(by rw [HLR.out]; exact hlt), by simp⟩
      obtain ⟨hw1, hw2⟩ := HWF.out ck (List.mem_of_getElem? hck)
      obtain ⟨g, rfl⟩ : ∃ g, ya1 = some ⟨g, 0, none⟩ := by
        obtain ⟨a', c', e1, _, _, h6⟩ := h3.slice
        cases e1; exact h6 (by omega)
      obtain ⟨hg, hG, hf, hc⟩ := h3.at (by omega)
      have hget := hc (j * 2) _ (normR_get LR j ck hck)
      have hf2 := hf (j * 2)
      have hlen : j * 2 < (cellsR ((LR.take j).map normR ++ LR.drop j)).length := by rw [h3.nlen]; omega
      have HS := Lib.hid (h3.store (j * 2) hlen (.int .i64 (1 + ck.1 % 4)))
      have HE := Lib.hid (normR_set LR j ck hck)
      have H1 := Lib.hid h1
      have H2 := Lib.hid h2
      have HRW := Lib.hid (show wrap64 (1 + (wrap64 (ck.1.tmod 4 + 4)).tmod 4) = 1 + ck.1 % 4 from by
        have h4 := rem4 ck.1
        have h5 : wrap64 (ck.1.tmod 4 + 4) = ck.1.tmod 4 + 4 := (by unfold wrap64; have := Int.tmod_lt_of_pos ck.1 (b := 4) (by decide); have := tmod_ge4 ck.1; omega)
        rw [h5, h4]
        unfold wrap64; omega)
      clear hck hf hc hG h1 h2 h3
      go_wp2
      go_roundw
      case rel =>
        rw [HRW.out]
        exact ⟨j + 1, by omega, by go_num, Gr, H1.out.trans (HS.out.1.mono (T := S4) (fun _ h => .inr (.inl h))), H2.out.adv HS.out.1 (by omega), by rw [← HE.out]; exact HS.out.2⟩
      case measure => simp [intOf]; omega
    · obtain rfl : n2 = j := by omega
      rw [List.take_of_length_le (by rw [HLR.out]; omega), List.drop_of_length_le (by rw [HLR.out]; omega), List.append_nil] at h3
      have HA3 := Lib.hid (h1.alloc (.cells #[] 31) 19)
      have hAr := (Adv.refl (fun _ => False) wr Gr).alloc (.cells #[] 31) 19
      have HRe := Lib.hid (h2.adv hAr id)
      have HRf := Lib.hid (h3.adv hAr id)
      have HR3 := Lib.hid (Row.new wr Gr 31 1 19 0 [] (Nat.zero_le _) rfl)
      clear h1 h2 h3 hAr
      go_wp2_with (first
        | (at_builtin; refine wpList_append_reads rfl (.tmp 48) (.tmp 49) 22 rfl 31 i0 (.int .u16 0) 1 2 Tryz.underlying22 hi hz0 hz1 hz2 rfl (by decide) _ 19 (some ⟨wr.heap.size, 0, none⟩) 0 0 [] rfl HR3.out va1 n vc1 (cellsU L) rfl (by rw [cellsU_length, HL.out, Nat.mul_one]) HRe.out.reads (cellsU_one L) (by unfold maxLen; omega) (by omega) ?_; intro va2 vc2 w13 G13 h1 h2; rw [Nat.zero_add, List.nil_append] at h1; rw [Nat.zero_add]; have hAs := (Adv.refl (fun _ => False) w13 G13).alloc (.cells #[] 111) 18; have HR4 := Lib.hid (h1.adv hAs id); have HA4 := Lib.hid ((HA3.out.trans (h2.mono (T := S4) (fun _ h => .inr (.inr (.inl h))))).alloc (.cells #[] 111) 18); have HRg := Lib.hid ((HRf.out.adv h2 (by omega)).adv hAs id); have HXa := Lib.hid ((HRe.out.adv h2 (by omega)).adv hAs id); clear h1 h2 hAs)
        | (at_builtin; refine wpList_append_reads rfl (.tmp 51) (.tmp 52) 23 rfl 111 j0 (.agg #[.int .i64 0, .int .u16 0]) 2 16 Tryz.underlying23 hj hy0 hy1 hy2 rfl (by decide) _ 18 (some ⟨w13.heap.size, 0, none⟩) 0 0 [] rfl (Row.new w13 G13 111 2 18 0 [] (Nat.zero_le _) rfl) ya1 n2 yc1 (cellsR (LR.map normR)) rfl (by rw [cellsR_length, List.length_map, HLR.out]) HRg.out.reads (cellsR_one _) (by unfold maxLen; omega) (by omega) ?_; intro ya2 yc2 w14 G14 h1 h2; rw [Nat.zero_add, List.nil_append] at h1; rw [Nat.zero_add]; have HR5 := Lib.hid h1; have HR6 := Lib.hid (HR4.out.adv h2 (by omega)); have HXb := Lib.hid (HXa.out.adv h2 (by omega)); have HYb := Lib.hid (HRg.out.adv h2 (by omega)); have HA5 := Lib.hid (HA4.out.trans (h2.mono (T := S4) (fun _ h => .inr (.inr (.inr h))))); clear h1 h2))
      refine (stacksP G14 1 2 va2 n vc2 L ya2 n2 yc2 (LR.map normR) w14 HL.out hnm HR6.out.reads (by rw [List.length_map, HLR.out]) hnm2 HR5.out.reads (normR_good LR)).mono ?_
      rintro e w3 ⟨D, R, G3, rfl, ha3, hp3, hr3⟩
      have hb1 := ((Adv.refl (fun _ => False) w3 G3).alloc (.cells #[.int .u8 1, .int .u8 2, .int .u8 3] 5) 9).alloc (.cells #[.int .u8 4] 5) 9
      have hb2 := hb1.alloc (.cells #[.int .i64 0, .slice (some ⟨w3.heap.size, 0, none⟩) 3 3, .int .i64 9, .slice (some ⟨w3.heap.size + 1, 0, none⟩) 1 1] 47) 9
      obtain ⟨G4, hG4⟩ : ∃ G4, G4 = own1 ((w3.alloc (.cells #[.int .u8 1, .int .u8 2, .int .u8 3] 5)).alloc (.cells #[.int .u8 4] 5)) (own1 (w3.alloc (.cells #[.int .u8 1, .int .u8 2, .int .u8 3] 5)) (own1 w3 G3 9) 9) 9 := ⟨_, rfl⟩
      rw [← hG4] at hb2
      have HB2 := Lib.hid hb2
      have HA6 := Lib.hid ((HA5.out.trans (ha3.mono (T := S4) (fun _ h => h.elim))).trans (hb2.mono (T := S4) (fun _ h => h.elim)))
      have HP6 := Lib.hid (hp3.adv hb2 id)
      have HR6 := Lib.hid (hr3.adv hb2 id)
      have HXc := Lib.hid ((HXb.out.adv ha3 id).adv hb2 id)
      have HYc := Lib.hid ((HYb.out.adv ha3 id).adv hb2 id)
      clear ha3 hp3 hr3 hb1 hb2 hG4
      go_wp2_with fail
      refine (new_ok G4 3 (by omega) _ 2 2 banks2 rfl (by omega) (by decide) _ (bankIn2 w3 G4)).mono ?_
      rintro e w5 ⟨M, G5, rfl, ha5, hm5⟩
      have HA7 := Lib.hid (HA6.out.trans (ha5.mono (T := S4) (fun _ h => h.elim)))
      have HP7 := Lib.hid (HP6.out.adv ha5 id)
      have HR7 := Lib.hid (HR6.out.adv ha5 id)
      have HM7 := Lib.hid hm5
      have HXd := Lib.hid (HXc.out.adv ha5 id)
      have HYd := Lib.hid (HYc.out.adv ha5 id)
      have HI7 := Lib.hid (fun (w' : World) (G' : Nat → Nat) (h : Adv (fun _ => False) w5 G5 w' G') => bankIn2 w3 G4 w' G' (ha5.trans h))
      clear ha5 hm5
      go_wp2_with fail
      refine (refNew_full 11 (by omega) G5 _ 2 2 banks2 rfl (by omega) (by decide) _ HI7.out).mono ?_
      rintro e w6 ⟨Z, G6, rfl, ha6, hz6⟩
      have HA8 := Lib.hid (HA7.out.trans (ha6.mono (T := S4) (fun _ h => h.elim)))
      have HP8 := Lib.hid (HP7.out.adv ha6 id)
      have HR8 := Lib.hid (HR7.out.adv ha6 id)
      have HM8 := Lib.hid (HM7.out.adv ha6 id)
      have HXe := Lib.hid (HXd.out.adv ha6 id)
      have HYe := Lib.hid (HYd.out.adv ha6 id)
      have HZ8 := Lib.hid hz6
      clear ha6 hz6
      go_wp2_with fail
      go_ret
      have hx := (((HA8.out.alloc (.cells #[.slice va1 n vc1] 119) 9).alloc (.cells #[.slice ya1 n2 yc1] 121) 8).alloc (.cells #[.pointer (some ⟨D, 0, none⟩), .pointer (some ⟨R, 0, none⟩), .pointer (some ⟨M, 0, none⟩), .pointer (some ⟨w6.heap.size, 0, none⟩), .pointer (some ⟨w6.heap.size + 1, 0, none⟩), .pointer (some ⟨Z, 0, none⟩)] 82) 0)
      have hf := (((Adv.refl (fun _ => False) w6 G6).alloc (.cells #[.slice va1 n vc1] 119) 9).alloc (.cells #[.slice ya1 n2 yc1] 121) 8).alloc (.cells #[.pointer (some ⟨D, 0, none⟩), .pointer (some ⟨R, 0, none⟩), .pointer (some ⟨M, 0, none⟩), .pointer (some ⟨w6.heap.size, 0, none⟩), .pointer (some ⟨w6.heap.size + 1, 0, none⟩), .pointer (some ⟨Z, 0, none⟩)] 82) 0
      have hs := HA8.out.size
      have eX := (HXe.out.adv hf id).pile (T := 119) (D := w6.heap.size) ((heap_past _ _ _ (by simp; omega)).trans ((heap_past _ _ _ (by simp)).trans (heap_at _ _ _ rfl))) (by simp [own1] <;> omega) (fun e => by have := HXe.out.old _ e; omega)
      have eY := (HYe.out.adv hf id).pile (T := 121) (D := w6.heap.size + 1) ((heap_past _ _ _ (by simp)).trans (heap_at _ _ _ (by simp))) (by simp [own1] <;> omega) (fun e => by have := HYe.out.old _ e; omega)
      refine ⟨w6.heap.size + 1 + 1, D, R, M, w6.heap.size, w6.heap.size + 1, Z, _, rfl, joined_adv hx (by unfold S4; omega), ⟨heap_at _ _ _ (by simp), ?_⟩, (HP8.out.adv hf id).relabel (joined_new hx (by decide)), (HR8.out.adv hf id).relabel (joined_new hx (by decide)), (HM8.out.adv hf id).relabel (joined_new hx (by decide)), ?_, ?_, (HZ8.out.adv hf (fun _ _ => id)).relabel fun k hk => joined_new hx (by omega)⟩
      · unfold joined
        rw [if_neg (by omega)]
        simp [own1]
      · exact EU.relabel ⟨_, by rw [HL.out]; exact eX⟩ (joined_new hx (by decide))
      · exact ER.relabel ⟨_, by rw [List.length_map, HLR.out]; exact eY⟩ (joined_new hx (by decide))
end Go.Proofs.YtdnalhjdmlkbmaaGreatDoor
namespace Go.Proofs.YtdnalhjdmlkbmaaGreatDoor
open Go.RowKit
set_option linter.unusedVariables false
/-- All that stood stays as it was. -/
def Zo (w w' : World) : Prop := Adv (fun _ => False) w (fun _ => 0) w' (fun _ => 0)
theorem Zo.refl (w : World) : Zo w w := Adv.refl _ _ _
theorem Zo.trans {a b c : World} (h : Zo a b) (k : Zo b c) : Zo a c := Adv.trans h k
theorem Zo.dr {a b : World} (h : Zo a b) : Zo a b.drew := Adv.drew h
theorem Zo.drN {a b : World} (h : Zo a b) (z : Nat) : Zo a (b.drewN z) := Adv.drewN h z
theorem Zo.al {a b : World} (h : Zo a b) (o : Obj) : Zo a (b.alloc o) := by
  have h1 := Adv.alloc h o 0
  rw [own1_zero] at h1
  exact h1
theorem Zo.of {S : Nat → Prop} {w w' : World} {G : Nat → Nat} (h : Adv S w (fun _ => 0) w' G) (h0 : ¬ S 0) : Zo w w' := h.relabel (fun _ _ => h0) (fun _ _ => rfl)
theorem Zo.own {w w' : World} (h : Zo w w') (G : Nat → Nat) : Adv (fun _ => False) w G w' (joined w G (fun _ => 0)) := Adv.relabel h (fun _ _ => id) (fun _ hb => joined_old hb)
theorem Zo.heap {w w' : World} (h : Zo w w') {b : Nat} {o : Obj} (hb : w.heap[b]? = some o) : w'.heap[b]? = some o := (h.keep b (Array.getElem?_eq_some_iff.1 hb).1 id).trans hb
/-- What an image's slices read as. -/
def ImgR (w : World) (ba ra sa : Option Addr) (m : MemS) : Prop := BankIn w ba m.banks ∧ Reads w ra (u8s m.ram) ∧ Reads w sa (u8s m.screen)
theorem ImgR.zo {w w' : World} {ba ra sa : Option Addr} {m : MemS} (h : ImgR w ba ra sa m) (hz : Zo w w') : ImgR w' ba ra sa m := ⟨h.1.adv0 hz id, h.2.1.adv hz fun _ _ => id, h.2.2.adv hz fun _ _ => id⟩
theorem zero8 (C : Array Value) (hC : C = #[.slice none 0 0, .slice none 0 0, .slice none 0 0, .int .u8 0, .int .u8 0, .int .u16 0, .int .u8 0, .int .u16 0]) (j : Nat) (u : Value) (h : C[j]? = some u) : j < 8 ∧ ∀ z, u ≠ .int .i64 z := by
  subst hC
  have hj := (Array.getElem?_eq_some_iff.1 h).1
  simp at hj
  refine ⟨hj, fun z e => ?_⟩
  subst e
  rcases (show j = 0 ∨ j = 1 ∨ j = 2 ∨ j = 3 ∨ j = 4 ∨ j = 5 ∨ j = 6 ∨ j = 7 by omega) with rfl | rfl | rfl | rfl | rfl | rfl | rfl | rfl <;> simp at h
/-- A block of zeros of an image is written: no image lies in it. -/
theorem ImgR.but {w w' : World} {ba ra sa : Option Addr} {m : MemS} (hm : MemOk m) (h : ImgR w ba ra sa m) (x : Nat) (T : TypeId) (hx : w.heap[x]? = some (.cells #[.slice none 0 0, .slice none 0 0, .slice none 0 0, .int .u8 0, .int .u8 0, .int .u16 0, .int .u8 0, .int .u16 0] T (0, 0)))
    (hk : ∀ b, b < w.heap.size → b ≠ x → w'.heap[b]? = w.heap[b]?) : ImgR w' ba ra sa m := by
  have hcell : ∀ (b o : Nat) (u : Value), w.cell? ⟨b, o, none⟩ = some u → b ≠ x → w'.cell? ⟨b, o, none⟩ = some u := fun b o u hu hb =>
    (World.cell?_of_block (hk b (World.block_lt_of_cell? w ⟨b, o, none⟩ hu) hb)).trans hu
  have hzero : ∀ (o : Nat) (u : Value), w.cell? ⟨x, o, none⟩ = some u → o < 8 ∧ ∀ z, u ≠ .int .i64 z := fun o u hu => by
    refine zero8 _ rfl o u ?_
    simp only [World.cell?, hx] at hu
    exact hu
  have hreads : ∀ (a : Option Addr) (xs : List Value), 9 ≤ xs.length → Reads w a xs → Reads w' a xs := fun a xs hl hr => by
    obtain ⟨b, o, rfl, hc, _⟩ := hr.some (by intro e; rw [e] at hl; simp at hl)
    refine .inr ⟨b, o, rfl, fun j u hu => hcell b (o + j) u (hc j u hu) ?_⟩
    rintro rfl
    have h8 := (hzero _ _ (hc 8 xs[8] (List.getElem?_eq_getElem (by omega)))).1
    omega
  refine ⟨fun k p hp => ?_, hreads _ _ (by rw [u8s_length, hm.ram]; omega) h.2.1, hreads _ _ (by rw [u8s_length, hm.screen]; omega) h.2.2⟩
  obtain ⟨b, o, da, dc, e, c1, c2, hr⟩ := h.1 k p hp
  have hb : b ≠ x := fun e => (hzero _ _ (by rw [← e]; exact c1)).2 _ rfl
  exact ⟨b, o, da, dc, e, hcell _ _ _ c1 hb, hcell _ _ _ c2 hb, hreads _ _ (by rw [u8s_length, hm.banks p (List.mem_of_getElem? hp)]; omega) hr⟩
theorem imageZ (M : Nat) (m : MemS) (hm : MemOk m) (hk : keysF m = [0, 9]) (n : Nat) (hn : n = m.banks.length) (w0 w : World) (hp : PM w0 (fun _ => 0) 0 M m) (hz : Zo w0 w) :
    Calls Tryz.prog 82 #[.pointer (some ⟨M, 0, none⟩)] w fun e w' => ∃ b1 c1 r1 d1 s1 e1, e = .returned (.agg #[.slice b1 n c1, .slice r1 16384 d1, .slice s1 3072 e1, .int .u8 m.chosen, .int .u8 m.pad, .int .u16 m.pitch, .int .u8 m.volume, .int .u16 m.time]) ∧ Zo w w' ∧ ImgR w' b1 r1 s1 m := by
  obtain ⟨k0, k1, hb⟩ := two_banks hk
  have h2 : n = 2 := by rw [hn, hb]; rfl
  subst h2
  refine (image0 M m hm 0 9 k0 k1 hb (by decide) (by decide) (by decide) w (hp.adv hz id)).mono ?_
  rintro e w' ⟨ba, bc, ra, rc, sb, G', rfl, ha, hs⟩
  obtain ⟨c0, c1, hr, ⟨da, dc, rfl, h3⟩, ⟨db, dd, rfl, h4⟩⟩ := hs.bks
  refine ⟨ba, bc, ra, rc, some ⟨sb, 0, none⟩, 3072, rfl, Zo.of ha (by unfold S7; omega), ?_, hs.ram.reads, hs.scr⟩
  have hrd := hr.reads
  obtain ⟨g, o, hg, hc, _⟩ := hrd.some (by simp)
  have hl0 : k0.length = 16384 := hm.banks (0, k0) (by rw [hb]; simp)
  have hl1 : k1.length = 16384 := hm.banks (9, k1) (by rw [hb]; simp)
  intro k p hp
  rw [hb] at hp
  match k, hp with
  | 0, hp =>
    simp at hp
    subst hp
    exact ⟨g, o, da, dc, hg, hc 0 _ rfl, by rw [hl0]; exact hc 1 _ rfl, h3.reads⟩
  | 1, hp =>
    simp at hp
    subst hp
    exact ⟨g, o, db, dd, hg, hc 2 _ rfl, by rw [hl1]; exact hc 3 _ rfl, h4.reads⟩
  | k + 2, hp => simp at hp
theorem refImageZ (D : Nat) (m : MemS) (hm : MemOk m) (n : Nat) (hn : n = m.banks.length) (hn2 : m.banks.length ≤ 1000000) (ht2 : m.tones.length ≤ 1000000) (bs0 : List Nat) (ba : Option Addr) (bc ra0 sa0 : Nat) (ta : Option Addr) (tc : Nat) (w0 w : World) (hin : RRead w0 D m bs0 ba bc ra0 sa0 ta tc) (hz : Zo w0 w) :
    Calls Tryz.prog 74 #[.pointer (some ⟨D, 0, none⟩)] w fun e w' => ∃ b2 c2 r2 d2 s2 e2, e = .returned (.agg #[.slice b2 n c2, .slice r2 16384 d2, .slice s2 3072 e2, .int .u8 m.chosen, .int .u8 m.pad, .int .u16 m.pitch, .int .u8 m.volume, .int .u16 m.time]) ∧ Zo w w' ∧ ImgR w' b2 r2 s2 m := by
  subst hn
  refine (refImage D m hm hn2 ht2 bs0 ba bc ra0 sa0 ta tc w (hin.adv hz id)).mono ?_
  rintro e w' ⟨v, G', rfl, ha, b2, c2, r2, d2, s2, e2, rfl, h1, h2, h3⟩
  exact ⟨b2, c2, r2, d2, s2, e2, rfl, Zo.of ha (by unfold SI; omega), h1, h2, h3⟩
theorem set8_past {w : World} (b k : Nat) (hk : k ≠ b) (v0 v1 v2 v3 v4 v5 v6 v7 : Value) : ((((((((w.setCell ⟨b, 0, none⟩ v0).setCell ⟨b, 1, none⟩ v1).setCell ⟨b, 2, none⟩ v2).setCell ⟨b, 3, none⟩ v3).setCell ⟨b, 4, none⟩ v4).setCell ⟨b, 5, none⟩ v5).setCell ⟨b, 6, none⟩ v6).setCell ⟨b, 7, none⟩ v7).heap[k]? = w.heap[k]? := past8 b k hk v0 v1 v2 v3 v4 v5 v6 v7
theorem set8_size {w : World} (b : Nat) (v0 v1 v2 v3 v4 v5 v6 v7 : Value) : ((((((((w.setCell ⟨b, 0, none⟩ v0).setCell ⟨b, 1, none⟩ v1).setCell ⟨b, 2, none⟩ v2).setCell ⟨b, 3, none⟩ v3).setCell ⟨b, 4, none⟩ v4).setCell ⟨b, 5, none⟩ v5).setCell ⟨b, 6, none⟩ v6).setCell ⟨b, 7, none⟩ v7).heap.size = w.heap.size := by simp [World.setCell]
theorem Zo.set8 {a w : World} (h : Zo a w) (b : Nat) (hb : a.heap.size ≤ b) (v0 v1 v2 v3 v4 v5 v6 v7 : Value) : Zo a ((((((((w.setCell ⟨b, 0, none⟩ v0).setCell ⟨b, 1, none⟩ v1).setCell ⟨b, 2, none⟩ v2).setCell ⟨b, 3, none⟩ v3).setCell ⟨b, 4, none⟩ v4).setCell ⟨b, 5, none⟩ v5).setCell ⟨b, 6, none⟩ v6).setCell ⟨b, 7, none⟩ v7) := hid8 h b hb v0 v1 v2 v3 v4 v5 v6 v7
/-- Both images, laid into two blocks. -/
structure MC (w0 wF : World) (x3 x4 n : Nat) (b1 r1 s1 b2 r2 s2 : Option Addr) (c1 d1 e1 c2 d2 e2 : Nat) (m : MemS) : Prop where
  z : Zo w0 wF
  h3 : wF.heap[x3]? = some (.cells #[.slice b1 n c1, .slice r1 16384 d1, .slice s1 3072 e1, .int .u8 m.chosen, .int .u8 m.pad, .int .u16 m.pitch, .int .u8 m.volume, .int .u16 m.time] 161 (0, 0))
  h4 : wF.heap[x4]? = some (.cells #[.slice b2 n c2, .slice r2 16384 d2, .slice s2 3072 e2, .int .u8 m.chosen, .int .u8 m.pad, .int .u16 m.pitch, .int .u8 m.volume, .int .u16 m.time] 163 (0, 0))
  i1 : ImgR wF b1 r1 s1 m
  i2 : ImgR wF b2 r2 s2 m
theorem MC.dr {w0 W : World} {x3 x4 n : Nat} {b1 r1 s1 b2 r2 s2 : Option Addr} {c1 d1 e1 c2 d2 e2 : Nat} {m : MemS} (h : MC w0 W x3 x4 n b1 r1 s1 b2 r2 s2 c1 d1 e1 c2 d2 e2 m) : MC w0 W.drew x3 x4 n b1 r1 s1 b2 r2 s2 c1 d1 e1 c2 d2 e2 m :=
  ⟨h.z.dr, h.h3, h.h4, h.i1.zo (Zo.refl _).dr, h.i2.zo (Zo.refl _).dr⟩
section
variable {w0 W : World} {x3 x4 n : Nat} {b1 r1 s1 b2 r2 s2 : Option Addr} {c1 d1 e1 c2 d2 e2 : Nat} {m : MemS}
theorem mc1 (hm : MemOk m) (hz : Zo w0 W) (n3 : w0.heap.size ≤ x3) (n4 : w0.heap.size ≤ x4) (hne : x3 ≠ x4) (z3 : W.heap[x3]? = some (.cells #[.slice none 0 0, .slice none 0 0, .slice none 0 0, .int .u8 0, .int .u8 0, .int .u16 0, .int .u8 0, .int .u16 0] 161 (0, 0))) (z4 : W.heap[x4]? = some (.cells #[.slice none 0 0, .slice none 0 0, .slice none 0 0, .int .u8 0, .int .u8 0, .int .u16 0, .int .u8 0, .int .u16 0] 163 (0, 0))) (i1 : ImgR W b1 r1 s1 m) (i2 : ImgR W b2 r2 s2 m) :
    MC w0 ((((((((((((((((W.setCell ⟨x3, 0, none⟩ (.slice b1 n c1)).setCell ⟨x3, 1, none⟩ (.slice r1 16384 d1)).setCell ⟨x3, 2, none⟩ (.slice s1 3072 e1)).setCell ⟨x3, 3, none⟩ (.int .u8 m.chosen)).setCell ⟨x3, 4, none⟩ (.int .u8 m.pad)).setCell ⟨x3, 5, none⟩ (.int .u16 m.pitch)).setCell ⟨x3, 6, none⟩ (.int .u8 m.volume)).setCell ⟨x3, 7, none⟩ (.int .u16 m.time)).setCell ⟨x4, 0, none⟩ (.slice b2 n c2)).setCell ⟨x4, 1, none⟩ (.slice r2 16384 d2)).setCell ⟨x4, 2, none⟩ (.slice s2 3072 e2)).setCell ⟨x4, 3, none⟩ (.int .u8 m.chosen)).setCell ⟨x4, 4, none⟩ (.int .u8 m.pad)).setCell ⟨x4, 5, none⟩ (.int .u16 m.pitch)).setCell ⟨x4, 6, none⟩ (.int .u8 m.volume)).setCell ⟨x4, 7, none⟩ (.int .u16 m.time)) x3 x4 n b1 r1 s1 b2 r2 s2 c1 d1 e1 c2 d2 e2 m := by
  have g3 := put8 z3 (.slice b1 n c1) (.slice r1 16384 d1) (.slice s1 3072 e1) (.int .u8 m.chosen) (.int .u8 m.pad) (.int .u16 m.pitch) (.int .u8 m.volume) (.int .u16 m.time)
  have g4 := (set8_past x3 x4 (Ne.symm hne) (.slice b1 n c1) (.slice r1 16384 d1) (.slice s1 3072 e1) (.int .u8 m.chosen) (.int .u8 m.pad) (.int .u16 m.pitch) (.int .u8 m.volume) (.int .u16 m.time)).trans z4
  have j1 := i1.but hm x3 _ z3 (fun b _ hb => set8_past (w := W) x3 b hb (.slice b1 n c1) (.slice r1 16384 d1) (.slice s1 3072 e1) (.int .u8 m.chosen) (.int .u8 m.pad) (.int .u16 m.pitch) (.int .u8 m.volume) (.int .u16 m.time))
  have j2 := i2.but hm x3 _ z3 (fun b _ hb => set8_past (w := W) x3 b hb (.slice b1 n c1) (.slice r1 16384 d1) (.slice s1 3072 e1) (.int .u8 m.chosen) (.int .u8 m.pad) (.int .u16 m.pitch) (.int .u8 m.volume) (.int .u16 m.time))
  exact ⟨(hz.set8 x3 n3 (.slice b1 n c1) (.slice r1 16384 d1) (.slice s1 3072 e1) (.int .u8 m.chosen) (.int .u8 m.pad) (.int .u16 m.pitch) (.int .u8 m.volume) (.int .u16 m.time)).set8 x4 n4 (.slice b2 n c2) (.slice r2 16384 d2) (.slice s2 3072 e2) (.int .u8 m.chosen) (.int .u8 m.pad) (.int .u16 m.pitch) (.int .u8 m.volume) (.int .u16 m.time), (set8_past x4 x3 hne (.slice b2 n c2) (.slice r2 16384 d2) (.slice s2 3072 e2) (.int .u8 m.chosen) (.int .u8 m.pad) (.int .u16 m.pitch) (.int .u8 m.volume) (.int .u16 m.time)).trans g3, put8 g4 (.slice b2 n c2) (.slice r2 16384 d2) (.slice s2 3072 e2) (.int .u8 m.chosen) (.int .u8 m.pad) (.int .u16 m.pitch) (.int .u8 m.volume) (.int .u16 m.time), j1.but hm x4 _ g4 (fun b _ hb => set8_past x4 b hb (.slice b2 n c2) (.slice r2 16384 d2) (.slice s2 3072 e2) (.int .u8 m.chosen) (.int .u8 m.pad) (.int .u16 m.pitch) (.int .u8 m.volume) (.int .u16 m.time)), j2.but hm x4 _ g4 (fun b _ hb => set8_past x4 b hb (.slice b2 n c2) (.slice r2 16384 d2) (.slice s2 3072 e2) (.int .u8 m.chosen) (.int .u8 m.pad) (.int .u16 m.pitch) (.int .u8 m.volume) (.int .u16 m.time))⟩
theorem mc2 (hm : MemOk m) (hz : Zo w0 W) (hx3 : x3 = W.heap.size) (n4 : w0.heap.size ≤ x4) (z4 : W.heap[x4]? = some (.cells #[.slice none 0 0, .slice none 0 0, .slice none 0 0, .int .u8 0, .int .u8 0, .int .u16 0, .int .u8 0, .int .u16 0] 163 (0, 0))) (i1 : ImgR W b1 r1 s1 m) (i2 : ImgR W b2 r2 s2 m) :
    MC w0 (((((((((W.alloc (.cells #[.slice b1 n c1, .slice r1 16384 d1, .slice s1 3072 e1, .int .u8 m.chosen, .int .u8 m.pad, .int .u16 m.pitch, .int .u8 m.volume, .int .u16 m.time] 161)).setCell ⟨x4, 0, none⟩ (.slice b2 n c2)).setCell ⟨x4, 1, none⟩ (.slice r2 16384 d2)).setCell ⟨x4, 2, none⟩ (.slice s2 3072 e2)).setCell ⟨x4, 3, none⟩ (.int .u8 m.chosen)).setCell ⟨x4, 4, none⟩ (.int .u8 m.pad)).setCell ⟨x4, 5, none⟩ (.int .u16 m.pitch)).setCell ⟨x4, 6, none⟩ (.int .u8 m.volume)).setCell ⟨x4, 7, none⟩ (.int .u16 m.time)) x3 x4 n b1 r1 s1 b2 r2 s2 c1 d1 e1 c2 d2 e2 m := by
  subst hx3
  have hl : x4 < W.heap.size := (Array.getElem?_eq_some_iff.1 z4).1
  have hx : Zo W (W.alloc (.cells #[.slice b1 n c1, .slice r1 16384 d1, .slice s1 3072 e1, .int .u8 m.chosen, .int .u8 m.pad, .int .u16 m.pitch, .int .u8 m.volume, .int .u16 m.time] 161)) := (Zo.refl W).al _
  have g4 := hx.heap z4
  have j1 := i1.zo hx
  have j2 := i2.zo hx
  exact ⟨(hz.al _).set8 x4 n4 (.slice b2 n c2) (.slice r2 16384 d2) (.slice s2 3072 e2) (.int .u8 m.chosen) (.int .u8 m.pad) (.int .u16 m.pitch) (.int .u8 m.volume) (.int .u16 m.time), (set8_past x4 W.heap.size (by omega) (.slice b2 n c2) (.slice r2 16384 d2) (.slice s2 3072 e2) (.int .u8 m.chosen) (.int .u8 m.pad) (.int .u16 m.pitch) (.int .u8 m.volume) (.int .u16 m.time)).trans (heap_alloc_new W _), put8 g4 (.slice b2 n c2) (.slice r2 16384 d2) (.slice s2 3072 e2) (.int .u8 m.chosen) (.int .u8 m.pad) (.int .u16 m.pitch) (.int .u8 m.volume) (.int .u16 m.time), j1.but hm x4 _ g4 (fun b _ hb => set8_past x4 b hb (.slice b2 n c2) (.slice r2 16384 d2) (.slice s2 3072 e2) (.int .u8 m.chosen) (.int .u8 m.pad) (.int .u16 m.pitch) (.int .u8 m.volume) (.int .u16 m.time)), j2.but hm x4 _ g4 (fun b _ hb => set8_past x4 b hb (.slice b2 n c2) (.slice r2 16384 d2) (.slice s2 3072 e2) (.int .u8 m.chosen) (.int .u8 m.pad) (.int .u16 m.pitch) (.int .u8 m.volume) (.int .u16 m.time))⟩
theorem mc3 (hm : MemOk m) (hz : Zo w0 W) (n3 : w0.heap.size ≤ x3) (hx4 : x4 = W.heap.size) (z3 : W.heap[x3]? = some (.cells #[.slice none 0 0, .slice none 0 0, .slice none 0 0, .int .u8 0, .int .u8 0, .int .u16 0, .int .u8 0, .int .u16 0] 161 (0, 0))) (i1 : ImgR W b1 r1 s1 m) (i2 : ImgR W b2 r2 s2 m) :
    MC w0 (((((((((W.setCell ⟨x3, 0, none⟩ (.slice b1 n c1)).setCell ⟨x3, 1, none⟩ (.slice r1 16384 d1)).setCell ⟨x3, 2, none⟩ (.slice s1 3072 e1)).setCell ⟨x3, 3, none⟩ (.int .u8 m.chosen)).setCell ⟨x3, 4, none⟩ (.int .u8 m.pad)).setCell ⟨x3, 5, none⟩ (.int .u16 m.pitch)).setCell ⟨x3, 6, none⟩ (.int .u8 m.volume)).setCell ⟨x3, 7, none⟩ (.int .u16 m.time)).alloc (.cells #[.slice b2 n c2, .slice r2 16384 d2, .slice s2 3072 e2, .int .u8 m.chosen, .int .u8 m.pad, .int .u16 m.pitch, .int .u8 m.volume, .int .u16 m.time] 163)) x3 x4 n b1 r1 s1 b2 r2 s2 c1 d1 e1 c2 d2 e2 m := by
  subst hx4
  have hl : x3 < W.heap.size := (Array.getElem?_eq_some_iff.1 z3).1
  have g3 := put8 z3 (.slice b1 n c1) (.slice r1 16384 d1) (.slice s1 3072 e1) (.int .u8 m.chosen) (.int .u8 m.pad) (.int .u16 m.pitch) (.int .u8 m.volume) (.int .u16 m.time)
  have j1 := i1.but hm x3 _ z3 (fun b _ hb => set8_past (w := W) x3 b hb (.slice b1 n c1) (.slice r1 16384 d1) (.slice s1 3072 e1) (.int .u8 m.chosen) (.int .u8 m.pad) (.int .u16 m.pitch) (.int .u8 m.volume) (.int .u16 m.time))
  have j2 := i2.but hm x3 _ z3 (fun b _ hb => set8_past (w := W) x3 b hb (.slice b1 n c1) (.slice r1 16384 d1) (.slice s1 3072 e1) (.int .u8 m.chosen) (.int .u8 m.pad) (.int .u16 m.pitch) (.int .u8 m.volume) (.int .u16 m.time))
  have hx : Zo ((((((((W.setCell ⟨x3, 0, none⟩ (.slice b1 n c1)).setCell ⟨x3, 1, none⟩ (.slice r1 16384 d1)).setCell ⟨x3, 2, none⟩ (.slice s1 3072 e1)).setCell ⟨x3, 3, none⟩ (.int .u8 m.chosen)).setCell ⟨x3, 4, none⟩ (.int .u8 m.pad)).setCell ⟨x3, 5, none⟩ (.int .u16 m.pitch)).setCell ⟨x3, 6, none⟩ (.int .u8 m.volume)).setCell ⟨x3, 7, none⟩ (.int .u16 m.time)) (((((((((W.setCell ⟨x3, 0, none⟩ (.slice b1 n c1)).setCell ⟨x3, 1, none⟩ (.slice r1 16384 d1)).setCell ⟨x3, 2, none⟩ (.slice s1 3072 e1)).setCell ⟨x3, 3, none⟩ (.int .u8 m.chosen)).setCell ⟨x3, 4, none⟩ (.int .u8 m.pad)).setCell ⟨x3, 5, none⟩ (.int .u16 m.pitch)).setCell ⟨x3, 6, none⟩ (.int .u8 m.volume)).setCell ⟨x3, 7, none⟩ (.int .u16 m.time)).alloc (.cells #[.slice b2 n c2, .slice r2 16384 d2, .slice s2 3072 e2, .int .u8 m.chosen, .int .u8 m.pad, .int .u16 m.pitch, .int .u8 m.volume, .int .u16 m.time] 163)) := (Zo.refl _).al _
  refine ⟨(hz.set8 x3 n3 (.slice b1 n c1) (.slice r1 16384 d1) (.slice s1 3072 e1) (.int .u8 m.chosen) (.int .u8 m.pad) (.int .u16 m.pitch) (.int .u8 m.volume) (.int .u16 m.time)).al _, hx.heap g3, heap_at _ _ _ ?_, j1.zo hx, j2.zo hx⟩
  rw [set8_size]
theorem mc5 (hm : MemOk m) (hz : Zo w0 W) (hx4 : x4 = W.heap.size) (hx3 : x3 = W.heap.size + 1) (i1 : ImgR W b1 r1 s1 m) (i2 : ImgR W b2 r2 s2 m) :
    MC w0 ((W.alloc (.cells #[.slice b2 n c2, .slice r2 16384 d2, .slice s2 3072 e2, .int .u8 m.chosen, .int .u8 m.pad, .int .u16 m.pitch, .int .u8 m.volume, .int .u16 m.time] 163)).alloc (.cells #[.slice b1 n c1, .slice r1 16384 d1, .slice s1 3072 e1, .int .u8 m.chosen, .int .u8 m.pad, .int .u16 m.pitch, .int .u8 m.volume, .int .u16 m.time] 161)) x3 x4 n b1 r1 s1 b2 r2 s2 c1 d1 e1 c2 d2 e2 m := by
  subst hx3
  subst hx4
  have hx : Zo W ((W.alloc (.cells #[.slice b2 n c2, .slice r2 16384 d2, .slice s2 3072 e2, .int .u8 m.chosen, .int .u8 m.pad, .int .u16 m.pitch, .int .u8 m.volume, .int .u16 m.time] 163)).alloc (.cells #[.slice b1 n c1, .slice r1 16384 d1, .slice s1 3072 e1, .int .u8 m.chosen, .int .u8 m.pad, .int .u16 m.pitch, .int .u8 m.volume, .int .u16 m.time] 161)) := ((Zo.refl W).al _).al _
  exact ⟨(hz.al _).al _, heap_at _ _ _ (by simp), ((Zo.refl _).al _).heap (heap_alloc_new W _), i1.zo hx, i2.zo hx⟩
theorem mc6 (hm : MemOk m) (hz : Zo w0 W) (n4 : w0.heap.size ≤ x4) (hx3 : x3 = W.heap.size) (z4 : W.heap[x4]? = some (.cells #[.slice none 0 0, .slice none 0 0, .slice none 0 0, .int .u8 0, .int .u8 0, .int .u16 0, .int .u8 0, .int .u16 0] 163 (0, 0))) (i1 : ImgR W b1 r1 s1 m) (i2 : ImgR W b2 r2 s2 m) :
    MC w0 (((((((((W.setCell ⟨x4, 0, none⟩ (.slice b2 n c2)).setCell ⟨x4, 1, none⟩ (.slice r2 16384 d2)).setCell ⟨x4, 2, none⟩ (.slice s2 3072 e2)).setCell ⟨x4, 3, none⟩ (.int .u8 m.chosen)).setCell ⟨x4, 4, none⟩ (.int .u8 m.pad)).setCell ⟨x4, 5, none⟩ (.int .u16 m.pitch)).setCell ⟨x4, 6, none⟩ (.int .u8 m.volume)).setCell ⟨x4, 7, none⟩ (.int .u16 m.time)).alloc (.cells #[.slice b1 n c1, .slice r1 16384 d1, .slice s1 3072 e1, .int .u8 m.chosen, .int .u8 m.pad, .int .u16 m.pitch, .int .u8 m.volume, .int .u16 m.time] 161)) x3 x4 n b1 r1 s1 b2 r2 s2 c1 d1 e1 c2 d2 e2 m := by
  subst hx3
  have hl : x4 < W.heap.size := (Array.getElem?_eq_some_iff.1 z4).1
  have g4 := put8 z4 (.slice b2 n c2) (.slice r2 16384 d2) (.slice s2 3072 e2) (.int .u8 m.chosen) (.int .u8 m.pad) (.int .u16 m.pitch) (.int .u8 m.volume) (.int .u16 m.time)
  have j1 := i1.but hm x4 _ z4 (fun b _ hb => set8_past (w := W) x4 b hb (.slice b2 n c2) (.slice r2 16384 d2) (.slice s2 3072 e2) (.int .u8 m.chosen) (.int .u8 m.pad) (.int .u16 m.pitch) (.int .u8 m.volume) (.int .u16 m.time))
  have j2 := i2.but hm x4 _ z4 (fun b _ hb => set8_past (w := W) x4 b hb (.slice b2 n c2) (.slice r2 16384 d2) (.slice s2 3072 e2) (.int .u8 m.chosen) (.int .u8 m.pad) (.int .u16 m.pitch) (.int .u8 m.volume) (.int .u16 m.time))
  have hx : Zo ((((((((W.setCell ⟨x4, 0, none⟩ (.slice b2 n c2)).setCell ⟨x4, 1, none⟩ (.slice r2 16384 d2)).setCell ⟨x4, 2, none⟩ (.slice s2 3072 e2)).setCell ⟨x4, 3, none⟩ (.int .u8 m.chosen)).setCell ⟨x4, 4, none⟩ (.int .u8 m.pad)).setCell ⟨x4, 5, none⟩ (.int .u16 m.pitch)).setCell ⟨x4, 6, none⟩ (.int .u8 m.volume)).setCell ⟨x4, 7, none⟩ (.int .u16 m.time)) (((((((((W.setCell ⟨x4, 0, none⟩ (.slice b2 n c2)).setCell ⟨x4, 1, none⟩ (.slice r2 16384 d2)).setCell ⟨x4, 2, none⟩ (.slice s2 3072 e2)).setCell ⟨x4, 3, none⟩ (.int .u8 m.chosen)).setCell ⟨x4, 4, none⟩ (.int .u8 m.pad)).setCell ⟨x4, 5, none⟩ (.int .u16 m.pitch)).setCell ⟨x4, 6, none⟩ (.int .u8 m.volume)).setCell ⟨x4, 7, none⟩ (.int .u16 m.time)).alloc (.cells #[.slice b1 n c1, .slice r1 16384 d1, .slice s1 3072 e1, .int .u8 m.chosen, .int .u8 m.pad, .int .u16 m.pitch, .int .u8 m.volume, .int .u16 m.time] 161)) := (Zo.refl _).al _
  refine ⟨(hz.set8 x4 n4 (.slice b2 n c2) (.slice r2 16384 d2) (.slice s2 3072 e2) (.int .u8 m.chosen) (.int .u8 m.pad) (.int .u16 m.pitch) (.int .u8 m.volume) (.int .u16 m.time)).al _, heap_at _ _ _ ?_, hx.heap g4, j1.zo hx, j2.zo hx⟩
  rw [set8_size]
theorem mc4 (hm : MemOk m) (hz : Zo w0 W) (hx3 : x3 = W.heap.size) (hx4 : x4 = W.heap.size + 1) (i1 : ImgR W b1 r1 s1 m) (i2 : ImgR W b2 r2 s2 m) :
    MC w0 ((W.alloc (.cells #[.slice b1 n c1, .slice r1 16384 d1, .slice s1 3072 e1, .int .u8 m.chosen, .int .u8 m.pad, .int .u16 m.pitch, .int .u8 m.volume, .int .u16 m.time] 161)).alloc (.cells #[.slice b2 n c2, .slice r2 16384 d2, .slice s2 3072 e2, .int .u8 m.chosen, .int .u8 m.pad, .int .u16 m.pitch, .int .u8 m.volume, .int .u16 m.time] 163)) x3 x4 n b1 r1 s1 b2 r2 s2 c1 d1 e1 c2 d2 e2 m := by
  subst hx3
  subst hx4
  have hx : Zo W ((W.alloc (.cells #[.slice b1 n c1, .slice r1 16384 d1, .slice s1 3072 e1, .int .u8 m.chosen, .int .u8 m.pad, .int .u16 m.pitch, .int .u8 m.volume, .int .u16 m.time] 161)).alloc (.cells #[.slice b2 n c2, .slice r2 16384 d2, .slice s2 3072 e2, .int .u8 m.chosen, .int .u8 m.pad, .int .u16 m.pitch, .int .u8 m.volume, .int .u16 m.time] 163)) := ((Zo.refl W).al _).al _
  exact ⟨(hz.al _).al _, ((Zo.refl _).al _).heap (heap_alloc_new W _), heap_at _ _ _ (by simp), i1.zo hx, i2.zo hx⟩
end
end Go.Proofs.YtdnalhjdmlkbmaaGreatDoor
namespace Go.Proofs.YtdnalhjdmlkbmaaGreatDoor
open Go.RowKit
set_option linter.unusedVariables false
theorem Tryz.stood152 : Tryz.prog.stoodInHeld 152 = false := by kernel_rfl
theorem eqlTone (a b c : Int) (w : World) : (Op.equalIn 10000 152 (.agg #[.int .i64 a, .int .u16 b, .int .u8 c]) (.agg #[.int .i64 a, .int .u16 b, .int .u8 c])).run Tryz.prog w = .ok true w := by
  have ht : Tryz.prog.underlying 152 = some (.struct (Tryz.prog.fieldsOf 152)) := by simp only [Program.fieldsOf, Tryz.underlying152]
  rw [show (10000 : Nat) = 9998 + 1 + 1 from rfl, run_equalIn_struct w (9998 + 1) 152 _ _ ht Tryz.stood152]
  simp only [Program.fieldsOf, Tryz.underlying152]
  simp [Op.eqFields, go_sem]
theorem tonesC_get : ∀ (l : List (Int × Int × Int)) (j : Nat) (x : Int × Int × Int), l[j]? = some x → (tonesC l)[j * 3]? = some (.int .i64 x.1) ∧ (tonesC l)[j * 3 + 1]? = some (.int .u16 x.2.1) ∧ (tonesC l)[j * 3 + 2]? = some (.int .u8 x.2.2)
  | [], _, _, h => by simp at h
  | y :: l, 0, x, h => by
    simp at h
    subst h
    exact ⟨rfl, rfl, rfl⟩
  | y :: l, j + 1, x, h => by
    have h1 := tonesC_get l j x (by simpa using h)
    have e : tonesC (y :: l) = .int .i64 y.1 :: .int .u16 y.2.1 :: .int .u8 y.2.2 :: tonesC l := rfl
    rw [e, show (j + 1) * 3 = j * 3 + 1 + 1 + 1 from by omega]
    simpa using h1
set_option maxRecDepth 100000 in
set_option maxHeartbeats 1000000 in
theorem sameTones_yes (a b : Option Addr) (n c d : Nat) (l : List (Int × Int × Int)) (hl : l.length = n) (hn : n ≤ 1000000) (w : World) (ha : Reads w a (tonesC l)) (hb : Reads w b (tonesC l)) :
    Calls Tryz.prog 85 #[.slice a n c, .slice b n d] w fun e w' => e = .returned (.bool true) ∧ ∃ z, w' = w.drewN z := by
  have HL := Lib.hid hl
  have HA := Lib.hid ha
  have HB := Lib.hid hb
  clear hl ha hb
  go_enter Tryz.func85, Tryz.ntmps85
  go_wp2_with fail
  go_loopw [13] (fun vi wr => ∃ j : Nat, j ≤ n ∧ vi = .int .i64 j ∧ ∃ z, wr = w.drewN z) (fun vi _ => n - (intOf vi).toNat)
  case atStart => exact ⟨0, by omega, rfl, 0, rfl⟩
  case round =>
    obtain ⟨j, hj, rfl, z, rfl⟩ := hrel
    by_cases h : j < n
    · obtain ⟨p, hp⟩ : ∃ p, l[j]? = some p := ⟨l[j]'(by rw [HL.out]; exact h), by simp⟩
      obtain ⟨t1, t2, t3⟩ := tonesC_get l j p hp
      obtain ⟨b1, o1, e1, c1, _⟩ := HA.out.some (by intro e; rw [e] at t1; simp at t1)
      obtain ⟨b2, o2, e2, c2, _⟩ := HB.out.some (by intro e; rw [e] at t1; simp at t1)
      subst e1
      subst e2
      have x1 := c1 _ _ t1
      have x2 := c1 _ _ t2
      have x3 := c1 _ _ t3
      have y1 := c2 _ _ t1
      have y2 := c2 _ _ t2
      have y3 := c2 _ _ t3
      rw [← Nat.add_assoc] at x2 x3 y2 y3
      have hE := eqlTone
      have hwi : IntKind.i64.wrap ((j : Int) + 1) = (j : Int) + 1 := IntWalk.i64_in _ (by omega)
      clear hp t1 t2 t3 c1 c2
      go_wp2_with fail
      go_quiet (fail)
      go_wp2_with fail
      exact ⟨⟨j + 1, by omega, by simp, _, rfl⟩, by simp only [intOf]; omega⟩
    · go_wp2_with fail
      go_ret
      exact ⟨rfl, _, rfl⟩
end Go.Proofs.YtdnalhjdmlkbmaaGreatDoor
namespace Go.Proofs.YtdnalhjdmlkbmaaGreatDoor
open Go.RowKit
set_option linter.unusedVariables false
theorem keepK {w w' : World} {K M Z : Nat} (h : w.cell? ⟨K, 2, none⟩ = some (.pointer (some ⟨M, 0, none⟩)) ∧ w.cell? ⟨K, 5, none⟩ = some (.pointer (some ⟨Z, 0, none⟩))) (hz : Zo w w') :
    w'.cell? ⟨K, 2, none⟩ = some (.pointer (some ⟨M, 0, none⟩)) ∧ w'.cell? ⟨K, 5, none⟩ = some (.pointer (some ⟨Z, 0, none⟩)) := ⟨hz.cell_some h.1 id, hz.cell_some h.2 id⟩
theorem Zo.predr {u v : World} (h : Zo u.drew v) : Zo u v := by
  have h1 : Adv (fun _ => False) u.drew (fun _ => 0) v (fun _ => 0) := h
  exact ⟨h1.os, h1.tape, h1.output, h1.size, fun _ _ => rfl, h1.keep⟩
theorem Zo.one {u v : World} {o : Obj} (h : Zo (u.alloc o) v) : v.heap[u.heap.size]? = some o := h.heap (heap_alloc_new u o)
theorem Zo.two {u v : World} {o o' : Obj} (h : Zo ((u.alloc o).alloc o') v) : v.heap[u.heap.size]? = some o ∧ v.heap[u.heap.size + 1]? = some o' :=
  ⟨h.heap ((heap_past _ _ _ (by simp)).trans (heap_alloc_new u o)), h.heap (heap_at _ _ _ (by simp))⟩
set_option maxRecDepth 100000 in
set_option maxHeartbeats 8000000 in
theorem memories_any (G : Nat → Nat) (q d K D R M X Y Z : Nat) (m : MemS) (hm : MemOk m) (hk : keysF m = [0, 9]) (ht : m.tones.length ≤ 1000000) (w : World) (hw : W6h w G K D R M X Y Z) (hp : PM w G q M m) (hz : RM w G d Z m) :
    Calls Tryz.prog 26 #[.pointer (some ⟨K, 0, none⟩)] w fun e w' => e = .returned (.bool true) ∧ ∃ G', Adv (fun _ => False) w G w' G' := by
  obtain ⟨bs0, ba, bc, ra0, sa0, ta, tc, hin⟩ := hz.read
  have HIN := Lib.hid hin
  have HP := Lib.hid (show PM w (fun _ => 0) 0 M m from hp.relabel (fun _ _ _ => rfl))
  have HM := Lib.hid hm
  have HK := Lib.hid (And.intro (block_cell hw.1 2 _ rfl) (block_cell hw.1 5 _ rfl))
  have HKY := Lib.hid hk
  obtain ⟨n, hn⟩ : ∃ n, n = m.banks.length := ⟨_, rfl⟩
  have hn2 : m.banks.length ≤ 1000000 := by
    obtain ⟨k0, k1, hb⟩ := two_banks hk
    rw [hb]
    show 2 ≤ 1000000
    omega
  have HN := Lib.hid hn
  have HN2 := Lib.hid hn2
  have QC := HK.out
  clear hin hp hm hw hz hk hn hn2
  go_enter Tryz.func26, Tryz.ntmps26
  go_upto_region 1 with fail
  go_cut [3, 4] (fun s3 s4 wx => ∃ x3 x4 b1 r1 s1 b2 r2 s2 c1 d1 e1 c2 d2 e2, s3 = .pointer (some ⟨x3, 0, none⟩) ∧ s4 = .pointer (some ⟨x4, 0, none⟩) ∧ MC w wx x3 x4 n b1 r1 s1 b2 r2 s2 c1 d1 e1 c2 d2 e2 m)
  case first =>
    go_region_held3 (fun w' => w'.cell? ⟨K, 2, none⟩ = some (.pointer (some ⟨M, 0, none⟩)) ∧ w'.cell? ⟨K, 5, none⟩ = some (.pointer (some ⟨Z, 0, none⟩))) (first | with_reducible exact QC | with_reducible assumption | (with_reducible refine keepK HK.out ?_; repeat' (first | with_reducible exact Zo.refl _ | with_reducible exact Y2.out | with_reducible exact ZB.out | with_reducible exact ZA.out | with_reducible refine Zo.al ?_ _ | with_reducible refine Zo.dr ?_ | with_reducible refine Zo.set8 ?_ _ ?_ _ _ _ _ _ _ _ _ | omega | (simp only [World.size_alloc]; omega) | (simp; omega))))
      (first | (go_at_call 82; refine Calls.mono (imageZ M m HM.out HKY.out n HN.out w _ HP.out ?hz) ?_; (case hz => repeat' (first | with_reducible exact Zo.refl _ | with_reducible refine Zo.al ?_ _ | with_reducible refine Zo.dr ?_)); rintro e w1 ⟨b1, c1, r1, d1, s1, e1, rfl, z1, i1⟩; have Z1 := Lib.hid z1; have I1 := Lib.hid i1; have zq := z1; (try (with_reducible (replace zq := Zo.predr zq))); (try (with_reducible (have P3 := Zo.one zq))); (try (with_reducible (have PP := Zo.two zq); obtain ⟨P3, P4⟩ := PP)); clear zq; (try (have pl1 := (Array.getElem?_eq_some_iff.1 P3).1)); (try (have pl2 := (Array.getElem?_eq_some_iff.1 P4).1)); have ZA := Lib.hid (Zo.trans (show Zo w _ by repeat' (first | with_reducible exact Zo.refl _ | with_reducible refine Zo.al ?_ _ | with_reducible refine Zo.dr ?_)) z1); have hzA := ZA.out.size; clear z1 i1) | (go_at_call 74; refine Calls.mono (refImageZ Z m HM.out n HN.out HN2.out ht bs0 ba bc ra0 sa0 ta tc w _ HIN.out ?hz) ?_; (case hz => repeat' (first | with_reducible exact ZA.out | with_reducible refine Zo.al ?_ _ | with_reducible refine Zo.dr ?_)); rintro e w2 ⟨b2, c2, r2, d2, s2, e2, rfl, z2, i2⟩; have Z2 := Lib.hid z2; have I2 := Lib.hid i2; have zq := z2; (try (with_reducible (replace zq := Zo.predr zq))); (try (with_reducible (have Q3 := Zo.one zq))); (try (with_reducible (have QQ := Zo.two zq); obtain ⟨Q3, Q4⟩ := QQ)); clear zq; have Y2 := Lib.hid (Zo.trans (show Zo w1 _ by repeat' (first | with_reducible exact Zo.refl _ | with_reducible refine Zo.al ?_ _ | with_reducible refine Zo.dr ?_)) z2); (try (have P3 := Y2.out.heap P3)); (try (have P4 := Y2.out.heap P4)); (try (have pa0 := block_cell P3 0 _ rfl; have pa1 := block_cell P3 1 _ rfl; have pa2 := block_cell P3 2 _ rfl; have pa3 := block_cell P3 3 _ rfl; have pa4 := block_cell P3 4 _ rfl; have pa5 := block_cell P3 5 _ rfl; have pa6 := block_cell P3 6 _ rfl; have pa7 := block_cell P3 7 _ rfl; have paf := block_free P3; have pal := (Array.getElem?_eq_some_iff.1 P3).1)); (try (have pb0 := block_cell P4 0 _ rfl; have pb1 := block_cell P4 1 _ rfl; have pb2 := block_cell P4 2 _ rfl; have pb3 := block_cell P4 3 _ rfl; have pb4 := block_cell P4 4 _ rfl; have pb5 := block_cell P4 5 _ rfl; have pb6 := block_cell P4 6 _ rfl; have pb7 := block_cell P4 7 _ rfl; have pbf := block_free P4; have pbl := (Array.getElem?_eq_some_iff.1 P4).1)); (try (have qa0 := block_cell Q3 0 _ rfl; have qa1 := block_cell Q3 1 _ rfl; have qa2 := block_cell Q3 2 _ rfl; have qa3 := block_cell Q3 3 _ rfl; have qa4 := block_cell Q3 4 _ rfl; have qa5 := block_cell Q3 5 _ rfl; have qa6 := block_cell Q3 6 _ rfl; have qa7 := block_cell Q3 7 _ rfl; have qaf := block_free Q3; have qal := (Array.getElem?_eq_some_iff.1 Q3).1)); (try (have qb0 := block_cell Q4 0 _ rfl; have qb1 := block_cell Q4 1 _ rfl; have qb2 := block_cell Q4 2 _ rfl; have qb3 := block_cell Q4 3 _ rfl; have qb4 := block_cell Q4 4 _ rfl; have qb5 := block_cell Q4 5 _ rfl; have qb6 := block_cell Q4 6 _ rfl; have qb7 := block_cell Q4 7 _ rfl; have qbf := block_free Q4; have qbl := (Array.getElem?_eq_some_iff.1 Q4).1)); have ZB := Lib.hid (ZA.out.trans Y2.out); have hzB := ZB.out.size; have hzY := Y2.out.size; (try (have hn1 : w.heap.size ≠ w1.heap.size := by omega)); (try (have hn2 : w1.heap.size ≠ w.heap.size := by omega)); (try (have hn3 : w.heap.size + 1 ≠ w1.heap.size := by omega)); (try (have hn4 : w1.heap.size ≠ w.heap.size + 1 := by omega)); (try (have hn5 : w.heap.size ≠ w2.heap.size := by omega)); (try (have hn6 : w2.heap.size ≠ w.heap.size := by omega)); (try (have hn7 : w.heap.size + 1 ≠ w2.heap.size := by omega)); (try (have hn8 : w2.heap.size ≠ w.heap.size + 1 := by omega)); (try (have hn9 : w1.heap.size ≠ w2.heap.size := by omega)); (try (have hn10 : w2.heap.size ≠ w1.heap.size := by omega)); (try (have hn11 : w1.heap.size + 1 ≠ w2.heap.size := by omega)); (try (have hn12 : w2.heap.size ≠ w1.heap.size + 1 := by omega)); clear z2 i2))
    all_goals
      go_wp2_with fail
      go_meet
      refine ⟨_, _, b1, r1, s1, b2, r2, s2, c1, d1, e1, c2, d2, e2, rfl, rfl, ?_⟩
      have J1 := I1.out.zo Y2.out
      first
        | ((with_reducible refine mc4 HM.out ZB.out ?_ ?_ J1 I2.out); (all_goals omega))
        | ((with_reducible refine mc5 HM.out ZB.out ?_ ?_ J1 I2.out); (all_goals omega))
        | ((with_reducible refine mc3 HM.out ZB.out ?_ ?_ ?_ J1 I2.out); omega; omega; assumption)
        | ((with_reducible refine mc6 HM.out ZB.out ?_ ?_ ?_ J1 I2.out); omega; omega; assumption)
        | ((with_reducible refine mc1 HM.out ZB.out ?_ ?_ ?_ ?_ ?_ J1 I2.out); omega; omega; omega; assumption; assumption)
  case rest =>
    obtain ⟨x3, x4, b1, r1, s1, b2, r2, s2, c1, d1, e1, c2, d2, e2, rfl, rfl, hmc⟩ := hcut
    obtain ⟨wk, rfl⟩ : ∃ v : World, v = wc := ⟨_, rfl⟩
    have HC := Lib.hid hmc
    have HZ := Lib.hid hmc.z
    clear QC
    have g0 := block_cell hmc.h3 0 _ rfl
    have g1 := block_cell hmc.h3 1 _ rfl
    have g2 := block_cell hmc.h3 2 _ rfl
    have g3 := block_cell hmc.h3 3 _ rfl
    have g4 := block_cell hmc.h3 4 _ rfl
    have g5 := block_cell hmc.h3 5 _ rfl
    have g6 := block_cell hmc.h3 6 _ rfl
    have g7 := block_cell hmc.h3 7 _ rfl
    have h0 := block_cell hmc.h4 0 _ rfl
    have h1 := block_cell hmc.h4 1 _ rfl
    have h2 := block_cell hmc.h4 2 _ rfl
    have h3 := block_cell hmc.h4 3 _ rfl
    have h4 := block_cell hmc.h4 4 _ rfl
    have h5 := block_cell hmc.h4 5 _ rfl
    have h6 := block_cell hmc.h4 6 _ rfl
    have h7 := block_cell hmc.h4 7 _ rfl
    clear hmc
    go_wp2_with fail
    refine (sameImage_yes _ _ m HM.out HN2.out wk ⟨b1, c1, r1, d1, s1, e1, by rw [← HN.out], HC.out.i1⟩ ⟨b2, c2, r2, d2, s2, e2, by rw [← HN.out], HC.out.i2⟩).mono ?_
    rintro e w3 ⟨rfl, z3⟩
    have Z3 := Lib.hid (HZ.out.trans z3)
    obtain ⟨qm, qz⟩ := keepK HK.out Z3.out
    clear z3 g0 h0 g1 h1 g2 h2 g3 h3 g4 h4 g5 h5 g6 h6 g7 h7
    go_wp2_with fail
    refine (tones_any (fun _ => 0) 0 0 M m HM.out ht w3 (HP.out.adv Z3.out id)).mono ?_
    rintro e w4 ⟨ta4, tc4, G4, rfl, a4, r4⟩
    have Z4 := Lib.hid (Z3.out.trans (Zo.of a4 id))
    have R4 := Lib.hid r4.reads
    obtain ⟨qm, qz⟩ := keepK HK.out Z4.out
    have c9 := block_cell (HIN.out.adv Z4.out id).head 9 _ rfl
    obtain ⟨tn, htn⟩ : ∃ v, v = m.tones.length := ⟨_, rfl⟩
    rw [← htn] at c9 ht
    rw [← htn]
    have HTN := Lib.hid htn
    clear a4 r4 htn
    go_wp2_with fail
    refine (sameTones_yes ta4 ta tn tc4 tc m.tones HTN.out.symm ht w4 R4.out (HIN.out.adv Z4.out id).tones).mono ?_
    rintro e w5 ⟨rfl, z, rfl⟩
    go_wp2
    go_ret
    exact ⟨rfl, _, (Z4.out.drN z).own G⟩
end Go.Proofs.YtdnalhjdmlkbmaaGreatDoor
namespace Go.Proofs.YtdnalhjdmlkbmaaGreatDoor
open Go.RowKit
set_option linter.unusedVariables false
set_option maxHeartbeats 400000 in
theorem writes_any (x : Int) (w : World) : Calls Tryz.prog 34 #[.int .i64 x] w fun e w' => e = .returned (.bool (writesB x)) ∧ w = w' := by
  by_cases h1 : x = 51
  · subst h1
    go_enter Tryz.func34, Tryz.ntmps34
    go_wp2
    go_ret
    exact ⟨rfl, rfl⟩
  · by_cases h2 : x = 53
    · subst h2
      go_enter Tryz.func34, Tryz.ntmps34
      go_wp2
      go_ret
      exact ⟨rfl, rfl⟩
    · by_cases h3 : x = 54
      · subst h3
        go_enter Tryz.func34, Tryz.ntmps34
        go_wp2
        go_ret
        exact ⟨rfl, rfl⟩
      · by_cases h4 : x = 60
        · subst h4
          go_enter Tryz.func34, Tryz.ntmps34
          go_wp2
          go_ret
          exact ⟨rfl, rfl⟩
        · by_cases h5 : x = 62
          · subst h5
            go_enter Tryz.func34, Tryz.ntmps34
            go_wp2
            go_ret
            exact ⟨rfl, rfl⟩
          · have b1 : (x == 51) = false := by simpa using h1
            have b2 : (x == 53) = false := by simpa using h2
            have b3 : (x == 54) = false := by simpa using h3
            have b4 : (x == 60) = false := by simpa using h4
            have b5 : (x == 62) = false := by simpa using h5
            have hw : writesB x = (x == 63) := by
              unfold writesB
              by_cases h6 : x = 63
              · subst h6; rfl
              · simp [h1, h2, h3, h4, h5, h6]
            rw [hw]
            clear hw h1 h2 h3 h4 h5
            go_enter Tryz.func34, Tryz.ntmps34
            go_wp2
            go_ret
            exact ⟨rfl, rfl⟩
set_option maxHeartbeats 400000 in
theorem reads_any (x : Int) (w : World) : Calls Tryz.prog 38 #[.int .i64 x] w fun e w' => e = .returned (.bool (readsB x)) ∧ w = w' := by
  by_cases h1 : x = 50
  · subst h1
    go_enter Tryz.func38, Tryz.ntmps38
    go_wp2
    go_ret
    exact ⟨rfl, rfl⟩
  · by_cases h2 : x = 52
    · subst h2
      go_enter Tryz.func38, Tryz.ntmps38
      go_wp2
      go_ret
      exact ⟨rfl, rfl⟩
    · by_cases h3 : x = 54
      · subst h3
        go_enter Tryz.func38, Tryz.ntmps38
        go_wp2
        go_ret
        exact ⟨rfl, rfl⟩
      · have b1 : (x == 50) = false := by simpa using h1
        have b2 : (x == 52) = false := by simpa using h2
        have b3 : (x == 54) = false := by simpa using h3
        have hw : readsB x = (x == 61) := by
          unfold readsB
          by_cases h6 : x = 61
          · subst h6; rfl
          · simp [h1, h2, h3, h6]
        rw [hw]
        clear hw h1 h2 h3
        go_enter Tryz.func38, Tryz.ntmps38
        go_wp2
        go_ret
        exact ⟨rfl, rfl⟩
theorem returned_any (x : Int) (w : World) : Calls Tryz.prog 37 #[.int .i64 x] w fun e w' => e = .returned (.int .i64 (returnedN x)) ∧ w = w' := by
  by_cases h1 : x = 6
  · subst h1
    go_enter Tryz.func37, Tryz.ntmps37
    go_wp2
    go_ret
    exact ⟨rfl, rfl⟩
  · by_cases h2 : x = 55
    · subst h2
      go_enter Tryz.func37, Tryz.ntmps37
      go_wp2
      go_ret
      exact ⟨rfl, rfl⟩
    · by_cases h3 : x = 56
      · subst h3
        go_enter Tryz.func37, Tryz.ntmps37
        go_wp2
        go_ret
        exact ⟨rfl, rfl⟩
      · have b1 : (x == 6) = false := by simpa using h1
        have b2 : (x == 55) = false := by simpa using h2
        have b3 : (x == 56) = false := by simpa using h3
        have hw : returnedN x = 0 := by unfold returnedN; rw [if_neg h1, if_neg h2, if_neg h3]
        rw [hw]
        clear hw h1 h2 h3
        go_enter Tryz.func37, Tryz.ntmps37
        go_wp2
        go_ret
        exact ⟨rfl, rfl⟩

set_option maxHeartbeats 1000000 in
/-- sameReturn says yes. -/
theorem sameR_yes (a b : Option Addr) (n c m d q : Nat) (l k : List (Int × Int)) (w : World) (hl : l.length = n) (hk : k.length = m) (hn : q ≤ n) (hm : q ≤ m) (hn9 : n ≤ 1000) (hm9 : m ≤ 1000) (ha : Reads w a (cellsR l)) (hb : Reads w b (cellsR k)) (he : l.take q = k.take q) :
    Calls Tryz.prog 36 #[.slice a n c, .slice b m d, .int .i64 q] w fun e w' => e = .returned (.bool true) ∧ ∃ z, w' = w.drewN z := by
  have HL := Lib.hid hl
  have HK := Lib.hid hk
  have HA := Lib.hid ha
  have HB := Lib.hid hb
  have HE := Lib.hid he
  have b1 : decide ((n : Int) < (q : Int)) = false := by simp; omega
  have b2 : decide ((m : Int) < (q : Int)) = false := by simp; omega
  clear hl hk ha hb he
  go_enter Tryz.func36, Tryz.ntmps36
  go_wp2_with fail
  go_loopw [7] (fun vi wr => ∃ j : Nat, j ≤ q ∧ vi = .int .i64 j ∧ ∃ z, wr = w.drewN z) (fun vi _ => q - (intOf vi).toNat)
  case atStart => exact ⟨0, by omega, rfl, 0, rfl⟩
  case round =>
    obtain ⟨j, hj, rfl, z, rfl⟩ := hrel
    by_cases h : j < q
    · have hb : decide ((j : Int) < (q : Int)) = true := by simp; omega
      have hkl := HL.out
      obtain ⟨x, hx⟩ : ∃ x, l[j]? = some x := ⟨l[j], List.getElem?_eq_getElem (by omega)⟩
      have hy : k[j]? = some x := by
        have h1 := congrArg (fun t => t[j]?) HE.out
        simp only [List.getElem?_take, if_pos h] at h1
        rw [← h1, hx]
      obtain ⟨b1, o1, f1, c1, d1, -⟩ := HA.out.atR j x hx
      obtain ⟨b2, o2, f2, c2, d2, -⟩ := HB.out.atR j x hy
      subst f1
      subst f2
      have hwi : IntKind.i64.wrap ((j : Int) + 1) = (j : Int) + 1 := IntWalk.i64_in _ (by omega)
      clear hkl hx hy
      go_wp2_with fail
      go_quiet (fail)
      go_wp2_with fail
      exact ⟨⟨j + 1, by omega, by simp, _, rfl⟩, by simp only [intOf]; omega⟩
    · have hb : decide ((j : Int) < (q : Int)) = false := by simp; omega
      go_wp2_with fail
      go_ret
      exact ⟨rfl, _, rfl⟩
/-- What under leaves. -/
def UnderIs (w : World) (G : Nat → Nat) (l : List Int) (t : Nat) (e : Ending) (w' : World) : Prop :=
  ∃ b c G', e = .returned (.slice b t c) ∧ Adv (fun _ => False) w G w' G' ∧ Reads w' b (cellsU (l.take t)) ∧ (∀ ad, b = some ad → G' ad.block = 0 ∧ ad.block < w'.heap.size)
set_option maxHeartbeats 1000000 in
/-- under: the deeper cells, in new memory. -/
theorem under_any (G : Nat → Nat) (i D : Nat) (l : List Int) (n t : Nat) (w : World) (hp : PU w G i D l) (h1 : l.length ≤ 256) (hn : n ≤ 100) (ht : t = l.length - n) :
    Calls Tryz.prog 32 #[.pointer (some ⟨D, 0, none⟩), .int .i64 n] w (UnderIs w G l t) := by
  have HP := Lib.hid hp
  clear hp
  by_cases h0 : l = []
  · subst h0
    obtain rfl : t = 0 := by rw [ht, List.length_nil]; omega
    clear ht
    go_enter Tryz.func32, Tryz.ntmps32
    go_wp2_with fail
    refine (cellsPU_nil G i D _ HP.out).mono ?_
    rintro e w' ⟨rfl, rfl⟩
    have hw : wrap64 (0 - (n : Int)) = - (n : Int) := by unfold wrap64; omega
    by_cases hz : n = 0
    · subst hz
      go_wp2
      go_ret
      exact ⟨_, _, G, rfl, Adv.refl _ _ _, .inl rfl, fun ad h => by cases h⟩
    · have hz1 : ¬ (0 : Int) < - (n : Int) := by omega
      go_wp2
      go_ret
      exact ⟨none, 0, G, rfl, Adv.refl _ _ _, .inl rfl, fun ad h => by cases h⟩
  · obtain ⟨L, hL⟩ : ∃ L, l.length = L := ⟨_, rfl⟩
    rw [hL] at h1 ht
    have HL := Lib.hid hL
    clear hL
    by_cases hz : n < L
    · have hw : wrap64 ((L : Int) - (n : Int)) = (t : Int) := by unfold wrap64; omega
      have htL : t ≤ L := by omega
      have hz1 : (0 : Int) < (t : Int) := by omega
      have HT := Lib.hid ht
      clear ht
      go_enter Tryz.func32, Tryz.ntmps32
      go_wp2_with fail
      refine (cellsPU G i D l _ HP.out h0 (by rw [HL.out]; omega)).mono ?_
      rintro e w' ⟨rfl, rfl⟩
      rw [HL.out]
      have HR := Lib.hid (Reads.new w (cellsU l) 31)
      go_wp2
      go_ret
      rw [HT.out]
      refine ⟨_, _, _, rfl, (Adv.refl _ w G).alloc _ 0, HR.out.takeU (L - n), fun ad h => by cases h; exact ⟨own1_new _ _ _, by simp⟩⟩
    · have hw : wrap64 ((L : Int) - (n : Int)) = (L : Int) - (n : Int) := by unfold wrap64; omega
      have hz1 : ¬ (0 : Int) < (L : Int) - (n : Int) := by omega
      obtain rfl : t = 0 := by omega
      clear ht
      go_enter Tryz.func32, Tryz.ntmps32
      go_wp2_with fail
      refine (cellsPU G i D l _ HP.out h0 (by rw [HL.out]; omega)).mono ?_
      rintro e w' ⟨rfl, rfl⟩
      rw [HL.out]
      have HR := Lib.hid (Reads.new w (cellsU l) 31)
      go_wp2
      go_ret
      exact ⟨_, _, _, rfl, (Adv.refl _ w G).alloc _ 0, .inl rfl, fun ad h => by cases h; exact ⟨own1_new _ _ _, by simp⟩⟩
end Go.Proofs.YtdnalhjdmlkbmaaGreatDoor
namespace Go.Proofs.YtdnalhjdmlkbmaaGreatDoor
open Go.RowKit

theorem wf_u16_of {n : Int} (h : (Lit.int .u16 n).wf = true) : 0 ≤ n ∧ n < 65536 := by
  simp [Lit.wf, IntKind.min, IntKind.max, IntKind.signed, IntKind.bits] at h
  omega
theorem wf_u8_of {n : Int} (h : (Lit.int .u8 n).wf = true) : 0 ≤ n ∧ n < 256 := by
  simp [Lit.wf, IntKind.min, IntKind.max, IntKind.signed, IntKind.bits] at h
  omega
theorem own123 : Own3 1 2 3 := ⟨by decide, by decide, by decide, by decide, by decide, by decide⟩
theorem B8.replicate (n : Nat) : B8 (List.replicate n 0) := fun x hx => by rw [List.eq_of_mem_replicate hx]; decide
theorem B8.append {l m : List Int} (h : B8 l) (k : B8 m) : B8 (l ++ m) := fun x hx => by
  rcases List.mem_append.1 hx with h1 | h1
  · exact h x h1
  · exact k x h1
theorem newM_rng (l : List (Int × List Int)) (h : ∀ p ∈ l, B8 p.2) : MemR (newM l) := by
  refine ⟨fun p hp => ?_, B8.replicate _, B8.replicate _, (show (0 : Int) ≤ 0 ∧ (0 : Int) < 16 from by decide), (show (0 : Int) ≤ 0 ∧ (0 : Int) < 256 from by decide), (show (0 : Int) ≤ 0 ∧ (0 : Int) < 256 from by decide), (show (0 : Int) ≤ 0 ∧ (0 : Int) < 65536 from by decide), (show (0 : Int) ≤ 0 ∧ (0 : Int) < 65536 from by decide)⟩
  have hp' : p ∈ l.map fun p => (p.1, p.2 ++ List.replicate (16384 - p.2.length) 0) := hp
  simp only [List.mem_map] at hp'
  obtain ⟨q, hq, rfl⟩ := hp'
  exact (h q hq).append (B8.replicate _)
theorem banks2_ok : MemOk (newM banks2) := newM_ok _ (by decide)
theorem banks2_rng : MemR (newM banks2) := newM_rng _ (by intro p hp; simp [banks2] at hp; rcases hp with rfl | rfl <;> (intro x hx; simp at hx; omega))
/-- The law's world: block K holds the pointers; all is well. -/
structure W6 (w : World) (G : Nat → Nat) (K D R M : Nat) (d : List Int) (r : List (Int × Int)) (m : MemS) : Prop where
  wl : Wld w G K D R M
  tr : Trio w G 1 2 3 D R M d r m
  tb : Tabs w G
  gd : Good3 d r m
section
variable {w w' : World} {G G' : Nat → Nat} {K D R M : Nat} {d d' : List Int} {r r' : List (Int × Int)} {m m' : MemS}
theorem W6.cells (h : W6 w G K D R M d r m) : w.cell? ⟨K, 0, none⟩ = some (.pointer (some ⟨D, 0, none⟩)) ∧ w.cell? ⟨K, 1, none⟩ = some (.pointer (some ⟨R, 0, none⟩)) ∧ w.cell? ⟨K, 2, none⟩ = some (.pointer (some ⟨M, 0, none⟩)) := by
  obtain ⟨x, y, z, h1, _⟩ := h.wl
  exact ⟨block_cell h1 0 _ rfl, block_cell h1 1 _ rfl, block_cell h1 2 _ rfl⟩
theorem W6.still (h : W6 w G K D R M d r m) (ha : Adv (fun _ => False) w G w' G') : W6 w' G' K D R M d r m := by
  obtain ⟨x, y, z, h1, h2⟩ := h.wl
  have hl : K < w.heap.size := (Array.getElem?_eq_some_iff.1 h1).1
  exact ⟨⟨x, y, z, (ha.keep K hl id).trans h1, (ha.own K hl).trans h2⟩, h.tr.still ha, h.tb.adv ha id, h.gd⟩
theorem W6.drew (h : W6 w G K D R M d r m) : W6 w.drew G K D R M d r m := h.still (Adv.refl _ w G).drew
theorem W6.alloc (h : W6 w G K D R M d r m) (o : Obj) (k : Nat) : W6 (w.alloc o) (own1 w G k) K D R M d r m := h.still ((Adv.refl _ w G).alloc o k)
theorem W6.next (h : W6 w G K D R M d r m) (ha : Adv (S3 1 2 3) w G w' G') (ht : Trio w' G' 1 2 3 D R M d' r' m') (hg : Good3 d' r' m') : W6 w' G' K D R M d' r' m' := by
  obtain ⟨x, y, z, h1, h2⟩ := h.wl
  have hl : K < w.heap.size := (Array.getElem?_eq_some_iff.1 h1).1
  exact ⟨⟨x, y, z, (ha.keep K hl (by rw [h2]; exact own123.zero)).trans h1, (ha.own K hl).trans h2⟩, ht, h.tb.adv ha own123.zero, hg⟩
/-- What a call leaves of the law's world. -/
def Left6 (K D R M : Nat) (w : World) (G : Nat → Nat) (d : List Int) (r : List (Int × Int)) (m : MemS) (v : Value) (e : Ending) (w' : World) : Prop :=
  e = .returned v ∧ ∃ G', Adv (S3 1 2 3) w G w' G' ∧ W6 w' G' K D R M d r m
theorem W6.left (h : W6 w G K D R M d r m) (hg : Good3 d' r' m') {v : Value} {e : Ending} (hl : Left3 1 2 3 D R M w G d' r' m' v e w') : Left6 K D R M w G d' r' m' v e w' := by
  obtain ⟨h1, G', h2, h3⟩ := hl
  exact ⟨h1, G', h2, h.next h2 h3 hg⟩
theorem W6.do (k : Nat) (hk : k < 64) (hpl : plainB k = true) (h : W6 w G K D R M d r m) (hn : m.tones.length ≤ 99999) (hf : faultF k d r = 0) (he : doF k d r m = (d', r', m')) :
    Calls Tryz.prog 23 #[.int .i64 k, .pointer (some ⟨D, 0, none⟩), .pointer (some ⟨R, 0, none⟩), .pointer (some ⟨M, 0, none⟩)] w (Left6 K D R M w G d' r' m' (.int .i64 0)) := by
  refine (do_at k hk hpl own123 h.gd hn h.tb h.tr hf he).mono fun e w' hl => h.left ?_ hl
  have hg := (doF_good k hk h.gd).1
  rw [he] at hg
  exact hg
theorem W6.push (l : List Int) (h : W6 w G K D R M d r m) (hl : D16 l) (n : Nat) (hn : l.length = n) (hroom : d.length + n ≤ 256) :
    Calls Tryz.prog 39 #[.pointer (some ⟨D, 0, none⟩), .slice (some ⟨w.heap.size, 0, none⟩) n n] (w.alloc (.cells (cellsU l).toArray 31)) (Left6 K D R M (w.alloc (.cells (cellsU l).toArray 31)) (own1 w G 0) (d ++ l) r m (.int .i64 0)) := by
  have h1 := h.alloc (.cells (cellsU l).toArray 31) 0
  exact (h1.tr.push own123 (some ⟨w.heap.size, 0, none⟩) n n hn hroom (Reads.new w (cellsU l) 31)).mono fun e w' k => h1.left ⟨h.gd.d16.append hl, h.gd.r16, by rw [List.length_append]; omega, h.gd.rl, h.gd.mo, h.gd.mr⟩ k
theorem W6.pop {x : Int} (h : W6 w G K D R M (d ++ [x]) r m) : Calls Tryz.prog 147 #[.pointer (some ⟨D, 0, none⟩)] w (Left6 K D R M w G d r m (.int .u16 x)) :=
  (h.tr.pop own123).mono fun e w' k => h.left ⟨h.gd.d16.left, h.gd.r16, by have := h.gd.dl; rw [List.length_append] at this; omega, h.gd.rl, h.gd.mo, h.gd.mr⟩ k
/-- Cells of the data stack in new memory. -/
def NewCells (w : World) (G : Nat → Nat) (l : List Int) (e : Ending) (w' : World) : Prop := ∃ b c G', e = .returned (.slice b l.length c) ∧ Adv (fun _ => False) w G w' G' ∧ Reads w' b (cellsU l) ∧ (∀ ad, b = some ad → G' ad.block = 0 ∧ ad.block < w'.heap.size ∧ w.heap.size ≤ ad.block)
theorem newCells (G : Nat → Nat) (i D : Nat) (l : List Int) (w : World) (hp : PU w G i D l) (h1 : l.length ≤ 256) : Calls Tryz.prog 30 #[.pointer (some ⟨D, 0, none⟩)] w (NewCells w G l) := by
  by_cases h0 : l = []
  · subst h0
    refine (cellsPU_nil G i D w hp).mono fun e w' k => ?_
    obtain ⟨k1, rfl⟩ := k
    exact ⟨none, 0, G, k1, Adv.refl _ _ _, .inl rfl, fun ad h => by cases h⟩
  · refine (cellsPU G i D l w hp h0 (by omega)).mono fun e w' k => ?_
    obtain ⟨k1, rfl⟩ := k
    exact ⟨_, _, own1 w G 0, k1, (Adv.refl _ w G).alloc _ 0, Reads.new w (cellsU l) 31, fun ad h => by cases h; exact ⟨own1_new _ _ _, by simp, Nat.le_refl _⟩⟩
end
theorem born6 (G : Nat → Nat) (xa : Option Addr) (n c : Nat) (l : List Int) (w : World) (hl : l.length = n) (hm : n ≤ 256) (hr : Reads w xa (cellsU l)) (hcap : n ≤ c) (hc2 : c ≤ 100000000000000) (hd : D16 l) (ht : Tabs w G) :
    Calls Tryz.prog 9 #[.slice xa n c, .slice none 0 0] w fun e w' => ∃ K D R M G', e = .returned (.pointer (some ⟨K, 0, none⟩)) ∧ Adv (fun _ => False) w G w' G' ∧ W6 w' G' K D R M l [] (newM banks2) :=
  (born0 G xa n c l w hl hm hr hcap hc2).mono fun e w' k => by
    obtain ⟨K, D, R, M, G', k1, k2, k3, k4, k5, k6⟩ := k
    exact ⟨K, D, R, M, G', k1, k2, k3, ⟨k4, k5, k6⟩, ht.adv k2 id, ⟨hd, (fun x hx => by cases hx), by omega, by simp, banks2_ok, banks2_rng⟩⟩
end Go.Proofs.YtdnalhjdmlkbmaaGreatDoor
namespace Go.Proofs.YtdnalhjdmlkbmaaGreatDoor
open Go.RowKit
set_option linter.unusedVariables false
theorem conv_u8 {w : World} {a : Option Addr} {l : List Int} {n c : Nat} (h : Reads w a (u8s l)) (hl : l.length = n) (h0 : 0 < n) : (convert 30 9 (.slice a n c)).run Tryz.prog w = .ok (.string (strOfNums l)) w := by
  rcases h with hz | ⟨b, o, e, hh⟩
  · have := congrArg List.length hz
    rw [u8s_length, List.length_nil, hl] at this
    omega
  · subst e
    exact run_convert_bytes_arg w 30 5 Tryz.underlying30 Tryz.underlying5 b o n c l hl (fun i hi => hh i _ (by simp [u8s, List.getD_eq_getElem?_getD, List.getElem?_eq_getElem (show i < l.length by omega)])) 9 Tryz.underlying9
def eightF (m : MemS) : List Int := [m.chosen, m.pad, IntKind.u8.wrap m.pitch, IntKind.u8.wrap (m.pitch / 256), m.volume, IntKind.u8.wrap m.time, IntKind.u8.wrap (m.time / 256), IntKind.u8.wrap (m.tones.length : Int)]
/-- The text of a memory with two banks. -/
def imgS (m : MemS) (b0 b1 : List Int) : Nat → ByteArray
  | 0 => strOfNums m.ram ++ strOfNums m.screen ++ strOfNums (eightF m)
  | 1 => strOfNums m.ram ++ strOfNums m.screen ++ strOfNums (eightF m) ++ strOfNums b0
  | _ => strOfNums m.ram ++ strOfNums m.screen ++ strOfNums (eightF m) ++ strOfNums b0 ++ strOfNums b1
/-- An image in a block of the call's own. -/
structure Img8 (w : World) (G : Nat → Nat) (xi : Nat) (ba : Option Addr) (bc : Nat) (ra : Option Addr) (rc sb : Nat) (k0 k1 : Int) (b0 b1 : List Int) (m : MemS) : Prop where
  blk : w.heap[xi]? = some (.cells #[.slice ba 2 bc, .slice ra 16384 rc, .slice (some ⟨sb, 0, none⟩) 3072 3072, .int .u8 m.chosen, .int .u8 m.pad, .int .u16 m.pitch, .int .u8 m.volume, .int .u16 m.time] 161 (0, 0))
  own : G xi = 1000
  sh : Shot2 w G ra rc sb ba bc k0 k1 b0 b1 m
theorem Img8.still {w w' : World} {G G' : Nat → Nat} {xi : Nat} {ba : Option Addr} {bc : Nat} {ra : Option Addr} {rc sb : Nat} {k0 k1 : Int} {b0 b1 : List Int} {m : MemS} (h : Img8 w G xi ba bc ra rc sb k0 k1 b0 b1 m) (ha : Adv (fun _ => False) w G w' G') : Img8 w' G' xi ba bc ra rc sb k0 k1 b0 b1 m := by
  have hx := (Array.getElem?_eq_some_iff.1 h.blk).1
  obtain ⟨c0, c1, h1, h2, h3⟩ := h.sh.bks
  exact ⟨(ha.keep xi hx id).trans h.blk, (ha.own xi hx).trans h.own, h.sh.ram.adv ha id, h.sh.scr.adv ha (fun _ _ => id), ⟨(ha.own _ h.sh.sg.2).trans h.sh.sg.1, Nat.lt_of_lt_of_le h.sh.sg.2 ha.size⟩, c0, c1, h1.adv ha id, h2.adv ha id, h3.adv ha id⟩
theorem Img8.held {w' : World} {G : Nat → Nat} {xi : Nat} {ba : Option Addr} {bc : Nat} {ra : Option Addr} {rc sb : Nat} {k0 k1 : Int} {b0 b1 : List Int} {m : MemS} (h : Img8 w' G xi ba bc ra rc sb k0 k1 b0 b1 m) (hm : MemOk m) :
    w'.cell? ⟨xi, 0, none⟩ = some (.slice ba 2 bc) ∧ w'.cell? ⟨xi, 1, none⟩ = some (.slice ra 16384 rc) ∧ w'.cell? ⟨xi, 2, none⟩ = some (.slice (some ⟨sb, 0, none⟩) 3072 3072) ∧ w'.cell? ⟨xi, 3, none⟩ = some (.int .u8 m.chosen) ∧ w'.cell? ⟨xi, 4, none⟩ = some (.int .u8 m.pad) ∧ w'.cell? ⟨xi, 5, none⟩ = some (.int .u16 m.pitch) ∧ w'.cell? ⟨xi, 6, none⟩ = some (.int .u8 m.volume) ∧ w'.cell? ⟨xi, 7, none⟩ = some (.int .u16 m.time) ∧ (convert 30 9 (.slice ra 16384 rc)).run Tryz.prog w' = .ok (.string (strOfNums m.ram)) w' ∧ (convert 30 9 (.slice (some ⟨sb, 0, none⟩) 3072 3072)).run Tryz.prog w' = .ok (.string (strOfNums m.screen)) w' :=
  ⟨block_cell h.blk 0 _ rfl, block_cell h.blk 1 _ rfl, block_cell h.blk 2 _ rfl, block_cell h.blk 3 _ rfl, block_cell h.blk 4 _ rfl, block_cell h.blk 5 _ rfl, block_cell h.blk 6 _ rfl, block_cell h.blk 7 _ rfl, conv_u8 h.sh.ram.reads hm.ram (by decide), conv_u8 h.sh.scr hm.screen (by decide)⟩
theorem imgS_step (m : MemS) (b0 b1 bv : List Int) (k : Nat) (k0 k1 kv : Int) (hk : k < 2) (h : [(k0, b0), (k1, b1)][k]? = some (kv, bv)) : imgS m b0 b1 k ++ strOfNums bv = imgS m b0 b1 (k + 1) := by
  rcases (show k = 0 ∨ k = 1 by omega) with rfl | rfl
  · simp at h; rw [← h.2]; rfl
  · simp at h; rw [← h.2]; rfl
theorem imgS_size (m : MemS) (hm : MemOk m) (b0 b1 : List Int) (h0 : b0.length = 16384) (h1 : b1.length = 16384) : ∀ k, k ≤ 2 → (imgS m b0 b1 k).size ≤ 100000 := by
  intro k hk
  have e1 : (strOfNums m.ram).size = 16384 := by rw [strOfNums_size, hm.ram]
  have e2 : (strOfNums m.screen).size = 3072 := by rw [strOfNums_size, hm.screen]
  have e3 : (strOfNums (eightF m)).size = 8 := by rw [strOfNums_size]; rfl
  have e4 : (strOfNums b0).size = 16384 := by rw [strOfNums_size, h0]
  have e5 : (strOfNums b1).size = 16384 := by rw [strOfNums_size, h1]
  match k, hk with
  | 0, _ => simp only [imgS, ByteArray.size_append]; omega
  | 1, _ => simp only [imgS, ByteArray.size_append]; omega
  | 2, _ => simp only [imgS, ByteArray.size_append]; omega
/-- One bank of the image, read. -/
theorem Img8.bank {w : World} {G : Nat → Nat} {xi : Nat} {ba : Option Addr} {bc : Nat} {ra : Option Addr} {rc sb : Nat} {k0 k1 : Int} {b0 b1 : List Int} {m : MemS} (h : Img8 w G xi ba bc ra rc sb k0 k1 b0 b1 m) (k : Nat) (kv : Int) (bv : List Int) (hk : [(k0, b0), (k1, b1)][k]? = some (kv, bv)) (hl : bv.length = 16384) :
    ∃ g da dc, ba = some ⟨g, 0, none⟩ ∧ w.cell? ⟨g, k * 2 + 1, none⟩ = some (.slice da 16384 dc) ∧ (convert 30 9 (.slice da 16384 dc)).run Tryz.prog w = .ok (.string (strOfNums bv)) w := by
  obtain ⟨c0, c1, h1, ⟨da0, dc0, rfl, h2⟩, ⟨da1, dc1, rfl, h3⟩⟩ := h.sh.bks
  obtain ⟨a, c, e, _, _, hg⟩ := h1.slice
  obtain ⟨g, rfl⟩ := hg (by omega)
  obtain ⟨rfl, -, rfl⟩ : ba = some ⟨g, 0, none⟩ ∧ True ∧ bc = c := by cases e; exact ⟨rfl, trivial, rfl⟩
  have hc := (h1.at (by omega)).2.2.2
  have hk2 : k < 2 := by have := (List.getElem?_eq_some_iff.1 hk).1; simpa using this
  rcases (show k = 0 ∨ k = 1 by omega) with rfl | rfl
  · simp at hk
    obtain ⟨rfl, rfl⟩ := hk
    exact ⟨g, da0, dc0, rfl, hc 1 _ rfl, conv_u8 h2.reads hl (by decide)⟩
  · simp at hk
    obtain ⟨rfl, rfl⟩ := hk
    exact ⟨g, da1, dc1, rfl, hc 3 _ rfl, conv_u8 h3.reads hl (by decide)⟩
set_option maxRecDepth 100000 in
set_option maxHeartbeats 4000000 in
theorem imageT0 (D : Nat) (m : MemS) (hm : MemOk m) (hr : MemR m) (hn : m.tones.length ≤ 1000000) (k0 k1 : Int) (b0 b1 : List Int) (hb : m.banks = [(k0, b0), (k1, b1)]) (hk : k0 < k1) (hk0 : 0 ≤ k0) (hk1 : k1 < 256) (w : World) (hp : PM w (fun _ => 0) 0 D m) :
    Calls Tryz.prog 33 #[.pointer (some ⟨D, 0, none⟩)] w fun e w' => e = .returned (.string (imgS m b0 b1 2)) ∧ ∃ G', Adv S7 w (fun _ => 0) w' G' := by
  have HP := Lib.hid hp
  have hI := image0 D m hm k0 k1 b0 b1 hb hk hk0 hk1 w hp
  clear hp
  go_enter Tryz.func33, Tryz.ntmps33
  go_wp2_with fail
  refine hI.mono ?_
  rintro e w1 ⟨ba, bc, ra, rc, sb, G1, rfl, a1, hs⟩
  have A1 := Lib.hid a1
  have S1 := Lib.hid hs
  have HP1 := Lib.hid (HP.out.adv a1 (by unfold S7; decide))
  clear a1 hs hI
  unfold imageV
  go_upto_region 2 with fail
  obtain ⟨W2, hW2⟩ : ∃ v, v = w1.alloc (.cells #[.slice ba 2 bc, .slice ra 16384 rc, .slice (some ⟨sb, 0, none⟩) 3072 3072, .int .u8 m.chosen, .int .u8 m.pad, .int .u16 m.pitch, .int .u8 m.volume, .int .u16 m.time] 161) := ⟨_, rfl⟩
  obtain ⟨G2, hG2⟩ : ∃ v, v = own1 w1 G1 1000 := ⟨_, rfl⟩
  obtain ⟨xi, hxi⟩ : ∃ v, v = w1.heap.size := ⟨_, rfl⟩
  have al := (Adv.refl (fun _ => False) w1 G1).alloc (.cells #[.slice ba 2 bc, .slice ra 16384 rc, .slice (some ⟨sb, 0, none⟩) 3072 3072, .int .u8 m.chosen, .int .u8 m.pad, .int .u16 m.pitch, .int .u8 m.volume, .int .u16 m.time] 161) 1000
  have I2 : Img8 W2 G2 xi ba bc ra rc sb k0 k1 b0 b1 m := by
    obtain ⟨c0, c1, h1, h2, h3⟩ := S1.out.bks
    have hs2 : Shot2 W2 G2 ra rc sb ba bc k0 k1 b0 b1 m := by
      rw [hW2, hG2]
      exact ⟨S1.out.ram.adv al id, S1.out.scr.adv al (fun _ _ => id), ⟨(al.own _ S1.out.sg.2).trans S1.out.sg.1, Nat.lt_of_lt_of_le S1.out.sg.2 al.size⟩, c0, c1, h1.adv al id, h2.adv al id, h3.adv al id⟩
    exact ⟨by rw [hW2, hxi]; exact heap_alloc_new _ _, by rw [hG2, hxi]; exact own1_new _ _ _, hs2⟩
  rw [← hW2, ← hG2] at al
  rw [← hW2, ← hxi]
  have HPD := Lib.hid ((HP1.out.adv al id).adv (Adv.refl (fun _ => False) W2 G2).drew id)
  have A2 := Lib.hid (A1.out.trans (al.mono (T := S7) fun _ h => h.elim)).drew
  have ID := Lib.hid (I2.still (Adv.refl (fun _ => False) W2 G2).drew)
  have hxl : xi < W2.heap.size := (Array.getElem?_eq_some_iff.1 I2.blk).1
  obtain ⟨q0, q1, q2, q3, q4, q5, q6, q7, q8, q9⟩ := ID.out.held hm
  have hz1 : (strOfNums m.ram).size = 16384 := by rw [strOfNums_size, hm.ram]
  have hz2 : (strOfNums m.screen).size = 3072 := by rw [strOfNums_size, hm.screen]
  have hz3 : (strOfNums (eightF m)).size = 8 := by rw [strOfNums_size]; rfl
  clear al I2 hW2 hG2 hxi S1 A1 HP HP1
  go_region_held_law (fun w' => w'.cell? ⟨xi, 0, none⟩ = some (.slice ba 2 bc) ∧ w'.cell? ⟨xi, 1, none⟩ = some (.slice ra 16384 rc) ∧ w'.cell? ⟨xi, 2, none⟩ = some (.slice (some ⟨sb, 0, none⟩) 3072 3072) ∧ w'.cell? ⟨xi, 3, none⟩ = some (.int .u8 m.chosen) ∧ w'.cell? ⟨xi, 4, none⟩ = some (.int .u8 m.pad) ∧ w'.cell? ⟨xi, 5, none⟩ = some (.int .u16 m.pitch) ∧ w'.cell? ⟨xi, 6, none⟩ = some (.int .u8 m.volume) ∧ w'.cell? ⟨xi, 7, none⟩ = some (.int .u16 m.time) ∧ (convert 30 9 (.slice ra 16384 rc)).run Tryz.prog w' = .ok (.string (strOfNums m.ram)) w' ∧ (convert 30 9 (.slice (some ⟨sb, 0, none⟩) 3072 3072)).run Tryz.prog w' = .ok (.string (strOfNums m.screen)) w') (first | with_reducible exact ⟨q0, q1, q2, q3, q4, q5, q6, q7, q8, q9⟩ | with_reducible exact Q3.out | with_reducible exact Q3a.out)
    (first | (go_at_call 84; refine (tones_any _ 0 0 D m hm hn _ HPD.out).mono ?_; rintro e w3 ⟨ta, tc, G3, rfl, a3, r3⟩; have A3 := Lib.hid (A2.out.trans (a3.mono (T := S7) fun _ h => h.elim)); have I3 := Lib.hid (ID.out.still a3); have Q3 := Lib.hid (I3.out.held hm); have al3 := (Adv.refl (fun _ => False) w3 G3).alloc (.cells #[.int .u8 m.chosen, .int .u8 m.pad, .int .u8 (IntKind.u8.wrap m.pitch), .int .u8 (IntKind.u8.wrap (m.pitch / 256)), .int .u8 m.volume, .int .u8 (IntKind.u8.wrap m.time), .int .u8 (IntKind.u8.wrap (m.time / 256)), .int .u8 (IntKind.u8.wrap (m.tones.length : Int))] 5) 9; have A4 := Lib.hid (A3.out.trans (al3.mono (T := S7) fun _ h => h.elim)); have I4 := Lib.hid (I3.out.still al3); have Q3a := Lib.hid (I4.out.held hm); have cv3 : (convert 30 9 (.slice (some ⟨w3.heap.size, 0, none⟩) 8 8)).run Tryz.prog (w3.alloc (.cells #[.int .u8 m.chosen, .int .u8 m.pad, .int .u8 (IntKind.u8.wrap m.pitch), .int .u8 (IntKind.u8.wrap (m.pitch / 256)), .int .u8 m.volume, .int .u8 (IntKind.u8.wrap m.time), .int .u8 (IntKind.u8.wrap (m.time / 256)), .int .u8 (IntKind.u8.wrap (m.tones.length : Int))] 5)) = .ok (.string (strOfNums (eightF m))) (w3.alloc (.cells #[.int .u8 m.chosen, .int .u8 m.pad, .int .u8 (IntKind.u8.wrap m.pitch), .int .u8 (IntKind.u8.wrap (m.pitch / 256)), .int .u8 m.volume, .int .u8 (IntKind.u8.wrap m.time), .int .u8 (IntKind.u8.wrap (m.time / 256)), .int .u8 (IntKind.u8.wrap (m.tones.length : Int))] 5)) := conv_u8 (l := eightF m) (Reads.new w3 (u8s (eightF m)) 5) rfl (by decide); clear a3 r3 al3))
  have hl0 : b0.length = 16384 := hm.banks (k0, b0) (by rw [hb]; simp)
  have hl1 : b1.length = 16384 := hm.banks (k1, b1) (by rw [hb]; simp)
  obtain ⟨w4, hw4⟩ : ∃ v, v = w3.alloc (.cells #[.int .u8 m.chosen, .int .u8 m.pad, .int .u8 (IntKind.u8.wrap m.pitch), .int .u8 (IntKind.u8.wrap (m.pitch / 256)), .int .u8 m.volume, .int .u8 (IntKind.u8.wrap m.time), .int .u8 (IntKind.u8.wrap (m.time / 256)), .int .u8 (IntKind.u8.wrap (m.tones.length : Int))] 5) := ⟨_, rfl⟩
  obtain ⟨G4, hG4⟩ : ∃ v, v = own1 w3 G3 9 := ⟨_, rfl⟩
  rw [← hw4] at A4 I4 ⊢
  rw [← hG4] at A4 I4
  have HZ := Lib.hid (imgS_size m hm b0 b1 hl0 hl1)
  have HL := Lib.hid (And.intro hl0 hl1)
  clear hw4 hG4 cv3 Q3 Q3a I3 A3 HPD ID A2 q0 q1 q2 q3 q4 q5 q6 q7 q8 q9 hz1 hz2 hz3 hl0 hl1
  go_wp2_with fail
  go_loopw [4, 5] (fun v4 v5 wr => ∃ k : Nat, v5 = .int .i64 k ∧ k ≤ 2 ∧ v4 = .string (imgS m b0 b1 k) ∧ ∃ Gr, Adv S7 w (fun _ => 0) wr Gr ∧ Img8 wr Gr xi ba bc ra rc sb k0 k1 b0 b1 m) (fun _ v5 _ => 2 - (intOf v5).toNat)
  case atStart => exact ⟨0, rfl, by omega, rfl, G4, A4.out, I4.out⟩
  case round =>
    obtain ⟨k, rfl, hk2, rfl, Gr, ha, hi⟩ := hrel
    have HA := Lib.hid ha
    have HI := Lib.hid hi
    have x0 := block_cell hi.blk 0 _ rfl
    clear ha hi A4 I4
    by_cases hlt : k < 2
    · obtain ⟨kv, bv, hkv, hbl⟩ : ∃ kv bv, [(k0, b0), (k1, b1)][k]? = some (kv, bv) ∧ bv.length = 16384 := by
        rcases (show k = 0 ∨ k = 1 by omega) with rfl | rfl
        · exact ⟨k0, b0, rfl, HL.out.1⟩
        · exact ⟨k1, b1, rfl, HL.out.2⟩
      obtain ⟨g, da, dc, hba, cb, cvb⟩ := HI.out.bank k kv bv hkv hbl
      subst hba
      obtain ⟨s0, hs0⟩ : ∃ v, v = imgS m b0 b1 k := ⟨_, rfl⟩
      have hsz : s0.size ≤ 100000 := by rw [hs0]; exact HZ.out k hk2
      have hsb : (strOfNums bv).size = 16384 := by rw [strOfNums_size, hbl]
      rw [← hs0]
      have HS0 := Lib.hid hs0
      have HKV := Lib.hid hkv
      have k00 : (0 : Int) ≤ (k : Int) := Int.natCast_nonneg _
      have k01 : (k : Int) < 2 := by omega
      have q1 : decide ((k : Int) < 2) = true := by simp; omega
      have hwk : IntKind.i64.wrap ((k : Int) + 1) = (k : Int) + 1 := IntWalk.i64_in _ (by omega)
      clear hs0 hkv hbl
      go_wp2_with fail
      go_roundw
      case rel => exact ⟨k + 1, by simp, by omega, by rw [← imgS_step m b0 b1 bv k k0 k1 kv hlt HKV.out, HS0.out], Gr, HA.out, HI.out⟩
      case measure => simp only [intOf]; omega
    · obtain rfl : k = 2 := by omega
      have q1 : decide (((2 : Nat) : Int) < 2) = false := by simp
      go_wp2_with fail
      go_ret
      exact ⟨rfl, Gr, HA.out⟩
/-- A memory's text: it hangs on the memory alone. -/
theorem image_text (G : Nat → Nat) (q D : Nat) (m : MemS) (hm : MemOk m) (hr : MemR m) (hn : m.tones.length ≤ 1000000) (k0 k1 : Int) (b0 b1 : List Int) (hb : m.banks = [(k0, b0), (k1, b1)]) (hk : k0 < k1) (hk0 : 0 ≤ k0) (hk1 : k1 < 256) (w : World) (hp : PM w G q D m) :
    Calls Tryz.prog 33 #[.pointer (some ⟨D, 0, none⟩)] w fun e w' => e = .returned (.string (imgS m b0 b1 2)) ∧ ∃ G', Adv (fun _ => False) w G w' G' := by
  refine (imageT0 D m hm hr hn k0 k1 b0 b1 hb hk hk0 hk1 w (hp.relabel fun _ _ _ => rfl)).mono ?_
  rintro e w' ⟨rfl, G', ha⟩
  exact ⟨rfl, _, joined_adv ha (by unfold S7; decide)⟩
end Go.Proofs.YtdnalhjdmlkbmaaGreatDoor
namespace Go.Proofs.YtdnalhjdmlkbmaaGreatDoor
open Go.RowKit
set_option linter.unusedVariables false

/-- A world of wisplaw06 with owners i, j, q. -/
structure W6g (w : World) (G : Nat → Nat) (i j q K D R M : Nat) (d : List Int) (r : List (Int × Int)) (m : MemS) : Prop where
  wl : Wld w G K D R M
  tr : Trio w G i j q D R M d r m
  gd : Good3 d r m
section
variable {w w' : World} {G G' : Nat → Nat} {i j q K D R M : Nat} {d d' : List Int} {r r' : List (Int × Int)} {m m' : MemS}
theorem W6g.cells (h : W6g w G i j q K D R M d r m) : w.cell? ⟨K, 0, none⟩ = some (.pointer (some ⟨D, 0, none⟩)) ∧ w.cell? ⟨K, 1, none⟩ = some (.pointer (some ⟨R, 0, none⟩)) ∧ w.cell? ⟨K, 2, none⟩ = some (.pointer (some ⟨M, 0, none⟩)) := by
  obtain ⟨x, y, z, h1, _⟩ := h.wl
  exact ⟨block_cell h1 0 _ rfl, block_cell h1 1 _ rfl, block_cell h1 2 _ rfl⟩
theorem W6g.adv {S : Nat → Prop} (h : W6g w G i j q K D R M d r m) (ha : Adv S w G w' G') (h0 : ¬ S 0) (h1 : ¬ S i) (h2 : ¬ S j) (h3 : ¬ S q) : W6g w' G' i j q K D R M d r m := by
  obtain ⟨x, y, z, k1, k2⟩ := h.wl
  have hl : K < w.heap.size := (Array.getElem?_eq_some_iff.1 k1).1
  exact ⟨⟨x, y, z, (ha.keep K hl (by rw [k2]; exact h0)).trans k1, (ha.own K hl).trans k2⟩, h.tr.adv ha h1 h2 h3, h.gd⟩
theorem W6g.still (h : W6g w G i j q K D R M d r m) (ha : Adv (fun _ => False) w G w' G') : W6g w' G' i j q K D R M d r m := h.adv ha id id id id
theorem W6g.next (o : Own3 i j q) (h : W6g w G i j q K D R M d r m) (ha : Adv (S3 i j q) w G w' G') (ht : Trio w' G' i j q D R M d' r' m') (hg : Good3 d' r' m') : W6g w' G' i j q K D R M d' r' m' := by
  obtain ⟨x, y, z, h1, h2⟩ := h.wl
  have hl : K < w.heap.size := (Array.getElem?_eq_some_iff.1 h1).1
  exact ⟨⟨x, y, z, (ha.keep K hl (by rw [h2]; exact o.zero)).trans h1, (ha.own K hl).trans h2⟩, ht, hg⟩
end
theorem own567 : Own3 5 6 7 := ⟨by decide, by decide, by decide, by decide, by decide, by decide⟩

/-- born, its parts named i, j, q. -/
theorem bornG (G : Nat → Nat) (i j q : Nat) (xa : Option Addr) (m c : Nat) (l : List Int) (ya : Option Addr) (m2 c2 : Nat) (lr : List (Int × Int)) (w : World) (hl : l.length = m) (hr : Reads w xa (cellsU l)) (hcap : m ≤ c) (hc1 : c ≤ 9223372036854775807)
    (hlr : lr.length = m2) (hrr : Reads w ya (cellsR lr)) (hcap2 : m2 ≤ c2) (hc2 : c2 ≤ 9223372036854775807) (hwf : ∀ c ∈ lr, -9223372036854775808 ≤ c.1 ∧ c.1 ≤ 9223372036854775807) (hd : D16 l) (hR : R16 lr) :
    Calls Tryz.prog 9 #[.slice xa m c, .slice ya m2 c2] w fun e w' => ∃ K D R M G', e = .returned (.pointer (some ⟨K, 0, none⟩)) ∧ Adv (fun _ => False) w G w' G' ∧ W6g w' G' i j q K D R M (l.take 256) ((lr.take 128).map normR) (newM banks2) := by
  refine (bornR (fun _ => 0) xa m c l ya m2 c2 lr w hl hr hcap hc1 hlr hrr hcap2 hc2 hwf).mono ?_
  rintro e w' ⟨K, D, R, M, G1, rfl, ha, hw, hu, hp, hm, hK⟩
  obtain ⟨x, y, z, k1, k2⟩ := hw
  obtain ⟨H, hH⟩ : ∃ H : Nat → Nat, H = fun b => if b < w.heap.size then G b else if G1 b = 1 then i else if G1 b = 2 then j else if G1 b = 3 then q else 0 := ⟨_, rfl⟩
  have hold : ∀ b, b < w.heap.size → H b = G b := fun b hb => by rw [hH]; exact if_pos hb
  have hnew : ∀ b v, v ≠ 0 → G1 b = v → ¬ b < w.heap.size := fun b v hv hb hlt => hv (by rw [← hb, ha.own b hlt])
  refine ⟨K, D, R, M, H, rfl, ha.relabel (fun _ _ h => h) hold, ⟨x, y, z, k1, ?_⟩, ⟨hu.relabel ?_, hp.relabel ?_, hm.relabel ?_⟩, ⟨hd.take _, ?_, ?_, ?_, banks2_ok, banks2_rng⟩⟩
  · rw [hH]; simp only []; rw [if_neg (by omega), if_neg (by rw [k2]; decide), if_neg (by rw [k2]; decide), if_neg (by rw [k2]; decide)]
  · intro b _ hb; rw [hH]; simp only []; rw [if_neg (hnew b 1 (by decide) hb), if_pos hb]
  · intro b _ hb; rw [hH]; simp only []; rw [if_neg (hnew b 2 (by decide) hb), if_neg (by rw [hb]; decide), if_pos hb]
  · intro b _ hb; rw [hH]; simp only []; rw [if_neg (hnew b 3 (by decide) hb), if_neg (by rw [hb]; decide), if_neg (by rw [hb]; decide), if_pos hb]
  · intro c hc
    obtain ⟨c', hc', rfl⟩ := List.mem_map.1 hc
    exact hR c' (List.mem_of_mem_take hc')
  · rw [List.length_take]; omega
  · rw [List.length_map, List.length_take]; omega
/-- Cells that lie in memory of nobody's. -/
def Has (w : World) (G : Nat → Nat) (b : Option Addr) (xs : List Value) : Prop := Reads w b xs ∧ ∀ ad, b = some ad → G ad.block = 0 ∧ ad.block < w.heap.size
theorem Has.adv {S : Nat → Prop} {w w' : World} {G G' : Nat → Nat} {b : Option Addr} {xs : List Value} (h : Has w G b xs) (ha : Adv S w G w' G') (h0 : ¬ S 0) : Has w' G' b xs :=
  ⟨h.1.adv ha fun ad e => by rw [(h.2 ad e).1]; exact h0, fun ad e => ⟨(ha.own _ (h.2 ad e).2).trans (h.2 ad e).1, Nat.lt_of_lt_of_le (h.2 ad e).2 ha.size⟩⟩
/-- The text of a memory with the banks 0 and 9. -/
def bk (m : MemS) (i : Nat) : List Int := (m.banks.getD i (0, [])).2
def textF (m : MemS) : ByteArray := imgS m (bk m 0) (bk m 1) 2
theorem text_any (G : Nat → Nat) (q D : Nat) (m : MemS) (hm : MemOk m) (hr : MemR m) (hn : m.tones.length ≤ 1000000) (hk : keysF m = [0, 9]) (w : World) (hp : PM w G q D m) :
    Calls Tryz.prog 33 #[.pointer (some ⟨D, 0, none⟩)] w fun e w' => e = .returned (.string (textF m)) ∧ ∃ G', Adv (fun _ => False) w G w' G' := by
  obtain ⟨b0, b1, hb⟩ := two_banks hk
  have h0 : bk m 0 = b0 := by unfold bk; rw [hb]; rfl
  have h1 : bk m 1 = b1 := by unfold bk; rw [hb]; rfl
  unfold textF
  rw [h0, h1]
  exact image_text G q D m hm hr hn 0 9 b0 b1 hb (by decide) (by decide) (by decide) w hp
def CellsFull (w : World) (G : Nat → Nat) (l : List Int) (e : Ending) (w' : World) : Prop := ∃ b G', e = .returned (.slice b l.length l.length) ∧ Adv (fun _ => False) w G w' G' ∧ Has w' G' b (cellsU l)
theorem cellsU_full (G : Nat → Nat) (i D : Nat) (l : List Int) (w : World) (hp : PU w G i D l) (h1 : l.length ≤ 256) : Calls Tryz.prog 30 #[.pointer (some ⟨D, 0, none⟩)] w (CellsFull w G l) := by
  by_cases h0 : l = []
  · subst h0
    refine (cellsPU_nil G i D w hp).mono fun e w' k => ?_
    obtain ⟨k1, rfl⟩ := k
    exact ⟨none, G, k1, Adv.refl _ _ _, .inl rfl, fun ad h => by cases h⟩
  · refine (cellsPU G i D l w hp h0 (by omega)).mono fun e w' k => ?_
    obtain ⟨k1, rfl⟩ := k
    exact ⟨_, own1 w G 0, k1, (Adv.refl _ w G).alloc _ 0, Reads.new w (cellsU l) 31, fun ad h => by cases h; exact ⟨own1_new _ _ _, by simp⟩⟩
def NewCellsK (w : World) (G : Nat → Nat) (l : List (Int × Int)) (e : Ending) (w' : World) : Prop := ∃ b c G', e = .returned (.slice b l.length c) ∧ Adv (fun _ => False) w G w' G' ∧ Reads w' b (cellsR l) ∧ (∀ ad, b = some ad → G' ad.block = 0 ∧ ad.block < w'.heap.size)
theorem cellsR_new (G : Nat → Nat) (i D : Nat) (l : List (Int × Int)) (w : World) (hp : PR w G i D l) (h1 : l.length ≤ 256) : Calls Tryz.prog 31 #[.pointer (some ⟨D, 0, none⟩)] w (NewCellsK w G l) := by
  by_cases h0 : l = []
  · subst h0
    refine (cellsPR_nil G i D w hp).mono fun e w' k => ?_
    obtain ⟨k1, rfl⟩ := k
    exact ⟨none, 0, G, k1, Adv.refl _ _ _, .inl rfl, fun ad h => by cases h⟩
  · refine (cellsPR G i D l w hp h0 (by omega)).mono fun e w' k => ?_
    obtain ⟨k1, rfl⟩ := k
    exact ⟨_, _, own1 w G 0, k1, (Adv.refl _ w G).alloc _ 0, Reads.new w (cellsR l) 111, fun ad h => by cases h; exact ⟨own1_new _ _ _, by simp⟩⟩
/-- Both worlds, the tables, and a primitive's row in block P. -/
structure KW (w : World) (G : Nat → Nat) (K D R M : Nat) (d : List Int) (r : List (Int × Int)) (m : MemS) (K2 D2 R2 M2 : Nat) (d2 : List Int) (r2 : List (Int × Int)) (m2 : MemS) (P k : Nat) : Prop where
  a : W6g w G 1 2 3 K D R M d r m
  b : W6g w G 5 6 7 K2 D2 R2 M2 d2 r2 m2
  tb : Tabs w G
  pr : w.heap[P]? = some (.cells #[.int .i64 k, .string (nameB k), .int .i64 (takesN k), .int .i64 (leavesN k), .int .i64 (costsN k), .bool (operandB k)] 85 (0, 0)) ∧ G P = 0
section
variable {w w' : World} {G G' : Nat → Nat} {K D R M : Nat} {d d' : List Int} {r r' : List (Int × Int)} {m m' : MemS} {K2 D2 R2 M2 : Nat} {d2 d2' : List Int} {r2 r2' : List (Int × Int)} {m2 m2' : MemS} {P k : Nat}
theorem KW.prm {S : Nat → Prop} (h : KW w G K D R M d r m K2 D2 R2 M2 d2 r2 m2 P k) (ha : Adv S w G w' G') (h0 : ¬ S 0) : w'.heap[P]? = some (.cells #[.int .i64 k, .string (nameB k), .int .i64 (takesN k), .int .i64 (leavesN k), .int .i64 (costsN k), .bool (operandB k)] 85 (0, 0)) ∧ G' P = 0 := by
  have hl : P < w.heap.size := (Array.getElem?_eq_some_iff.1 h.pr.1).1
  exact ⟨(ha.keep P hl (by rw [h.pr.2]; exact h0)).trans h.pr.1, (ha.own P hl).trans h.pr.2⟩
theorem KW.still (h : KW w G K D R M d r m K2 D2 R2 M2 d2 r2 m2 P k) (ha : Adv (fun _ => False) w G w' G') : KW w' G' K D R M d r m K2 D2 R2 M2 d2 r2 m2 P k := ⟨h.a.still ha, h.b.still ha, h.tb.adv ha id, h.prm ha id⟩
theorem KW.next1 (h : KW w G K D R M d r m K2 D2 R2 M2 d2 r2 m2 P k) (ha : Adv (S3 1 2 3) w G w' G') (ht : Trio w' G' 1 2 3 D R M d' r' m') (hg : Good3 d' r' m') : KW w' G' K D R M d' r' m' K2 D2 R2 M2 d2 r2 m2 P k :=
  ⟨h.a.next own123 ha ht hg, h.b.adv ha own123.zero (by unfold S3; decide) (by unfold S3; decide) (by unfold S3; decide), h.tb.adv ha own123.zero, h.prm ha own123.zero⟩
theorem KW.next2 (h : KW w G K D R M d r m K2 D2 R2 M2 d2 r2 m2 P k) (ha : Adv (S3 5 6 7) w G w' G') (ht : Trio w' G' 5 6 7 D2 R2 M2 d2' r2' m2') (hg : Good3 d2' r2' m2') : KW w' G' K D R M d r m K2 D2 R2 M2 d2' r2' m2' P k :=
  ⟨h.a.adv ha own567.zero (by unfold S3; decide) (by unfold S3; decide) (by unfold S3; decide), h.b.next own567 ha ht hg, h.tb.adv ha own567.zero, h.prm ha own567.zero⟩
/-- Do in the first world. -/
theorem KW.do1 (hk : k < 64) (hpl : plainB k = true) (h : KW w G K D R M d r m K2 D2 R2 M2 d2 r2 m2 P k) (hn : m.tones.length ≤ 99999) :
    Calls Tryz.prog 23 #[.int .i64 k, .pointer (some ⟨D, 0, none⟩), .pointer (some ⟨R, 0, none⟩), .pointer (some ⟨M, 0, none⟩)] w fun e w' => e = .returned (.int .i64 (faultF k d r)) ∧ ∃ G', Adv (S3 1 2 3) w G w' G' ∧ KW w' G' K D R M (doF k d r m).1 (doF k d r m).2.1 (doF k d r m).2.2 K2 D2 R2 M2 d2 r2 m2 P k :=
  (do_any k hk hpl G 1 2 3 D R M d r m own123 h.a.gd hn w h.tb h.a.tr).mono fun e w' hl => by
    obtain ⟨h1, G', h2, h3⟩ := hl
    exact ⟨h1, G', h2, h.next1 h2 h3 (doF_good k hk h.a.gd).1⟩
theorem KW.do2 (hk : k < 64) (hpl : plainB k = true) (h : KW w G K D R M d r m K2 D2 R2 M2 d2 r2 m2 P k) (hn : m2.tones.length ≤ 99999) :
    Calls Tryz.prog 23 #[.int .i64 k, .pointer (some ⟨D2, 0, none⟩), .pointer (some ⟨R2, 0, none⟩), .pointer (some ⟨M2, 0, none⟩)] w fun e w' => e = .returned (.int .i64 (faultF k d2 r2)) ∧ ∃ G', Adv (S3 5 6 7) w G w' G' ∧ KW w' G' K D R M d r m K2 D2 R2 M2 (doF k d2 r2 m2).1 (doF k d2 r2 m2).2.1 (doF k d2 r2 m2).2.2 P k :=
  (do_any k hk hpl G 5 6 7 D2 R2 M2 d2 r2 m2 own567 h.b.gd hn w h.tb h.b.tr).mono fun e w' hl => by
    obtain ⟨h1, G', h2, h3⟩ := hl
    exact ⟨h1, G', h2, h.next2 h2 h3 (doF_good k hk h.b.gd).1⟩
theorem KW.begin2 (x : Int) (hx : 0 ≤ x ∧ x < 256) (h : KW w G K D R M d r m K2 D2 R2 M2 d2 r2 m2 P k) :
    Calls Tryz.prog 28 #[.pointer (some ⟨M2, 0, none⟩), .int .u8 x] w fun e w' => e = .returned (.tuple #[]) ∧ ∃ G', Adv (S3 5 6 7) w G w' G' ∧ KW w' G' K D R M d r m K2 D2 R2 M2 d2 r2 (beginF m2 x) P k :=
  (begin_any G 7 M2 m2 h.b.gd.mo h.b.gd.mr x w h.b.tr.pm).mono fun e w' hl => by
    obtain ⟨h1, G', h2, h3⟩ := hl
    obtain ⟨h4, h5⟩ := h.b.tr.mem own567 h2 h3
    exact ⟨h1, G', h4, h.next2 h4 h5 ⟨h.b.gd.d16, h.b.gd.r16, h.b.gd.dl, h.b.gd.rl, beginF_ok h.b.gd.mo x, beginF_rng h.b.gd.mr hx⟩⟩
theorem KW.store2 (a x : Int) (ha : 0 ≤ a ∧ a < 65536) (hx : 0 ≤ x ∧ x < 256) (hn : m2.tones.length ≤ 99999) (h : KW w G K D R M d r m K2 D2 R2 M2 d2 r2 m2 P k) :
    Calls Tryz.prog 29 #[.pointer (some ⟨M2, 0, none⟩), .int .u16 a, .int .u8 x] w fun e w' => e = .returned (.tuple #[]) ∧ ∃ G', Adv (S3 5 6 7) w G w' G' ∧ KW w' G' K D R M d r m K2 D2 R2 M2 d2 r2 (storeF m2 a x) P k :=
  (h.b.tr.store own567 h.b.gd.mo hn a ha.1 ha.2 x).mono fun e w' hl => by
    obtain ⟨h1, G', h2, h3⟩ := hl
    exact ⟨h1, G', h2, h.next2 h2 h3 ⟨h.b.gd.d16, h.b.gd.r16, h.b.gd.dl, h.b.gd.rl, storeF_ok _ h.b.gd.mo _ _, storeF_rng h.b.gd.mr _ hx⟩⟩
end
end Go.Proofs.YtdnalhjdmlkbmaaGreatDoor
namespace Go.Proofs.YtdnalhjdmlkbmaaGreatDoor
open Go.RowKit
set_option linter.unusedVariables false
/-- Both sides hold l, r, m. -/
structure S6 (w : World) (G : Nat → Nat) (K D R M X Y Z : Nat) (l : List Int) (r : List (Int × Int)) (m : MemS) : Prop where
  hw : W6h w G K D R M X Y Z
  pu : PU w G 1 D l
  pr : PR w G 2 R r
  pm : PM w G 3 M m
  eu : EU w G 9 X l
  er : ER w G 8 Y r
  rm : RM w G 11 Z m
  gd : Good3 l r m
section
variable {w w' : World} {G G' : Nat → Nat} {K D R M X Y Z : Nat} {l : List Int} {r : List (Int × Int)} {m : MemS}
theorem W6h.still (h : W6h w G K D R M X Y Z) (ha : Adv (fun _ => False) w G w' G') : W6h w' G' K D R M X Y Z := by
  have hl : K < w.heap.size := (Array.getElem?_eq_some_iff.1 h.1).1
  exact ⟨(ha.keep K hl id).trans h.1, (ha.own K hl).trans h.2⟩
theorem S6.still (h : S6 w G K D R M X Y Z l r m) (ha : Adv (fun _ => False) w G w' G') : S6 w' G' K D R M X Y Z l r m :=
  ⟨h.hw.still ha, h.pu.adv ha id, h.pr.adv ha id, h.pm.adv ha id, h.eu.adv ha id, h.er.adv ha id, h.rm.adv ha (fun _ _ => id), h.gd⟩
theorem S6.cells (h : S6 w G K D R M X Y Z l r m) : w.cell? ⟨K, 0, none⟩ = some (.pointer (some ⟨D, 0, none⟩)) ∧ w.cell? ⟨K, 1, none⟩ = some (.pointer (some ⟨R, 0, none⟩)) ∧ w.cell? ⟨K, 2, none⟩ = some (.pointer (some ⟨M, 0, none⟩)) :=
  ⟨block_cell h.hw.1 0 _ rfl, block_cell h.hw.1 1 _ rfl, block_cell h.hw.1 2 _ rfl⟩
theorem S6.refs (h : S6 w G K D R M X Y Z l r m) : w.cell? ⟨K, 3, none⟩ = some (.pointer (some ⟨X, 0, none⟩)) ∧ w.cell? ⟨K, 4, none⟩ = some (.pointer (some ⟨Y, 0, none⟩)) ∧ w.cell? ⟨K, 5, none⟩ = some (.pointer (some ⟨Z, 0, none⟩)) :=
  ⟨block_cell h.hw.1 3 _ rfl, block_cell h.hw.1 4 _ rfl, block_cell h.hw.1 5 _ rfl⟩
end
theorem EU.read {w : World} {G : Nat → Nat} {i D : Nat} {l : List Int} (h : EU w G i D l) : ∃ a c, w.cell? ⟨D, 0, none⟩ = some (.slice a l.length c) ∧ Reads w a (cellsU l) := by
  obtain ⟨v, h⟩ := h
  obtain ⟨a, c, rfl⟩ := h.slice
  exact ⟨a, c, h.cell, h.row'.reads⟩
theorem ER.read {w : World} {G : Nat → Nat} {i D : Nat} {l : List (Int × Int)} (h : ER w G i D l) : ∃ a c, w.cell? ⟨D, 0, none⟩ = some (.slice a l.length c) ∧ Reads w a (cellsR l) := by
  obtain ⟨v, h⟩ := h
  obtain ⟨a, c, rfl⟩ := h.slice
  exact ⟨a, c, h.cell, h.row'.reads⟩
set_option maxRecDepth 100000 in
set_option maxHeartbeats 2000000 in
theorem stacks_any (G : Nat → Nat) (K D R M X Y Z : Nat) (l : List Int) (r : List (Int × Int)) (m : MemS) (w : World) (hs : S6 w G K D R M X Y Z l r m) :
    Calls Tryz.prog 25 #[.pointer (some ⟨K, 0, none⟩)] w fun e w' => e = .returned (.bool true) ∧ ∃ G', Adv (fun _ => False) w G w' G' := by
  have hdr := (Adv.refl (fun _ => False) w G).drew
  have AC := Lib.hid hdr
  have HC := Lib.hid (hs.still hdr)
  have QC := HC.out.cells
  have hl9 := hs.gd.dl
  have hr9 := hs.gd.rl
  obtain ⟨n, hn⟩ : ∃ v, v = l.length := ⟨_, rfl⟩
  obtain ⟨k, hk⟩ : ∃ v, v = r.length := ⟨_, rfl⟩
  rw [← hn] at hl9
  rw [← hk] at hr9
  have HN := Lib.hid hn
  have HK := Lib.hid hk
  clear hdr hs hn hk
  go_enter Tryz.func25, Tryz.ntmps25
  go_upto_region 1 with fail
  go_region_held3 (fun w' => w'.cell? ⟨K, 0, none⟩ = some (.pointer (some ⟨D, 0, none⟩)) ∧ w'.cell? ⟨K, 1, none⟩ = some (.pointer (some ⟨R, 0, none⟩)) ∧ w'.cell? ⟨K, 2, none⟩ = some (.pointer (some ⟨M, 0, none⟩))) (first | with_reducible exact QC | with_reducible assumption)
    (first | (go_at_call 30; refine (cellsU_full _ 1 D l _ HC.out.pu HC.out.gd.dl).mono ?_; rintro e wz ⟨bA, Gz, rfl, az, rz⟩; have AC := Lib.hid (AC.out.trans az); have HC := Lib.hid (HC.out.still az); have RA := Lib.hid rz; (try (have RB := Lib.hid (RB.out.adv az id))); have QC := HC.out.cells; clear az rz) | (go_at_call 31; refine (cellsR_new _ 2 R r _ HC.out.pr (by have := HC.out.gd.rl; omega)).mono ?_; rintro e wz ⟨bB, kB, Gz, rfl, az, rz, oz⟩; have AC := Lib.hid (AC.out.trans az); have HC := Lib.hid (HC.out.still az); have RB := Lib.hid (show Has _ _ _ _ from ⟨rz, oz⟩); (try (have RA := Lib.hid (RA.out.adv az id))); have QC := HC.out.cells; clear az rz oz))
  obtain ⟨q3, q4, -⟩ := HC.out.refs
  obtain ⟨xa, xc, x0, xr⟩ := HC.out.eu.read
  obtain ⟨ya, yc, y0, yr⟩ := HC.out.er.read
  rw [← HN.out] at x0 ⊢
  rw [← HK.out] at y0 ⊢
  have XR := Lib.hid xr
  have YR := Lib.hid yr
  clear xr yr QC
  go_wp2_with fail
  refine (sameU_any bA xa n n n xc l l _ HN.out.symm HN.out.symm (by omega) (by omega) RA.out.1 XR.out).mono ?_
  rintro e w' ⟨rfl, q, rfl⟩
  rw [decide_eq_true (rfl : l = l)]
  go_wp2_with fail
  refine (sameR_any bB ya k kB k yc r r _ HK.out.symm HK.out.symm (by omega) (by omega) (RB.out.1.adv ((Adv.refl (fun _ => False) wz Gz).drewN q) (fun _ _ => id)) (YR.out.adv ((Adv.refl (fun _ => False) wz Gz).drewN q) (fun _ _ => id))).mono ?_
  rintro e w' ⟨rfl, q2, rfl⟩
  rw [decide_eq_true (rfl : r = r)]
  go_wp2
  go_ret
  exact ⟨rfl, Gz, AC.out.drewN (q + q2)⟩
end Go.Proofs.YtdnalhjdmlkbmaaGreatDoor
namespace Go.Proofs.YtdnalhjdmlkbmaaGreatDoor
open Go.RowKit
set_option linter.unusedVariables false
theorem do_not (op : Int) (hp : plainB op = false) (a b c : Option Addr) (w : World) : Calls Tryz.prog 23 #[.int .i64 op, .pointer a, .pointer b, .pointer c] w fun e w' => e = .returned (.int .i64 6) ∧ w = w' := by
  go_enter Tryz.func23, Tryz.ntmps23
  go_wp2_with fail
  refine (plain_any op _).mono ?_
  rintro e w' ⟨rfl, rfl⟩
  rw [hp]
  go_wp2
  go_ret
  exact ⟨rfl, rfl⟩
theorem do_nil1 (op : Int) (b c : Option Addr) (w : World) : Calls Tryz.prog 23 #[.int .i64 op, .pointer none, .pointer b, .pointer c] w fun e w' => e = .returned (.int .i64 6) ∧ w = w' := by
  by_cases hp : plainB op = true
  · go_enter Tryz.func23, Tryz.ntmps23
    go_wp2_with fail
    refine (plain_any op _).mono ?_
    rintro e w' ⟨rfl, rfl⟩
    rw [hp]
    go_wp2
    go_ret
    exact ⟨rfl, rfl⟩
  · exact do_not op (by simpa using hp) _ _ _ w
theorem do_nil2 (op : Int) (D : Nat) (c : Option Addr) (w : World) : Calls Tryz.prog 23 #[.int .i64 op, .pointer (some ⟨D, 0, none⟩), .pointer none, .pointer c] w fun e w' => e = .returned (.int .i64 6) ∧ w = w' := by
  by_cases hp : plainB op = true
  · go_enter Tryz.func23, Tryz.ntmps23
    go_wp2_with fail
    refine (plain_any op _).mono ?_
    rintro e w' ⟨rfl, rfl⟩
    rw [hp]
    go_wp2
    go_ret
    exact ⟨rfl, rfl⟩
  · exact do_not op (by simpa using hp) _ _ _ w
theorem do_nil3 (op : Int) (D R : Nat) (w : World) : Calls Tryz.prog 23 #[.int .i64 op, .pointer (some ⟨D, 0, none⟩), .pointer (some ⟨R, 0, none⟩), .pointer none] w fun e w' => e = .returned (.int .i64 6) ∧ w = w' := by
  by_cases hp : plainB op = true
  · go_enter Tryz.func23, Tryz.ntmps23
    go_wp2_with fail
    refine (plain_any op _).mono ?_
    rintro e w' ⟨rfl, rfl⟩
    rw [hp]
    go_wp2
    go_ret
    exact ⟨rfl, rfl⟩
  · exact do_not op (by simpa using hp) _ _ _ w
end Go.Proofs.YtdnalhjdmlkbmaaGreatDoor
namespace Go.Proofs.YtdnalhjdmlkbmaaGreatDoor
open Go.RowKit
set_option linter.unusedVariables false
theorem bornS (G : Nat → Nat) (xa : Option Addr) (m c : Nat) (l : List Int) (ya : Option Addr) (m2 c2 : Nat) (lr : List (Int × Int)) (w : World) (hl : l.length = m) (hr : Reads w xa (cellsU l)) (hcap : m ≤ c) (hc1 : c ≤ 9223372036854775807)
    (hlr : lr.length = m2) (hrr : Reads w ya (cellsR lr)) (hcap2 : m2 ≤ c2) (hc2 : c2 ≤ 9223372036854775807) (hwf : ∀ c ∈ lr, -9223372036854775808 ≤ c.1 ∧ c.1 ≤ 9223372036854775807) (hd : D16 l) (hR : R16 lr) :
    Calls Tryz.prog 9 #[.slice xa m c, .slice ya m2 c2] w fun e w' => ∃ K D R M X Y Z G', e = .returned (.pointer (some ⟨K, 0, none⟩)) ∧ Adv (fun _ => False) w G w' G' ∧ S6 w' G' K D R M X Y Z (l.take 256) ((lr.take 128).map normR) (newM banks2) := by
  refine (bornF G xa m c l ya m2 c2 lr w hl hr hcap hc1 hlr hrr hcap2 hc2 hwf).mono ?_
  rintro e w' ⟨K, D, R, M, X, Y, Z, G', rfl, ha, hw, h1, h2, h3, h4, h5, h6⟩
  refine ⟨K, D, R, M, X, Y, Z, G', rfl, ha, hw, h1, h2, h3, h4, h5, h6, ⟨hd.take _, ?_, ?_, ?_, banks2_ok, banks2_rng⟩⟩
  · intro c hc
    obtain ⟨c', hc', rfl⟩ := List.mem_map.1 hc
    exact hR c' (List.mem_of_mem_take hc')
  · rw [List.length_take]; omega
  · rw [List.length_map, List.length_take]; omega
set_option maxRecDepth 100000 in
set_option maxHeartbeats 4000000 in
theorem none_any (op : Int) (xa : Option Addr) (m c : Nat) (l : List Int) (ya : Option Addr) (m2 c2 : Nat) (lr : List (Int × Int)) (w : World) (ht : Tabs w (fun _ => 0)) (hl : l.length = m) (hr : Reads w xa (cellsU l)) (hcap : m ≤ c) (hc1 : c ≤ 9223372036854775807)
    (hlr : lr.length = m2) (hrr : Reads w ya (cellsR lr)) (hcap2 : m2 ≤ c2) (hc2 : c2 ≤ 9223372036854775807) (hwf : ∀ c ∈ lr, -9223372036854775808 ≤ c.1 ∧ c.1 ≤ 9223372036854775807) (hd : D16 l) (hR : R16 lr) :
    Calls Tryz.prog 5 #[.int .i64 op, .slice xa m c, .slice ya m2 c2] w fun e w' => e = .returned (.bool true) ∧ ∃ G', Adv (fun _ => False) w (fun _ => 0) w' G' := by
  have BORN := Lib.hid (bornS (fun _ => 0) xa m c l ya m2 c2 lr w hl hr hcap hc1 hlr hrr hcap2 hc2 hwf hd hR)
  have HT := Lib.hid ht
  obtain ⟨d0, hd0⟩ : ∃ d, d = l.take 256 := ⟨_, rfl⟩
  obtain ⟨r0, hr0⟩ : ∃ r, r = (lr.take 128).map normR := ⟨_, rfl⟩
  obtain ⟨m0, hm0⟩ : ∃ m, m = newM banks2 := ⟨_, rfl⟩
  rw [← hd0, ← hr0, ← hm0] at BORN
  have hz0 : m0.tones.length ≤ 1000000 ∧ keysF m0 = [0, 9] := by
    rw [hm0]
    refine ⟨?_, rfl⟩
    show 0 ≤ 1000000
    omega
  have Z0 := Lib.hid hz0
  clear ht hl hr hcap hc1 hlr hrr hcap2 hc2 hwf hd hR hd0 hr0 hm0 hz0
  go_enter Tryz.func5, Tryz.ntmps5
  go_wp2_with fail
  refine BORN.out.mono ?_
  rintro e w1 ⟨K, D, R, M, X, Y, Z, G1, rfl, a1, h1⟩
  have A1 := Lib.hid a1
  have H1 := Lib.hid h1
  have HT1 := Lib.hid (HT.out.adv (Zo.of a1 id) id)
  clear a1 h1
  go_wp2_with fail
  refine (fixed_any G1 w1 HT1.out).mono ?_
  rintro e w2 ⟨rfl, G2, a2⟩
  have hdr := (Adv.refl (fun _ => False) w2 G2).drew
  have AC := Lib.hid (A1.out.trans (a2.trans hdr))
  have HC := Lib.hid ((H1.out.still a2).still hdr)
  have QC := HC.out.cells
  clear a2 hdr A1 H1
  go_upto_region 4 with fail
  go_region_held3 (fun w' => w'.cell? ⟨K, 0, none⟩ = some (.pointer (some ⟨D, 0, none⟩)) ∧ w'.cell? ⟨K, 1, none⟩ = some (.pointer (some ⟨R, 0, none⟩)) ∧ w'.cell? ⟨K, 2, none⟩ = some (.pointer (some ⟨M, 0, none⟩))) (first | with_reducible exact QC | with_reducible assumption)
    (first | (go_at_call 23; refine (do_nil1 op _ _ _).mono ?_; rintro e wz ⟨rfl, rfl⟩))
  obtain ⟨w3, hw3⟩ : ∃ v, v = w2.drew := ⟨_, rfl⟩
  rw [← hw3] at AC HC QC ⊢
  clear hw3
  have hdr := (Adv.refl (fun _ => False) w3 G2).drew
  have AC := Lib.hid (AC.out.trans hdr)
  have HC := Lib.hid (HC.out.still hdr)
  have QC := HC.out.cells
  clear hdr
  go_upto_region 5 with fail
  go_region_held3 (fun w' => w'.cell? ⟨K, 0, none⟩ = some (.pointer (some ⟨D, 0, none⟩)) ∧ w'.cell? ⟨K, 1, none⟩ = some (.pointer (some ⟨R, 0, none⟩)) ∧ w'.cell? ⟨K, 2, none⟩ = some (.pointer (some ⟨M, 0, none⟩))) (first | with_reducible exact QC | with_reducible assumption)
    (first | (go_at_call 23; refine (do_nil2 op D _ _).mono ?_; rintro e wz ⟨rfl, rfl⟩))
  obtain ⟨w4, hw4⟩ : ∃ v, v = w3.drew := ⟨_, rfl⟩
  rw [← hw4] at AC HC QC ⊢
  clear hw4
  have hdr := (Adv.refl (fun _ => False) w4 G2).drew
  have AC := Lib.hid (AC.out.trans hdr)
  have HC := Lib.hid (HC.out.still hdr)
  have QC := HC.out.cells
  clear hdr
  go_upto_region 6 with fail
  go_region_held3 (fun w' => w'.cell? ⟨K, 0, none⟩ = some (.pointer (some ⟨D, 0, none⟩)) ∧ w'.cell? ⟨K, 1, none⟩ = some (.pointer (some ⟨R, 0, none⟩)) ∧ w'.cell? ⟨K, 2, none⟩ = some (.pointer (some ⟨M, 0, none⟩))) (first | with_reducible exact QC | with_reducible assumption)
    (first | (go_at_call 23; refine (do_nil3 op D R _).mono ?_; rintro e wz ⟨rfl, rfl⟩))
  obtain ⟨w5, hw5⟩ : ∃ v, v = w4.drew := ⟨_, rfl⟩
  rw [← hw5] at AC HC QC ⊢
  clear hw5 QC
  go_wp2_with fail
  refine (do_nil1 op _ _ _).mono ?_
  rintro e wz ⟨rfl, rfl⟩
  go_wp2_with fail
  go_loopw [12] (fun v wr => ∃ k : Int, -1 ≤ k ∧ k ≤ 66 ∧ v = .int .i64 k ∧ ∃ Gr, Adv (fun _ => False) w (fun _ => 0) wr Gr ∧ S6 wr Gr K D R M X Y Z d0 r0 m0) (fun v _ => (66 - intOf v).toNat)
  case atStart => exact ⟨-1, by omega, by omega, rfl, G2, AC.out, HC.out⟩
  case round =>
    obtain ⟨k, hk0, hk, rfl, Gr, ar, hs⟩ := hrel
    by_cases hlt : k < 66
    · have hdr := (Adv.refl (fun _ => False) wr Gr).drew
      have AR := Lib.hid ar
      have HR := Lib.hid hs
      have AD := Lib.hid (ar.trans hdr)
      have HD := Lib.hid (hs.still hdr)
      clear ar hs hdr
      go_wp2_with fail
      refine (plain_any k _).mono ?_
      rintro e w' ⟨rfl, rfl⟩
      by_cases hpl : plainB k = true
      · rw [hpl]
        clear hpl
        go_wp2
        go_roundw
        case rel => exact ⟨k + 1, by omega, by omega, by go_num, Gr, AR.out, HR.out⟩
        case measure => simp [intOf]; omega
      · have hpl : plainB k = false := by simpa using hpl
        rw [hpl]
        have HPL := Lib.hid hpl
        have QC := HD.out.cells
        clear hpl
        go_upto_region 15 with fail
        go_region_held3 (fun w' => w'.cell? ⟨K, 0, none⟩ = some (.pointer (some ⟨D, 0, none⟩)) ∧ w'.cell? ⟨K, 1, none⟩ = some (.pointer (some ⟨R, 0, none⟩)) ∧ w'.cell? ⟨K, 2, none⟩ = some (.pointer (some ⟨M, 0, none⟩))) (first | with_reducible exact QC | with_reducible assumption)
          (first | (go_at_call 23; refine (do_not k HPL.out _ _ _ _).mono ?_; rintro e wz ⟨rfl, rfl⟩))
        go_wp2
        go_roundw
        case rel => exact ⟨k + 1, by omega, by omega, by go_num, Gr, AD.out, HD.out⟩
        case measure => simp [intOf]; omega
    · have AR := Lib.hid ar
      have HR := Lib.hid hs
      clear ar hs
      go_wp2_with fail
      refine (stacks_any Gr K D R M X Y Z d0 r0 m0 wr HR.out).mono ?_
      rintro e w6 ⟨rfl, G6, a6⟩
      have A6 := Lib.hid (AR.out.trans a6)
      have H6 := Lib.hid (HR.out.still a6)
      clear a6
      go_wp2_with fail
      refine (memories_any G6 3 11 K D R M X Y Z m0 H6.out.gd.mo Z0.out.2 Z0.out.1 w6 H6.out.hw H6.out.pm H6.out.rm).mono ?_
      rintro e w7 ⟨rfl, G7, a7⟩
      have A7 := Lib.hid (A6.out.trans a7)
      clear a7
      go_wp2
      go_ret
      exact ⟨rfl, G7, A7.out⟩
end Go.Proofs.YtdnalhjdmlkbmaaGreatDoor
