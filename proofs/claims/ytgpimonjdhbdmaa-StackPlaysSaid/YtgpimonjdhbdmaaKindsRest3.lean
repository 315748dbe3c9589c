/- What StackKinds does at its end. -/
import Derived.Test.YtgpimonjdhbdmaaSame
import Derived.Deep.RegionHeld3
import Derived.Deep.DeepCutAuto
import Derived.Deep.CutBlock
import Derived.Deep.LoopGhost
namespace Go.Proofs.Ytgpimonjdhbdmaa
open Go.RowKit

theorem wrap_ne (x : Int) : wrap64 (x + 1) ≠ x := by unfold wrap64; omega
theorem at_own {L : List (Int × Int)} {i j N : Nat} {x : Int × Int} (h : i + j + 1 = N) (hL : L.length = N) (hx : L[j]? = some x) : atV L i x.1 = x.2 ∧ atE L i x.1 = 0 := by
  rw [atV_in (by omega) hx, atE_in (by omega) hx]; simp
theorem at_not {L : List (Int × Int)} {i j N : Nat} {x : Int × Int} {k : Int} (h : i + j + 1 = N) (hL : L.length = N) (hx : L[j]? = some x) (hk : k ≠ x.1) : atV L i k = 0 ∧ atE L i k = 5 := by
  rw [atV_in (by omega) hx, atE_in (by omega) hx, if_neg (Ne.symm hk), if_neg (Ne.symm hk)]; exact ⟨rfl, rfl⟩
theorem Reads.takeR {w : World} {a : Option Addr} {l : List (Int × Int)} (h : Reads w a (cellsR l)) (n : Nat) : Reads w a (cellsR (l.take n)) := by
  have e : cellsR l = cellsR (l.take n) ++ cellsR (l.drop n) := by rw [← cellsR_append, List.take_append_drop]
  by_cases he : cellsR (l.take n) = []
  · exact .inl he
  · obtain ⟨b, o, rfl, hr, _⟩ := h.some (fun e2 => he (by rw [e] at e2; exact (List.append_eq_nil_iff.1 e2).1))
    refine .inr ⟨b, o, rfl, fun j u hu => hr j u ?_⟩
    rw [e, List.getElem?_append_left (List.getElem?_eq_some_iff.1 hu).1]; exact hu

theorem pushPR_any (G : Nat → Nat) (i D : Nat) (l m : List (Int × Int)) (xa : Option Addr) (n c : Nat) (w : World) (hp : PR w G i D l) (hl : l.length ≤ 128) (hn : m.length = n) (hr : Reads w xa (cellsR m)) (hb : n ≤ 9223372036854775807 := by omega) :
    Calls Try.prog 13 #[.pointer (some ⟨D, 0, none⟩), .slice xa n c] w fun e w' => ∃ f : Int, e = .returned (.int .i64 f) ∧ ∃ G', Adv (· = i) w G w' G' := by
  by_cases h : l.length + n ≤ 128
  · exact (pushPR G i D l m xa n c w hp hn h hr).mono fun e w' h => ⟨0, h.1, h.2.imp fun _ h => h.1⟩
  · refine (pushPR_no G i D l xa n c w hp hl hb (by omega)).mono ?_
    rintro e w' ⟨rfl, rfl⟩
    exact ⟨4, rfl, G, Adv.refl _ _ _⟩
noncomputable def kindsTail3 : Code := (codeTail 28 (Try.f4.body.getD .skip)).getD .skip

set_option maxHeartbeats 2000000 in
set_option maxRecDepth 1000000 in
theorem stackKinds_rest3 (w ws : World) (G3 : Nat → Nat) (b o N m c' R B gl : Nat) (x : Int) (L L0 : List (Int × Int)) (t : Int × Int) (HL : Hid (L.length = N)) (HLT : Hid (L = L0 ++ [t])) (HL0 : Hid (L0.length = m)) (HM : Hid (m + 1 = N)) (HLR : Hid (Reads w (some ⟨b, o, none⟩) (cellsR L)))
    (hN : N ≤ 128) (HA : Hid (Adv (· = 2) w (fun _ => 0) ws G3)) (HP : Hid (PR ws G3 2 R (L0 ++ [(t.1, x)]))) (HB : ws.cell? ⟨B, 0, none⟩ = some (.int .i64 t.1)) (HBo : Hid (G3 B ≠ 2)) (HG : Hid (Reads ws (some ⟨gl, 0, none⟩) (cellsR (L0 ++ [(t.1, x)])))) (HGo : Hid (G3 gl ≠ 2))
    {u1 u2 u4 u5 u6 u7 u8 u10 u11 u12 u13 u14 u15 u16 u17 u18 u19 u21 u22 u24 u25 u26 u27 u28 u29 u30 u31 u32 u33 u34 u35 u36 u37 u38 u39 u40 u41 u42 u43 u44 u45 u46 u47 u48 u49 u50 u51 u52 u53 u54 u55 u56 u57 u58 u59 u60 u61 u62 u63 u64 u65 u66 u67 u68 u69 u70 u71 u72 u73 u74 u75 u76 u77 u78 u79 u80 u81 u82 u83 u84 u85 u86 u87 u88 u89 u90 u91 u92 u93 u94 u95 u96 u97 u98 u99 u100 u101 u102 u103 u104 u105 u106 u107 u108 u109 u110 u111 u112 u113 u114 u115 u116 u117 u118 u119 u120 u121 u122 u123 u124 u125 u126 u127 u128 u129 u130 u131 u132 u133 u134 u135 u136 u137 u138 u139 u140 u141 u142 u143 u144 u145 u146 u147 u148 u149 u150 u151 u152 u153 u154 u155 u156 u157 u158 u159 u160 u161 u162 u163 u164 u165 u166 u167 u168 u169 u170 u171 u172 u173 u174 u175 u176 u177 u178 u179 u180 u181 u182 u183 u184 u185 u186 u187 u188 u189 u190 u191 u192 u193 u194 u195 u196 u197 u198 u199 u200 u201 u202 u203 u204 u205 u206 u207 u208 u209 u210 u211 u212 u213 u214 u215 u216 u217 u218 u219 u220 u221 u222 u223 u224 u225 u226 u227 u228 u229 u230 u231 u232 u233 u234 u235 u236 u237 u238 u239 u240 u241 u242 u243 u244 u245 : Value} :
    Code.wp Try.prog kindsTail3 (bodyPost Try.prog Try.f4 fun e w' => e = .returned (.bool true) ∧ Below w.heap.size w w')
      ⟨#[.slice (some ⟨b, o, none⟩) N c', u1, u2, .int .u16 x, u4, u5, u6, u7, u8, .pointer (some ⟨R, 0, none⟩), u10, u11, u12, u13, u14, u15, u16, u17, u18, u19, .pointer (some ⟨B, 0, none⟩), u21, u22, .slice (some ⟨gl, 0, none⟩) N N, u24, u25, u26, u27, u28, u29, u30, u31, u32, u33, u34, u35, u36, u37, u38, u39, u40, u41, u42, u43, u44, u45, u46, u47, u48, u49, u50, u51, u52, u53, u54, u55, u56, u57, u58, u59, u60, u61, u62, u63, u64, u65, u66, u67, u68, u69, u70, u71, u72, u73, u74, u75, u76, u77, u78, u79, u80, u81, u82, u83, u84, u85, u86, u87, u88, u89, u90, u91, u92, u93, u94, u95, u96, u97, u98, u99, u100, u101, u102, u103, u104, u105, u106, u107, u108, u109, u110, u111, u112, u113, u114, u115, u116, u117, u118, u119, u120, u121, u122, u123, u124, u125, u126, u127, u128, u129, u130, u131, u132, u133, u134, u135, u136, u137, u138, u139, u140, u141, u142, u143, u144, u145, u146, u147, u148, u149, u150, u151, u152, u153, u154, u155, u156, u157, u158, u159, u160, u161, u162, u163, u164, u165, u166, u167, u168, u169, u170, u171, u172, u173, u174, u175, u176, u177, u178, u179, u180, u181, u182, u183, u184, u185, u186, u187, u188, u189, u190, u191, u192, u193, u194, u195, u196, u197, u198, u199, u200, u201, u202, u203, u204, u205, u206, u207, u208, u209, u210, u211, u212, u213, u214, u215, u216, u217, u218, u219, u220, u221, u222, u223, u224, u225, u226, u227, u228, u229, u230, u231, u232, u233, u234, u235, u236, u237, u238, u239, u240, u241, u242, u243, u244, u245], []⟩ ws := by
  conv => arg 2; whnf
  dsimp only
  have HLRs := Lib.hid (HLR.out.adv HA.out (fun _ _ => by omega))
  have hN1 : Hid ((L0 ++ [(t.1, x)]).length = N) := by show _ = N; simp; have := HL0.out; have := HM.out; omega
  go_upto_block 2 with fail
  go_cut [] (fun wx => ∃ d, wx = ws.drewN d)
  case first =>
    go_wp2_with fail
    go_loopw [24] (fun s24 wr => ∃ i : Nat, i + 1 ≤ N ∧ s24 = .int .i64 i ∧ ∃ d, wr = ws.drewN d) (fun s24 _ => N - (intOf s24).toNat)
    case atStart => exact ⟨0, by have := HM.out; omega, rfl, 0, rfl⟩
    case round =>
      obtain ⟨i, hi, rfl, d, rfl⟩ := hrel
      by_cases hlt : i + 1 < N
      · have hd : decide ((i : Int) + 1 < (N : Int)) = true := by simp; omega
        obtain ⟨y, hy⟩ : ∃ y, L0[i]? = some y := ⟨L0[i]'(by have := HL0.out; have := HM.out; omega), by simp⟩
        have hil : i < L0.length := (List.getElem?_eq_some_iff.1 hy).1
        obtain ⟨gb, go, e1, hx1, hx2, _⟩ := HG.out.atR i y (by rw [List.getElem?_append_left hil]; exact hy)
        obtain ⟨bb, bo, e2, hy1, hy2, _⟩ := HLRs.out.atR i y (by rw [HLT.out, List.getElem?_append_left hil]; exact hy)
        simp only [Option.some.injEq, Addr.mk.injEq, and_true] at e1 e2
        obtain ⟨rfl, rfl⟩ := e1
        rw [Nat.zero_add] at hx1 hx2
        obtain ⟨rfl, rfl⟩ := e2
        have hj0 : (0 : Int) ≤ (i : Int) := Int.natCast_nonneg _
        have hj1 : (i : Int) < (N : Int) := by omega
        have hE := eql43
        clear hy hil
        go_wp2_with fail
        go_quiet (fail)
        go_wp2
        go_roundw
        case rel => exact ⟨i + 1, by omega, by go_num, _, rfl⟩
        case measure => simp [intOf]; omega
      · have hd : decide ((i : Int) + 1 < (N : Int)) = false := by simp; omega
        go_wp2
        go_meet
        exact ⟨d, rfl⟩
  case rest =>
  obtain ⟨d, rfl⟩ := hcut
  go_wp2_with fail
  refine (popPR G3 2 R L0 (t.1, x) _ (HP.out.drewN d) (by have := HL0.out; have := HM.out; omega)).mono ?_
  rintro e w1 ⟨rfl, G4, ha, hp⟩
  have hB4 : w1.cell? ⟨B, 0, none⟩ = some (.int .i64 t.1) := ha.cell_some HB HBo.out
  have HA4 := Lib.hid ((HA.out.drewN d).trans ha)
  have HP4 := Lib.hid hp
  have HG4 := Lib.hid (HG.out.adv ((Adv.refl (fun i => i = 2) ws G3).drewN d |>.trans ha) (fun ad e => by cases e; exact HGo.out))
  have HSZ := Lib.hid ha.size
  have HGO4 : Hid (G4 gl = G3 gl) := by
    show G4 gl = G3 gl
    obtain ⟨gb, go, e1, _, hb⟩ := HG.out.some (by intro h; have h1 := congrArg List.length h; rw [cellsR_length, hN1.out] at h1; simp only [List.length_nil] at h1; have := HM.out; omega)
    cases e1
    exact ha.own gl hb
  clear ha hp HP HB
  go_upto_region 34 with fail
  go_cut [212] (fun s212 wx => s212 = .bool false ∧ ∃ d, wx = w1.drewN d)
  case first =>
    obtain ⟨gb, go, e1, hx1, hx2, _⟩ := HG4.out.atR m (t.1, x) (by rw [← HL0.out]; simp)
    simp only [Option.some.injEq, Addr.mk.injEq, and_true] at e1
    obtain ⟨rfl, rfl⟩ := e1
    rw [Nat.zero_add] at hx1 hx2
    have hE := eql43
    have hw1 : IntKind.i64.wrap ((N : Int) - 1) = (m : Int) := by
      rw [IntWalk.i64_in _ (by omega)]; have := HM.out; omega
    have hm0 : (0 : Int) ≤ (m : Int) := Int.natCast_nonneg _
    have hm1 : (m : Int) < (N : Int) := by have := HM.out; omega
    have hlc : ∀ q, Calls Try.prog 17 #[.pointer (some ⟨R, 0, none⟩)] (w1.drewN q) fun e w' => e = .returned (.int .i64 m) ∧ w' = w1.drewN q := fun q => (lenPR G4 2 R L0 _ (HP4.out.drewN q)).mono fun e w' h => ⟨by rw [h.1, HL0.out], h.2.symm⟩
    have HLC := Lib.hid hlc
    clear hlc
    go_quiet ((go_at_call 17; exact Calls.quiet_of_same (HLC.out _)))
    go_wp2_with fail
    go_meet
    exact ⟨rfl, _, rfl⟩
  case rest =>
  obtain ⟨rfl, d2, rfl⟩ := hcut
  have HA5 := Lib.hid (HA4.out.drewN d2)
  have HP5 := Lib.hid (HP4.out.drewN d2)
  have HG5 := Lib.hid (HG4.out.adv (G := G4) (S := fun _ => False) ((Adv.refl _ w1 G4).drewN d2) (fun _ _ => id))
  by_cases hgood : ∀ c ∈ L, 1 ≤ c.1 ∧ c.1 ≤ 4
  · have hgood1 : Hid (∀ c ∈ L0 ++ [(t.1, x)], 1 ≤ c.1 ∧ c.1 ≤ 4) := by
      show ∀ c ∈ L0 ++ [(t.1, x)], 1 ≤ c.1 ∧ c.1 ≤ 4
      intro c hc
      rw [HLT.out] at hgood
      rcases List.mem_append.1 hc with h | h
      · exact hgood c (List.mem_append_left _ h)
      · have e : c = (t.1, x) := by simpa using h
        rw [e]; exact hgood t (by simp)
    have hmay : Hid (mayB 0 L = true) := by
      show mayB 0 L = true
      have h1 : L.all (fun c => decide (1 ≤ c.1 ∧ c.1 ≤ 4)) = true := by
        rw [List.all_eq_true]
        exact fun y hy => by simpa using hgood y hy
      have h2 : decide (L.length ≤ 128) = true := by rw [HL.out]; simpa using hN
      unfold mayB; rw [h1, h2]; rfl
    clear hgood
    go_wp2_with fail
    refine (stacksP G4 5 3 none 0 0 [] (some ⟨gl, 0, none⟩) N N (L0 ++ [(t.1, x)]) _ rfl (by omega) (.inl rfl) hN1.out hN HG5.out hgood1.out).mono ?_
    rintro e w2 ⟨D, R2, G6, rfl, ha, hD, hR⟩
    have HA6 := Lib.hid (HA5.out.trans (ha.mono (fun _ h => h.elim)))
    have HP6 := Lib.hid (HP5.out.adv ha id)
    have HG6 := Lib.hid (HG5.out.adv ha (fun _ _ => id))
    have HS6 := Lib.hid hR
    have HGo6 : Hid (G6 gl ≠ 2 ∧ gl < w2.heap.size) := by
      show G6 gl ≠ 2 ∧ gl < w2.heap.size
      obtain ⟨gb, go, e1, _, hb⟩ := HG.out.some (by intro h; have h1 := congrArg List.length h; rw [cellsR_length, hN1.out] at h1; simp only [List.length_nil] at h1; have := HM.out; omega)
      cases e1
      have h2 : gl < (w1.drewN d2).heap.size := Nat.lt_of_lt_of_le (Nat.lt_of_lt_of_le hb (by simp [World.drewN])) HSZ.out
      exact ⟨by rw [ha.own gl h2, HGO4.out]; exact HGo.out, Nat.lt_of_lt_of_le h2 ha.size⟩
    clear ha hD hR
    go_wp2_with fail
    refine (may_any none (some ⟨b, o, none⟩) 0 0 N c' L _ HL.out (by omega) (by omega) (HLR.out.adv HA6.out (fun _ _ => by omega))).mono ?_
    rintro e w3 ⟨rfl, rfl⟩
    rw [hmay.out]
    go_wp2_with fail
    have hA7 := HA6.out.alloc (.cells #[.int .i64 1, .int .u16 5, .int .i64 2, .int .u16 6] 43) 0
    have hP7 := HP6.out.alloc (.cells #[.int .i64 1, .int .u16 5, .int .i64 2, .int .u16 6] 43) 0
    have hS7 := HS6.out.alloc (.cells #[.int .i64 1, .int .u16 5, .int .i64 2, .int .u16 6] 43) 0
    have hG7 := HG6.out.alloc (.cells #[.int .i64 1, .int .u16 5, .int .i64 2, .int .u16 6] 43)
    obtain ⟨G7, eG7⟩ : ∃ G7, G7 = own1 w2 G6 0 := ⟨_, rfl⟩
    rw [← eG7] at hA7 hP7 hS7
    have hGo7 : G7 gl ≠ 2 := by rw [eG7, own1_old HGo6.out.2]; exact HGo6.out.1
    have HA7 := Lib.hid hA7
    have HP7 := Lib.hid hP7
    have HS7 := Lib.hid hS7
    have HG7 := Lib.hid hG7
    have HGo7 := Lib.hid hGo7
    clear hA7 hP7 hS7 hG7 eG7 hGo7
    refine (pushPR_any G7 2 R L0 [(1, 5), (2, 6)] _ 2 2 _ HP7.out (by have := HL0.out; have := HM.out; omega) rfl (Reads.new w2 [.int .i64 1, .int .u16 5, .int .i64 2, .int .u16 6] 43)).mono ?_
    rintro e w4 ⟨f, rfl, G8, ha⟩
    have HA8 := Lib.hid (HA7.out.trans ha)
    have HS8 := Lib.hid (HS7.out.adv ha (by omega))
    have HG8 := Lib.hid (HG7.out.adv ha (fun ad e => by cases e; exact HGo7.out))
    clear ha
    go_wp2_with fail
    refine (lenPR G8 3 R2 (L0 ++ [(t.1, x)]) _ HS8.out).mono ?_
    rintro e w5 ⟨rfl, rfl⟩
    rw [hN1.out]
    go_wp2_with fail
    refine (cellsPR G8 3 R2 (L0 ++ [(t.1, x)]) _ HS8.out (by simp) (by rw [hN1.out]; omega)).mono ?_
    rintro e w5 ⟨rfl, rfl⟩
    rw [hN1.out]
    go_wp2_with fail
    refine (sameR_any _ _ N N N N (L0 ++ [(t.1, x)]) (L0 ++ [(t.1, x)]) _ hN1.out hN1.out (by omega) (by omega) (Reads.new w4 _ 43) (HG8.out.alloc _)).mono ?_
    rintro e w6 ⟨rfl, q, rfl⟩
    rw [decide_eq_true rfl]
    go_wp2_with fail
    go_ret
    exact ⟨rfl, ((HA8.out.alloc _ 0).drewN q).below (Nat.le_refl _) (fun _ _ => by omega)⟩
  · have hbad1 : Hid (∃ c ∈ L0 ++ [(t.1, x)], ¬ (1 ≤ c.1 ∧ c.1 ≤ 4)) := by
      show ∃ c ∈ L0 ++ [(t.1, x)], ¬ (1 ≤ c.1 ∧ c.1 ≤ 4)
      simp only [Classical.not_forall] at hgood
      obtain ⟨c, hc, hb⟩ := hgood
      rw [HLT.out] at hc
      rcases List.mem_append.1 hc with h | h
      · exact ⟨c, List.mem_append_left _ h, hb⟩
      · have e : c = t := by simpa using h
        exact ⟨(t.1, x), by simp, by rw [← e]; exact hb⟩
    have hmay : Hid (mayB 0 L = false) := by
      show mayB 0 L = false
      simp only [Classical.not_forall] at hgood
      obtain ⟨c, hc, hb⟩ := hgood
      have h1 : L.all (fun c => decide (1 ≤ c.1 ∧ c.1 ≤ 4)) = false := by
        rw [List.all_eq_false]
        exact ⟨c, hc, by simpa using hb⟩
      unfold mayB; rw [h1]; rfl
    clear hgood
    go_wp2_with fail
    refine (stacksP_no G4 none 0 0 [] (some ⟨gl, 0, none⟩) N N (L0 ++ [(t.1, x)]) _ rfl (by omega) (.inl rfl) hN1.out (by omega) HG5.out (.inr (.inr hbad1.out))).mono ?_
    rintro e w2 ⟨rfl, G6, ha⟩
    have HA6 := Lib.hid (HA5.out.trans (ha.mono (fun _ h => h.elim)))
    clear ha
    go_wp2_with fail
    refine (may_any none (some ⟨b, o, none⟩) 0 0 N c' L _ HL.out (by omega) (by omega) (HLR.out.adv HA6.out (fun _ _ => by omega))).mono ?_
    rintro e w3 ⟨rfl, rfl⟩
    rw [hmay.out]
    go_wp2_with fail
    go_ret
    exact ⟨rfl, HA6.out.below (Nat.le_refl _) (fun _ _ => by omega)⟩

end Go.Proofs.Ytgpimonjdhbdmaa
