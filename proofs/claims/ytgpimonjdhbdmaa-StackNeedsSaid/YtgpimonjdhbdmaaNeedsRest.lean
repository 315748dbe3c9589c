/- What StackNeeds does from the Push on. -/
import Derived.Test.YtgpimonjdhbdmaaPU
import Derived.Deep.RegionHeld3
import Derived.Deep.DeepCutAuto
import Derived.Deep.CutBlock
import Derived.Deep.LoopGhost
namespace Go.Proofs.Ytgpimonjdhbdmaa
open Go.RowKit

theorem reg_bool (a b : Int) (h : a = b) : (a != b) = false := by simp [h]
noncomputable def needsTail3 : Code := (codeTail 37 (Try.f3.body.getD .skip)).getD .skip

set_option maxHeartbeats 2000000 in
set_option maxRecDepth 1000000 in
theorem stackNeeds_rest3 (w ws : World) (G3 : Nat → Nat) (xa : Option Addr) (N c' k D F : Nat) (L : List Int) (HL : Hid (L.length = N)) (HLR : Hid (Reads w xa (cellsU L)))
    (hN256 : N ≤ 256) (HF : Hid (F + k = N)) (HA4 : Hid (Adv (· = 1) w (fun _ => 0) ws G3)) (HP4 : Hid (PU ws G3 1 D (L.take F)))
    {u1 u2 u3 u4 u5 u6 u7 u8 u10 u11 u12 u13 u15 u16 u17 u18 u19 u20 u21 u22 u23 u24 u25 u26 u27 u28 u29 u30 u31 u32 u33 u34 u35 u36 u37 u38 u39 u40 u41 u42 u43 u44 u45 u46 u47 u48 u49 u50 u51 u52 u53 u54 u55 u56 u57 u58 u59 u60 u61 u62 u63 u64 u65 u66 u67 u68 u69 u70 u71 u72 u73 u74 u75 u76 u77 u78 u79 u80 u81 u82 u83 u84 u85 u86 u87 u88 u89 u90 u91 u92 u93 u94 u95 u96 u97 u98 u99 u100 u101 u102 u103 u104 u105 u106 u107 u108 u109 u110 u111 u112 u113 u114 u115 u116 u117 u118 u119 u120 u121 u122 u123 u124 u125 u126 u127 u128 u129 u130 u131 u132 u133 u134 u135 u136 u137 u138 u139 u140 u141 u142 u143 u144 u145 u146 u147 u148 u149 u150 u151 u152 u153 u154 u155 u156 u157 u158 u159 u160 u161 u162 u163 u164 u165 u166 u167 u168 u169 u170 u171 u172 u173 u174 u175 u176 u177 u178 u179 u180 u181 u182 u183 u184 : Value} :
    Code.wp Try.prog needsTail3 (bodyPost Try.prog Try.f3 fun e w' => e = .returned (.bool true) ∧ Below w.heap.size w w')
      ⟨#[.slice xa N c', u1, u2, u3, u4, u5, u6, u7, u8, .pointer (some ⟨D, 0, none⟩), u10, u11, u12, u13, .int .i64 F, u15, u16, u17, u18, u19, u20, u21, u22, u23, u24, u25, u26, u27, u28, u29, u30, u31, u32, u33, u34, u35, u36, u37, u38, u39, u40, u41, u42, u43, u44, u45, u46, u47, u48, u49, u50, u51, u52, u53, u54, u55, u56, u57, u58, u59, u60, u61, u62, u63, u64, u65, u66, u67, u68, u69, u70, u71, u72, u73, u74, u75, u76, u77, u78, u79, u80, u81, u82, u83, u84, u85, u86, u87, u88, u89, u90, u91, u92, u93, u94, u95, u96, u97, u98, u99, u100, u101, u102, u103, u104, u105, u106, u107, u108, u109, u110, u111, u112, u113, u114, u115, u116, u117, u118, u119, u120, u121, u122, u123, u124, u125, u126, u127, u128, u129, u130, u131, u132, u133, u134, u135, u136, u137, u138, u139, u140, u141, u142, u143, u144, u145, u146, u147, u148, u149, u150, u151, u152, u153, u154, u155, u156, u157, u158, u159, u160, u161, u162, u163, u164, u165, u166, u167, u168, u169, u170, u171, u172, u173, u174, u175, u176, u177, u178, u179, u180, u181, u182, u183, u184], []⟩ ws := by
  conv => arg 2; whnf
  have hFN : F ≤ 256 := by have := HF.out; omega
  have hFN2 : F ≤ N := by have := HF.out; omega
  go_wp2
  go_loopw [20] (fun s20 wr => ∃ j : Nat, j ≤ F ∧ s20 = .int .i64 ((j : Int) - 1) ∧ ∃ Gr, Adv (· = 1) w (fun _ => 0) wr Gr ∧ PU wr Gr 1 D (L.take j)) (fun s20 _ => (intOf s20 + 1).toNat)
  case atStart => exact ⟨F, Nat.le_refl _, rfl, G3, HA4.out, HP4.out⟩
  case round =>
    obtain ⟨j, hj, rfl, Gr, har, hpr⟩ := hrel
    have HAR := Lib.hid har
    have HPR := Lib.hid hpr
    clear har hpr
    cases j with
    | zero =>
      rw [show ((0 : Nat) : Int) - 1 = -1 from rfl]
      have HP0 : Hid (PU wr Gr 1 D []) := by show PU wr Gr 1 D []; have h := HPR.out; simpa using h
      clear HPR
      go_wp2_with (first | (go_at_call 10; refine (lenPU Gr 1 D [] _ HP0.out).mono ?_; rintro e w' ⟨rfl, rfl⟩) | (go_at_call 11; refine (popPU_nil Gr 1 D _ HP0.out).mono ?_; rintro e w' ⟨rfl, rfl⟩))
      go_ret
      exact ⟨rfl, HAR.out.below (Nat.le_refl _) (fun _ _ => by omega)⟩
    | succ t =>
      rw [show ((t + 1 : Nat) : Int) - 1 = (t : Int) from by omega]
      obtain ⟨x, hxj⟩ : ∃ x, L[t]? = some x := ⟨L[t]'(by rw [HL.out]; omega), by simp⟩
      obtain ⟨b, o, rfl, hcell0, hb0⟩ := HLR.out.atU t x hxj
      have hcell := HAR.out.cell_some hcell0 (by show ¬ (0 = 1); omega)
      have hb : b < wr.heap.size := Nat.lt_of_lt_of_le hb0 HAR.out.size
      have hgb : Gr b ≠ 1 := by rw [HAR.out.own b hb0]; omega
      have hpop : PU wr Gr 1 D (L.take t ++ [x]) := by
        have h := HPR.out
        rw [List.take_add_one, hxj] at h
        exact h
      have HPOP := Lib.hid hpop
      have ht0 : (0 : Int) ≤ (t : Int) := Int.natCast_nonneg _
      have ht1 : (t : Int) < (N : Int) := by omega
      clear hpop hxj hcell0
      go_wp2_with fail
      go_region_held3 (fun w' => w'.cell? ⟨b, o + t, none⟩ = some (.int .u16 x)) (first | go_keep | exact HK.out) (((go_at_call 11; refine (popPU Gr 1 D (L.take t) x _ HPOP.out.drew).mono ?_; rintro e w' ⟨rfl, ha, hp⟩; have HK := Lib.hid ((ha.cell (p := ⟨b, o + t, none⟩) hb hgb).trans hcell); have HAJ := Lib.hid ha; have HPJ := Lib.hid hp; clear ha hp)))
      go_wp2
      go_roundw
      case rel => exact ⟨t, by omega, rfl, Gr, (HAR.out.drew).trans HAJ.out, HPJ.out⟩
      case measure => simp [intOf]

noncomputable def needsTail2 : Code := (codeTail 27 (Try.f3.body.getD .skip)).getD .skip

set_option maxHeartbeats 2000000 in
set_option maxRecDepth 1000000 in
theorem stackNeeds_rest2 (w ws : World) (G3 : Nat → Nat) (xa ya : Option Addr) (N c' k m c2 D F : Nat) (L ys : List Int) (HL : Hid (L.length = N)) (HLR : Hid (Reads w xa (cellsU L))) (HM : Hid (ys.length = m)) (HY : Hid (Reads w ya (cellsU ys)))
    (hmc : m ≤ c2) (hc2b : c2 ≤ 100000000000000) (hN256 : N ≤ 256) (HF : Hid (F + k = N)) (HA4 : Hid (Adv (· = 1) w (fun _ => 0) ws G3)) (HP4 : Hid (PU ws G3 1 D (L.take F)))
    {u1 u2 u4 u5 u6 u7 u8 u10 u11 u12 u13 u15 u16 u17 u18 u19 u20 u21 u22 u23 u24 u25 u26 u27 u28 u29 u30 u31 u32 u33 u34 u35 u36 u37 u38 u39 u40 u41 u42 u43 u44 u45 u46 u47 u48 u49 u50 u51 u52 u53 u54 u55 u56 u57 u58 u59 u60 u61 u62 u63 u64 u65 u66 u67 u68 u69 u70 u71 u72 u73 u74 u75 u76 u77 u78 u79 u80 u81 u82 u83 u84 u85 u86 u87 u88 u89 u90 u91 u92 u93 u94 u95 u96 u97 u98 u99 u100 u101 u102 u103 u104 u105 u106 u107 u108 u109 u110 u111 u112 u113 u114 u115 u116 u117 u118 u119 u120 u121 u122 u123 u124 u125 u126 u127 u128 u129 u130 u131 u132 u133 u134 u135 u136 u137 u138 u139 u140 u141 u142 u143 u144 u145 u146 u147 u148 u149 u150 u151 u152 u153 u154 u155 u156 u157 u158 u159 u160 u161 u162 u163 u164 u165 u166 u167 u168 u169 u170 u171 u172 u173 u174 u175 u176 u177 u178 u179 u180 u181 u182 u183 u184 : Value} :
    Code.wp Try.prog needsTail2 (bodyPost Try.prog Try.f3 fun e w' => e = .returned (.bool true) ∧ Below w.heap.size w w')
      ⟨#[.slice xa N c', u1, u2, .slice ya m c2, u4, u5, u6, u7, u8, .pointer (some ⟨D, 0, none⟩), u10, u11, u12, u13, .int .i64 F, u15, u16, u17, u18, u19, u20, u21, u22, u23, u24, u25, u26, u27, u28, u29, u30, u31, u32, u33, u34, u35, u36, u37, u38, u39, u40, u41, u42, u43, u44, u45, u46, u47, u48, u49, u50, u51, u52, u53, u54, u55, u56, u57, u58, u59, u60, u61, u62, u63, u64, u65, u66, u67, u68, u69, u70, u71, u72, u73, u74, u75, u76, u77, u78, u79, u80, u81, u82, u83, u84, u85, u86, u87, u88, u89, u90, u91, u92, u93, u94, u95, u96, u97, u98, u99, u100, u101, u102, u103, u104, u105, u106, u107, u108, u109, u110, u111, u112, u113, u114, u115, u116, u117, u118, u119, u120, u121, u122, u123, u124, u125, u126, u127, u128, u129, u130, u131, u132, u133, u134, u135, u136, u137, u138, u139, u140, u141, u142, u143, u144, u145, u146, u147, u148, u149, u150, u151, u152, u153, u154, u155, u156, u157, u158, u159, u160, u161, u162, u163, u164, u165, u166, u167, u168, u169, u170, u171, u172, u173, u174, u175, u176, u177, u178, u179, u180, u181, u182, u183, u184], []⟩ ws := by
  conv => arg 2; whnf
  have hFN : F ≤ 256 := by have := HF.out; omega
  have HLF : Hid ((L.take F).length = F) := by show _ = F; rw [List.length_take, HL.out]; have := HF.out; omega
  go_upto_if 132 with fail
  go_cut [3] (fun s3 wx => ws = wx ∧ ∃ c3, s3 = .slice ya (min m 300) c3 ∧ c3 ≤ 100000000000000)
  case first =>
    by_cases h : m ≤ 300
    · go_wp2
      go_meet
      exact ⟨rfl, c2, by rw [Nat.min_eq_left h], hc2b⟩
    · go_wp2
      go_meet
      exact ⟨rfl, c2, by rw [Nat.min_eq_right (by omega)], hc2b⟩
  case rest =>
  obtain ⟨rfl, c3, rfl, hc3⟩ := hcut
  obtain ⟨M, hM⟩ : ∃ M, M = min m 300 := ⟨_, rfl⟩
  rw [← hM]
  have hM3 : M ≤ 300 := by omega
  obtain ⟨K, hK, hKr⟩ : ∃ K : List Int, K.length = M ∧ Reads w ya (cellsU K) := ⟨ys.take M, by rw [List.length_take, HM.out]; omega, HY.out.takeU M⟩
  have HK := Lib.hid hK
  have HKR := Lib.hid hKr
  clear hK hKr hM
  by_cases hroom : F + M ≤ 256
  · go_wp2_with fail
    refine (pushPU G3 1 D (L.take F) K _ M _ _ HP4.out HK.out (by rw [HLF.out]; exact hroom) (HKR.out.adv HA4.out (fun _ _ => by omega))).mono ?_
    rintro e w2 ⟨rfl, G4, ha, hp⟩
    have HA5 := Lib.hid (HA4.out.trans ha)
    have HP5 := Lib.hid hp
    clear ha hp
    have hd1 : decide (256 < (F : Int) + M) = false := by simp; omega
    go_upto_block 4 with fail
    go_cut [] (fun wx => ∃ Gr, Adv (· = 1) w (fun _ => 0) wx Gr ∧ PU wx Gr 1 D (L.take F))
    case rest =>
      obtain ⟨Gr, h1, h2⟩ := hcut
      rename_i a0
      exact a0 _ _ (stackNeeds_rest3 w wc Gr xa N c' k D F L HL HLR hN256 HF h1 h2)
    case first =>
    go_wp2
    go_loopw [19] (fun s19 wr => ∃ j : Nat, j ≤ M ∧ s19 = .int .i64 ((j : Int) - 1) ∧ ∃ Gr, Adv (· = 1) w (fun _ => 0) wr Gr ∧ PU wr Gr 1 D (L.take F ++ K.take j)) (fun s19 _ => (intOf s19 + 1).toNat)
    case atStart => exact ⟨M, Nat.le_refl _, rfl, G4, HA5.out, by rw [show K.take M = K from List.take_of_length_le (by rw [HK.out]; omega)]; exact HP5.out⟩
    case round =>
      obtain ⟨j, hj, rfl, Gr, har, hpr⟩ := hrel
      have HAR := Lib.hid har
      have HPR := Lib.hid hpr
      clear har hpr
      cases j with
      | zero =>
        rw [show ((0 : Nat) : Int) - 1 = -1 from rfl]
        have HP0 : Hid (PU wr Gr 1 D (L.take F)) := by show PU wr Gr 1 D (L.take F); have h := HPR.out; simpa using h
        clear HPR
        go_wp2
        go_meet
        exact ⟨Gr, HAR.out, HP0.out⟩
      | succ t =>
        rw [show ((t + 1 : Nat) : Int) - 1 = (t : Int) from by omega]
        obtain ⟨x, hxj⟩ : ∃ x, K[t]? = some x := ⟨K[t]'(by rw [HK.out]; omega), by simp⟩
        obtain ⟨b, o, rfl, hcell0, hb0⟩ := HKR.out.atU t x hxj
        have hcell := HAR.out.cell_some hcell0 (by show ¬ (0 = 1); omega)
        have hb : b < wr.heap.size := Nat.lt_of_lt_of_le hb0 HAR.out.size
        have hgb : Gr b ≠ 1 := by rw [HAR.out.own b hb0]; omega
        have hpop : PU wr Gr 1 D (L.take F ++ K.take t ++ [x]) := by
          have h := HPR.out
          rw [List.take_add_one, hxj, ← List.append_assoc] at h
          exact h
        have HPOP := Lib.hid hpop
        have ht0 : (0 : Int) ≤ (t : Int) := Int.natCast_nonneg _
        have ht1 : (t : Int) < (M : Int) := by omega
        clear hpop hxj hcell0
        go_wp2_with fail
        go_region_held3 (fun w' => w'.cell? ⟨b, o + t, none⟩ = some (.int .u16 x)) (first | go_keep | exact HKK.out) (((go_at_call 11; refine (popPU Gr 1 D (L.take F ++ K.take t) x _ HPOP.out.drew).mono ?_; rintro e w' ⟨rfl, ha, hp⟩; have HKK := Lib.hid ((ha.cell (p := ⟨b, o + t, none⟩) hb hgb).trans hcell); have HAJ := Lib.hid ha; have HPJ := Lib.hid hp; clear ha hp)))
        go_wp2
        go_roundw
        case rel => exact ⟨t, by omega, rfl, Gr, (HAR.out.drew).trans HAJ.out, HPJ.out⟩
        case measure => simp [intOf]
  · go_wp2_with fail
    refine (pushPU_no G3 1 D (L.take F) _ M _ _ HP4.out (by rw [HLF.out]; exact hFN) (by omega) (by rw [HLF.out]; omega)).mono ?_
    rintro e w2 ⟨rfl, rfl⟩
    have hd1 : decide (256 < (F : Int) + M) = true := by simp; omega
    go_upto_block 4 with fail
    go_cut [] (fun wx => ws = wx)
    case rest =>
      obtain rfl := hcut
      rename_i a0
      exact a0 _ _ (stackNeeds_rest3 w ws G3 xa N c' k D F L HL HLR hN256 HF HA4 HP4)
    case first =>
    go_wp2
    go_loopw [19] (fun s19 wr => s19 = .int .i64 ((M : Int) - 1) ∧ ws = wr) (fun s19 _ => 0)
    case atStart => exact ⟨rfl, rfl⟩
    case round =>
      obtain ⟨rfl, rfl⟩ := hrel
      go_wp2
      all_goals
        go_meet
        exact rfl

noncomputable def needsTail : Code := (codeTail 19 (Try.f3.body.getD .skip)).getD .skip

set_option maxHeartbeats 2000000 in
set_option maxRecDepth 1000000 in
theorem stackNeeds_rest (w ws : World) (G3 : Nat → Nat) (xa ya : Option Addr) (N c' k B m c2 D F g M : Nat) (L ys : List Int) (HL : Hid (L.length = N)) (HLR : Hid (Reads w xa (cellsU L))) (HM : Hid (ys.length = m)) (HY : Hid (Reads w ya (cellsU ys)))
    (hmc : m ≤ c2) (hc2b : c2 ≤ 100000000000000) (hN256 : N ≤ 256) (HF : Hid (F + k = N)) (HMM : Hid ((M : Int) = min (B : Int) 300)) (HA4 : Hid (Adv (· = 1) w (fun _ => 0) ws G3)) (HP4 : Hid (PU ws G3 1 D (L.take F)))
    (HR4 : Hid (Reads ws (some ⟨g, 0, none⟩) (cellsU (List.replicate M 0)))) (hB2 : B ≤ 9223372036854775807)
    {u4 u5 u6 u7 u8 u10 u11 u13 u16 u17 u18 u19 u20 u21 u22 u23 u24 u25 u26 u27 u28 u29 u30 u31 u32 u33 u34 u35 u36 u37 u38 u39 u40 u41 u42 u43 u44 u45 u46 u47 u48 u49 u50 u51 u52 u53 u54 u55 u56 u57 u58 u59 u60 u61 u62 u63 u64 u65 u66 u67 u68 u69 u70 u71 u72 u73 u74 u75 u76 u77 u78 u79 u80 u81 u82 u83 u84 u85 u86 u87 u88 u89 u90 u91 u92 u93 u94 u95 u96 u97 u98 u99 u100 u101 u102 u103 u104 u105 u106 u107 u108 u109 u110 u111 u112 u113 u114 u115 u116 u117 u118 u119 u120 u121 u122 u123 u124 u125 u126 u127 u128 u129 u130 u131 u132 u133 u134 u135 u136 u137 u138 u139 u140 u141 u142 u143 u144 u145 u146 u147 u148 u149 u150 u151 u152 u153 u154 u155 u156 u157 u158 u159 u160 u161 u162 u163 u164 u165 u166 u167 u168 u169 u170 u171 u172 u173 u174 u175 u176 u177 u178 u179 u180 u181 u182 u183 u184 : Value} :
    Code.wp Try.prog needsTail (bodyPost Try.prog Try.f3 fun e w' => e = .returned (.bool true) ∧ Below w.heap.size w w')
      ⟨#[.slice xa N c', .int .i64 k, .int .i64 B, .slice ya m c2, u4, u5, u6, u7, u8, .pointer (some ⟨D, 0, none⟩), u10, u11, .int .i64 (needF N k B), u13, .int .i64 F, .slice (some ⟨g, 0, none⟩) M M, u16, u17, u18, u19, u20, u21, u22, u23, u24, u25, u26, u27, u28, u29, u30, u31, u32, u33, u34, u35, u36, u37, u38, u39, u40, u41, u42, u43, u44, u45, u46, u47, u48, u49, u50, u51, u52, u53, u54, u55, u56, u57, u58, u59, u60, u61, u62, u63, u64, u65, u66, u67, u68, u69, u70, u71, u72, u73, u74, u75, u76, u77, u78, u79, u80, u81, u82, u83, u84, u85, u86, u87, u88, u89, u90, u91, u92, u93, u94, u95, u96, u97, u98, u99, u100, u101, u102, u103, u104, u105, u106, u107, u108, u109, u110, u111, u112, u113, u114, u115, u116, u117, u118, u119, u120, u121, u122, u123, u124, u125, u126, u127, u128, u129, u130, u131, u132, u133, u134, u135, u136, u137, u138, u139, u140, u141, u142, u143, u144, u145, u146, u147, u148, u149, u150, u151, u152, u153, u154, u155, u156, u157, u158, u159, u160, u161, u162, u163, u164, u165, u166, u167, u168, u169, u170, u171, u172, u173, u174, u175, u176, u177, u178, u179, u180, u181, u182, u183, u184], []⟩ ws := by
  conv => arg 2; whnf
  have hFN : F ≤ 256 := by have := HF.out; omega
  have hM3 : M ≤ 300 := by have := HMM.out; omega
  have HLF : Hid ((L.take F).length = F) := by show _ = F; rw [List.length_take, HL.out]; have := HF.out; omega
  by_cases hroom : F + M ≤ 256
  · have hneed : needF N k B = 0 := by
      have h1 := HF.out
      have h2 := HMM.out
      unfold needF
      rw [if_neg (by omega), if_neg (by omega)]
    rw [hneed]
    clear hneed
    go_wp2_with fail
    refine (pushPU G3 1 D (L.take F) (List.replicate M 0) _ M M _ HP4.out (by simp) (by rw [HLF.out]; exact hroom) HR4.out).mono ?_
    rintro e w2 ⟨rfl, G4, ha, hp⟩
    have HA5 := Lib.hid (HA4.out.trans ha)
    have HP5 := Lib.hid hp
    clear ha hp
    go_upto_region 20 with fail
    go_cut [119] (fun s119 wx => w2 = wx ∧ s119 = .bool false)
    case first =>
      by_cases hB3 : (300 : Int) < B
      · exfalso; have := HMM.out; omega
      · have hMB : M = B := by have := HMM.out; omega
        have hd1 : decide (256 < (F : Int) + B) = false := by simp; omega
        clear hMB
        go_wp2
        go_meet
        exact ⟨rfl, rfl⟩
    case rest =>
    obtain ⟨rfl, rfl⟩ := hcut
    go_upto_if 121 with fail
    go_cut [] (fun wx => ∃ Gr, Adv (· = 1) w (fun _ => 0) wx Gr ∧ PU wx Gr 1 D (L.take F))
    case rest =>
      obtain ⟨Gr, h1, h2⟩ := hcut
      rename_i a0
      exact a0 _ _ (stackNeeds_rest2 w wc Gr xa ya N c' k m c2 D F L ys HL HLR HM HY hmc hc2b hN256 HF h1 h2)
    case first =>
    go_wp2
    go_loopw [17] (fun s17 wr => ∃ j : Nat, j ≤ M ∧ s17 = .int .i64 j ∧ ∃ Gr, Adv (· = 1) w (fun _ => 0) wr Gr ∧ PU wr Gr 1 D (L.take F ++ List.replicate (M - j) 0)) (fun s17 _ => M - (intOf s17).toNat)
    case atStart => exact ⟨0, by omega, rfl, G4, HA5.out, HP5.out⟩
    case round =>
      obtain ⟨j, hj, rfl, Gr, har, hpr⟩ := hrel
      have HAR := Lib.hid har
      have HPR := Lib.hid hpr
      clear har hpr
      by_cases hlt : j < M
      · have hpop : PU wr Gr 1 D (L.take F ++ List.replicate (M - (j + 1)) 0 ++ [0]) := by
          have h := HPR.out
          rw [show M - j = M - (j + 1) + 1 from by omega, List.replicate_succ', ← List.append_assoc] at h
          exact h
        have HPOP := Lib.hid hpop
        clear hpop
        go_wp2_with (go_at_call 11; refine (popPU Gr 1 D _ 0 _ HPOP.out).mono ?_; rintro e w' ⟨rfl, ha, hp⟩; have HAJ := Lib.hid ha; have HPJ := Lib.hid hp; clear ha hp)
        go_roundw
        case rel => exact ⟨j + 1, by omega, by go_num, Gr, HAR.out.trans HAJ.out, HPJ.out⟩
        case measure => simp [intOf]; omega
      · have hjM : Hid (j = M) := by show j = M; omega
        have HPR2 : Hid (PU wr Gr 1 D (L.take F)) := by
          show PU wr Gr 1 D (L.take F)
          have h := HPR.out
          rw [show M - j = 0 from by omega] at h
          simpa using h
        clear HPR
        go_wp2
        go_meet
        exact ⟨Gr, HAR.out, HPR2.out⟩
  · have hneed : needF N k B = 2 := by
      have h1 := HF.out
      have h2 := HMM.out
      unfold needF
      rw [if_neg (by omega), if_pos (by omega)]
    rw [hneed]
    clear hneed
    go_wp2_with fail
    refine (pushPU_no G3 1 D (L.take F) _ M M _ HP4.out (by rw [HLF.out]; exact hFN) (by omega) (by rw [HLF.out]; omega)).mono ?_
    rintro e w2 ⟨rfl, rfl⟩
    go_upto_region 20 with fail
    go_cut [119] (fun s119 wx => ws = wx ∧ s119 = .bool false)
    case first =>
      by_cases hB3 : (300 : Int) < B
      · have hd1 : decide (256 < (F : Int) + 300) = true := by simp; omega
        go_wp2_with (go_at_call 10; refine (lenPU G3 1 D (L.take F) _ HP4.out).mono ?_; rintro e w' ⟨rfl, rfl⟩; rw [HLF.out])
        go_meet
        exact ⟨rfl, rfl⟩
      · have hd1 : decide (256 < (F : Int) + B) = true := by have := HMM.out; simp; omega
        go_wp2_with (go_at_call 10; refine (lenPU G3 1 D (L.take F) _ HP4.out).mono ?_; rintro e w' ⟨rfl, rfl⟩; rw [HLF.out])
        go_meet
        exact ⟨rfl, rfl⟩
    case rest =>
    obtain ⟨rfl, rfl⟩ := hcut
    go_upto_if 121 with fail
    go_cut [] (fun wx => ws = wx)
    case rest =>
      obtain rfl := hcut
      rename_i a0
      exact a0 _ _ (stackNeeds_rest2 w ws G3 xa ya N c' k m c2 D F L ys HL HLR HM HY hmc hc2b hN256 HF HA4 HP4)
    case first =>
      go_wp2
      go_meet
      exact rfl
end Go.Proofs.Ytgpimonjdhbdmaa
