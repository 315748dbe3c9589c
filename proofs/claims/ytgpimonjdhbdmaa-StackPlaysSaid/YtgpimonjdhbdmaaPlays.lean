/- plays: a piece. -/
import Derived.Test.YtgpimonjdhbdmaaPlays0
import Derived.Test.YtgpimonjdhbdmaaPlays1
import Derived.Test.YtgpimonjdhbdmaaPlays2
import Derived.Test.YtgpimonjdhbdmaaPlays3
import Derived.Test.YtgpimonjdhbdmaaPlays5
import Derived.Test.YtgpimonjdhbdmaaPlays6y
import Derived.Test.YtgpimonjdhbdmaaPlays6n
import Derived.Test.YtgpimonjdhbdmaaPlays7
import Derived.Test.YtgpimonjdhbdmaaPlays8
import Derived.Test.YtgpimonjdhbdmaaPlays10
import Derived.Test.YtgpimonjdhbdmaaPlays11
namespace Go.Proofs.Ytgpimonjdhbdmaa
open Go.RowKit

set_option maxHeartbeats 4000000 in
set_option maxRecDepth 1000000 in
theorem plays_sw (w : World) (G : Nat → Nat) (ws : World) (H : Nat → Nat) (P nn O g cap g2 cap2 : Nat) (K A B : Int) (la : Option Addr) (n lc : Nat) (xs : List Int) (ma : Option Addr) (k mc : Nat) (ys : List (Int × Int)) (D R E Q : Nat) (gv gr : Value) (l : List Int) (m : List (Int × Int)) (hF : Free w G) (hI : PlaysIn w G ws H P nn O g cap g2 cap2 K A B la n lc xs ma k mc ys) (hS : Stands ws H P nn D R E Q gv gr l m)
    {u1 u2 u4 u8 u9 u10 u11 u12 u13 u14 u15 u16 u17 u18 u19 u20 u21 u22 u23 u24 u25 u26 u27 u28 u29 u30 u31 u32 u33 u34 u35 u36 u37 u38 u39 u40 u41 u42 u43 u44 u45 u46 u47 u48 u49 u50 u51 u52 u53 u54 u55 u56 u57 u58 u59 u60 u61 u62 u63 u64 u65 u66 u67 u68 u69 u70 u71 u72 u73 u74 u75 u76 u77 u78 u79 u80 u81 u82 u83 u84 u85 u86 u87 u88 u89 u90 u91 u92 u93 u94 u95 u96 u97 u98 u99 u100 u101 u102 u103 u104 u105 u106 u107 u108 u109 u110 u111 u112 u113 u114 u115 u116 u117 u118 u119 u120 u121 u122 u123 u124 u125 u126 u127 u128 u129 u130 u131 u132 u133 u134 u135 u136 u137 u138 u139 u140 u141 u142 u143 u144 u145 u146 u147 u148 u149 u150 u151 u152 u153 u154 u155 u156 u157 u158 u159 u160 u161 u162 u163 u164 u165 u166 u167 u168 u169 u170 u171 u172 u173 u174 u175 u176 u177 u178 u179 u180 u181 u182 u183 u184 u185 u186 u187 u188 u189 u190 u191 u192 u193 u194 u195 u196 u197 u198 u199 u200 u201 u202 u203 u204 u205 u206 u207 u208 u209 u210 u211 u212 u213 u214 u215 u216 u217 u218 u219 u220 u221 u222 u223 u224 u225 u226 u227 u228 u229 u230 u231 u232 u233 u234 u235 u236 u237 u238 u239 u240 u241 u242 u243 u244 u245 : Value} :
    Code.wp Try.prog playsTail3 (bodyPost Try.prog Try.f22 fun e w' => e = .returned (.bool true) ∧ ∃ G', Moves w G w' G' ∧ StandsA w' G' P nn) ⟨#[.pointer (some ⟨P, 0, none⟩), u1, u2, .pointer (some ⟨O, 0, none⟩), u4, .slice (some ⟨g, 0, none⟩) n cap, .slice (some ⟨g2, 0, none⟩) k cap2, .bool true, u8, u9, u10, u11, u12, u13, u14, u15, u16, u17, u18, u19, u20, u21, u22, u23, u24, u25, u26, u27, u28, u29, u30, u31, u32, u33, u34, u35, u36, u37, u38, u39, u40, u41, u42, u43, u44, u45, u46, u47, u48, u49, u50, u51, u52, u53, u54, u55, u56, u57, u58, u59, u60, u61, u62, u63, u64, u65, u66, u67, u68, u69, u70, u71, u72, u73, u74, u75, u76, u77, u78, u79, u80, u81, u82, u83, u84, u85, u86, u87, u88, u89, u90, u91, u92, u93, u94, u95, u96, u97, u98, u99, u100, u101, u102, u103, u104, u105, u106, u107, u108, u109, u110, u111, u112, u113, u114, u115, u116, u117, u118, u119, u120, u121, u122, u123, u124, u125, u126, u127, u128, u129, u130, u131, u132, u133, u134, u135, u136, u137, u138, u139, u140, u141, u142, u143, u144, u145, u146, u147, u148, u149, u150, u151, u152, u153, u154, u155, u156, u157, u158, u159, u160, u161, u162, u163, u164, u165, u166, u167, u168, u169, u170, u171, u172, u173, u174, u175, u176, u177, u178, u179, u180, u181, u182, u183, u184, u185, u186, u187, u188, u189, u190, u191, u192, u193, u194, u195, u196, u197, u198, u199, u200, u201, u202, u203, u204, u205, u206, u207, u208, u209, u210, u211, u212, u213, u214, u215, u216, u217, u218, u219, u220, u221, u222, u223, u224, u225, u226, u227, u228, u229, u230, u231, u232, u233, u234, u235, u236, u237, u238, u239, u240, u241, u242, u243, u244, u245], []⟩ ws := by
  by_cases k1 : K = 1
  · exact plays_1 w G ws H P nn O g cap g2 cap2 K A B la n lc xs ma k mc ys D R E Q gv gr l m hF hI hS k1
  by_cases k2 : K = 2
  · exact plays_2 w G ws H P nn O g cap g2 cap2 K A B la n lc xs ma k mc ys D R E Q gv gr l m hF hI hS k2
  by_cases k3 : K = 3
  · exact plays_3 w G ws H P nn O g cap g2 cap2 K A B la n lc xs ma k mc ys D R E Q gv gr l m hF hI hS k3
  by_cases k5 : K = 5
  · exact plays_5 w G ws H P nn O g cap g2 cap2 K A B la n lc xs ma k mc ys D R E Q gv gr l m hF hI hS k5
  by_cases k6 : K = 6
  · by_cases hz : (atE m 0 A == 0) = true
    · obtain ⟨m0, v, h0⟩ := atE_zero hz
      exact plays_6y w G ws H P nn O g cap g2 cap2 K A B la n lc xs ma k mc ys D R E Q gv gr l m hF hI hS k6 m0 v h0
    · exact plays_6n w G ws H P nn O g cap g2 cap2 K A B la n lc xs ma k mc ys D R E Q gv gr l m hF hI hS k6 (by simpa using hz)
  by_cases k7 : K = 7
  · exact plays_7 w G ws H P nn O g cap g2 cap2 K A B la n lc xs ma k mc ys D R E Q gv gr l m hF hI hS k7
  by_cases k8 : K = 8
  · exact plays_8 w G ws H P nn O g cap g2 cap2 K A B la n lc xs ma k mc ys D R E Q gv gr l m hF hI hS k8
  by_cases k10 : K = 10
  · exact plays_10 w G ws H P nn O g cap g2 cap2 K A B la n lc xs ma k mc ys D R E Q gv gr l m hF hI hS k10
  by_cases k11 : K = 11
  · exact plays_11 w G ws H P nn O g cap g2 cap2 K A B la n lc xs ma k mc ys D R E Q gv gr l m hF hI hS k11
  exact plays_0 w G ws H P nn O g cap g2 cap2 K A B la n lc xs ma k mc ys D R E Q gv gr l m hF hI hS ⟨by simp; omega, by simp; omega, by simp; omega, by simp; omega, by simp; omega, by simp; omega, by simp; omega, by simp; omega, by simp; omega⟩

set_option maxHeartbeats 4000000 in
set_option maxRecDepth 1000000 in
theorem plays_any (G : Nat → Nat) (P nn : Nat) (K A B : Int) (la : Option Addr) (n lc : Nat) (xs : List Int) (ma : Option Addr) (k mc : Nat) (ys : List (Int × Int)) (w : World) (hF : Free w G) (hS : StandsA w G P nn)
    (hl : xs.length = n) (hn : n ≤ lc) (hlc : lc ≤ 70368744175616) (hm : ys.length = k) (hk : k ≤ mc) (hmc : mc ≤ 8796093021952) (hx : Reads w la (cellsU xs)) (hy : Reads w ma (cellsR ys))
    (xo : xs ≠ [] → ∀ ad, la = some ad → ad.block < w.heap.size ∧ G ad.block = 0) (yo : ys ≠ [] → ∀ ad, ma = some ad → ad.block < w.heap.size ∧ G ad.block = 0) (ha1 : A ≤ 9223372036854775807) (hb1 : B ≤ 9223372036854775807) :
    Calls Try.prog 22 #[.pointer (some ⟨P, 0, none⟩), .agg #[.int .i64 K, .int .i64 A, .int .i64 B, .slice la n lc, .slice ma k mc]] w fun e w' => e = .returned (.bool true) ∧ ∃ G', Moves w G w' G' ∧ StandsA w' G' P nn := by
  obtain ⟨_, D, R, E, Q, gv, gr, l, m, hS⟩ := hS
  obtain ⟨wO, hwO⟩ : ∃ wO, wO = w.alloc (.cells #[.int .i64 K, .int .i64 A, .int .i64 B, .slice la n lc, .slice ma k mc] 71) := ⟨_, rfl⟩
  have hal := (Adv.refl (fun _ => False) w G).alloc (.cells #[.int .i64 K, .int .i64 A, .int .i64 B, .slice la n lc, .slice ma k mc] 71) 0
  have hop : wO.heap[w.heap.size]? = some (.cells #[.int .i64 K, .int .i64 A, .int .i64 B, .slice la n lc, .slice ma k mc] 71 (0, 0)) := by rw [hwO]; exact heap_alloc_new w _
  have hoo : own1 w G 0 w.heap.size = 0 := own1_new _ _ _
  obtain ⟨GO, hGO⟩ : ∃ GO, GO = own1 w G 0 := ⟨_, rfl⟩
  rw [← hGO] at hal hoo
  rw [← hwO] at hal
  have c3 : wO.cell? ⟨w.heap.size, 3, none⟩ = some (.slice la n lc) := by simp [World.cell?, hop]
  have c4 : wO.cell? ⟨w.heap.size, 4, none⟩ = some (.slice ma k mc) := by simp [World.cell?, hop]
  have HF := Lib.hid hF
  have HS1 := Lib.hid (hS.adv0 hal)
  have HAL := Lib.hid hal
  have HOP := Lib.hid hop
  have HOO := Lib.hid hoo
  have HX := Lib.hid (show Reads wO la (cellsU xs) from by rw [hwO]; exact hx.alloc _)
  have HY := Lib.hid (show Reads wO ma (cellsR ys) from by rw [hwO]; exact hy.alloc _)
  have HXO := Lib.hid (show xs ≠ [] → ∀ ad, la = some ad → ad.block < wO.heap.size ∧ GO ad.block = 0 from fun h ad e => ⟨Nat.lt_of_lt_of_le (xo h ad e).1 hal.size, by rw [hal.own _ (xo h ad e).1]; exact (xo h ad e).2⟩)
  have HYO := Lib.hid (show ys ≠ [] → ∀ ad, ma = some ad → ad.block < wO.heap.size ∧ GO ad.block = 0 from fun h ad e => ⟨Nat.lt_of_lt_of_le (yo h ad e).1 hal.size, by rw [hal.own _ (yo h ad e).1]; exact (yo h ad e).2⟩)
  have HL := Lib.hid hl
  have HM := Lib.hid hm
  have HW := Lib.hid hwO
  clear hF hS hal hop hoo hx hy xo yo hl hm hwO hGO
  go_enter Try.func22, Try.ntmps22
  go_upto_region 1 with fail
  rw [← HW.out]
  go_cut [5, 6] (fun s5 s6 wx => ∃ g cap g2 cap2 H, s5 = .slice (some ⟨g, 0, none⟩) n cap ∧ s6 = .slice (some ⟨g2, 0, none⟩) k cap2 ∧ Adv (fun _ => False) wO GO wx H ∧ Row 32 1 wx H 7 (.slice (some ⟨g, 0, none⟩) (n + 2) cap) (n + 2) (cellsU (xs ++ [7777, 7778])) ∧ Row 43 2 wx H 8 (.slice (some ⟨g2, 0, none⟩) (k + 2) cap2) (k + 2) (cellsR (ys ++ [(77, 0), (78, 0)])))
  case first =>
    have HXR := fun (wz : World) (Gz : Nat → Nat) (ha : Adv (fun _ => False) wO GO wz Gz) => HX.out.adv ha (fun _ _ => id)
    have HYR := fun (wz : World) (Gz : Nat → Nat) (ha : Adv (fun _ => False) wO GO wz Gz) => HY.out.adv ha (fun _ _ => id)
    have HXH := Lib.hid HXR
    have HYH := Lib.hid HYR
    have HAD := Lib.hid ((Adv.refl (fun _ => False) wO GO).drew)
    clear HXR HYR
    go_region_held3 (fun w' => w'.cell? ⟨w.heap.size, 3, none⟩ = some (.slice la n lc) ∧ w'.cell? ⟨w.heap.size, 4, none⟩ = some (.slice ma k mc)) (first | exact ⟨c3, c4⟩ | exact KU2.out | exact KR2.out | exact KU.out | exact KR.out)
      (first
        | (go_at_call 36; refine (ownCells_any GR 7 la n lc xs _ HL.out (by omega) (HXH.out _ _ HAR.out)).mono ?_; rintro e w' ⟨g, cap, GU2, rfl, ha, hr⟩; have HAU2 := Lib.hid (HAR.out.trans ha); have HRR2 := Lib.hid (HRR.out.adv ha id); have HRU2 := Lib.hid hr; have KU2 := Lib.hid (And.intro ((HAU2.out.cell_some (p := ⟨w.heap.size, 3, none⟩) c3 id)) (HAU2.out.cell_some (p := ⟨w.heap.size, 4, none⟩) c4 id)); clear ha hr)
        | (go_at_call 36; refine (ownCells_any GO 7 la n lc xs _ HL.out (by omega) (HXH.out _ _ HAD.out)).mono ?_; rintro e w' ⟨g, cap, GU, rfl, ha, hr⟩; have HAU := Lib.hid (HAD.out.trans ha); have HRU := Lib.hid hr; have KU := Lib.hid (And.intro ((HAU.out.cell_some (p := ⟨w.heap.size, 3, none⟩) c3 id)) (HAU.out.cell_some (p := ⟨w.heap.size, 4, none⟩) c4 id)); clear ha hr)
        | (go_at_call 37; refine (ownRet_any GU 8 ma k mc ys _ HM.out (by omega) (HYH.out _ _ HAU.out)).mono ?_; rintro e w' ⟨g2, cap2, GR2, rfl, ha, hr⟩; have HAR2 := Lib.hid (HAU.out.trans ha); have HRU2 := Lib.hid (HRU.out.adv ha id); have HRR2 := Lib.hid hr; have KR2 := Lib.hid (And.intro ((HAR2.out.cell_some (p := ⟨w.heap.size, 3, none⟩) c3 id)) (HAR2.out.cell_some (p := ⟨w.heap.size, 4, none⟩) c4 id)); clear ha hr)
        | (go_at_call 37; refine (ownRet_any GO 8 ma k mc ys _ HM.out (by omega) (HYH.out _ _ HAD.out)).mono ?_; rintro e w' ⟨g2, cap2, GR, rfl, ha, hr⟩; have HAR := Lib.hid (HAD.out.trans ha); have HRR := Lib.hid hr; have KR := Lib.hid (And.intro ((HAR.out.cell_some (p := ⟨w.heap.size, 3, none⟩) c3 id)) (HAR.out.cell_some (p := ⟨w.heap.size, 4, none⟩) c4 id)); clear ha hr))
    all_goals
      go_wp2_with fail
      go_meet
      first
        | exact ⟨g, cap, g2, cap2, GU2, rfl, rfl, HAU2.out, HRU2.out, HRR2.out⟩
        | exact ⟨g, cap, g2, cap2, GR2, rfl, rfl, HAR2.out, HRU2.out, HRR2.out⟩
  case rest =>
  obtain ⟨g, cap, g2, cap2, H, rfl, rfl, h1, h2, h3⟩ := hcut
  obtain ⟨wA, rfl⟩ : ∃ x : World, x = wc := ⟨_, rfl⟩
  go_upto_region 2 with fail
  go_cut [7] (fun s7 wx => s7 = .bool true ∧ wA = wx)
  case first =>
    have H1 := Lib.hid h1
    have H2 := Lib.hid h2
    have H3 := Lib.hid h3
    clear h1 h2 h3
    go_wp2_with fail
    go_meet
    exact ⟨rfl, rfl⟩
  case rest =>
  obtain ⟨rfl, rfl⟩ := hcut
  have hI : PlaysIn w G wA H P nn w.heap.size g cap g2 cap2 K A B la n lc xs ma k mc ys := by
    refine { adv := (HAL.out.trans h1).mono fun _ h => h.elim, op := ?op, oo := ?oo, c := h2, r := h3, hl := HL.out, hn := by omega, hm := HM.out, hk := by omega, nlc := hn, kmc := hk, lcb := hlc, mcb := hmc, hx := HX.out.adv h1 (fun _ _ => id), hy := HY.out.adv h1 (fun _ _ => id), xo := ?xo, yo := ?yo, a1 := ha1, b1 := hb1 }
    case op => rw [h1.keep _ (Array.getElem?_eq_some_iff.1 HOP.out).1 id]; exact HOP.out
    case oo => rw [h1.own _ (Array.getElem?_eq_some_iff.1 HOP.out).1]; exact HOO.out
    case xo =>
      intro h ad e
      exact ⟨Nat.lt_of_lt_of_le (HXO.out h ad e).1 h1.size, by rw [h1.own _ (HXO.out h ad e).1]; exact (HXO.out h ad e).2⟩
    case yo =>
      intro h ad e
      exact ⟨Nat.lt_of_lt_of_le (HYO.out h ad e).1 h1.size, by rw [h1.own _ (HYO.out h ad e).1]; exact (HYO.out h ad e).2⟩
  rename_i a0
  exact a0 _ _ (plays_sw w G wA H P nn w.heap.size g cap g2 cap2 K A B la n lc xs ma k mc ys D R E Q gv gr l m HF.out hI (HS1.out.adv0 h1))

end Go.Proofs.Ytgpimonjdhbdmaa
