/- What StackKinds does behind its loop. -/
import Derived.Test.YtgpimonjdhbdmaaKindsRest2
namespace Go.Proofs.Ytgpimonjdhbdmaa
open Go.RowKit

noncomputable def kindsTail : Code := (codeTail 14 (Try.f4.body.getD .skip)).getD .skip

set_option maxHeartbeats 2000000 in
set_option maxRecDepth 1000000 in
theorem stackKinds_rest (w ws : World) (G3 : Nat → Nat) (xa : Option Addr) (N c' R : Nat) (kind p x : Int) (L : List (Int × Int)) (HL : Hid (L.length = N)) (HLR : Hid (Reads w xa (cellsR L)))
    (hN : N ≤ 128) (hp0 : -9223372036854775808 ≤ p) (hp : p ≤ 9223372036854775807) (HA : Hid (Adv (· = 2) w (fun _ => 0) ws G3)) (HP : Hid (PR ws G3 2 R L))
    {u4 u5 u6 u7 u8 u10 u11 u12 u13 u14 u15 u16 u17 u18 u19 u20 u21 u22 u23 u24 u25 u26 u27 u28 u29 u30 u31 u32 u33 u34 u35 u36 u37 u38 u39 u40 u41 u42 u43 u44 u45 u46 u47 u48 u49 u50 u51 u52 u53 u54 u55 u56 u57 u58 u59 u60 u61 u62 u63 u64 u65 u66 u67 u68 u69 u70 u71 u72 u73 u74 u75 u76 u77 u78 u79 u80 u81 u82 u83 u84 u85 u86 u87 u88 u89 u90 u91 u92 u93 u94 u95 u96 u97 u98 u99 u100 u101 u102 u103 u104 u105 u106 u107 u108 u109 u110 u111 u112 u113 u114 u115 u116 u117 u118 u119 u120 u121 u122 u123 u124 u125 u126 u127 u128 u129 u130 u131 u132 u133 u134 u135 u136 u137 u138 u139 u140 u141 u142 u143 u144 u145 u146 u147 u148 u149 u150 u151 u152 u153 u154 u155 u156 u157 u158 u159 u160 u161 u162 u163 u164 u165 u166 u167 u168 u169 u170 u171 u172 u173 u174 u175 u176 u177 u178 u179 u180 u181 u182 u183 u184 u185 u186 u187 u188 u189 u190 u191 u192 u193 u194 u195 u196 u197 u198 u199 u200 u201 u202 u203 u204 u205 u206 u207 u208 u209 u210 u211 u212 u213 u214 u215 u216 u217 u218 u219 u220 u221 u222 u223 u224 u225 u226 u227 u228 u229 u230 u231 u232 u233 u234 u235 u236 u237 u238 u239 u240 u241 u242 u243 u244 u245 : Value} :
    Code.wp Try.prog kindsTail (bodyPost Try.prog Try.f4 fun e w' => e = .returned (.bool true) ∧ Below w.heap.size w w')
      ⟨#[.slice xa N c', .int .i64 kind, .int .i64 p, .int .u16 x, u4, u5, u6, u7, u8, .pointer (some ⟨R, 0, none⟩), u10, u11, u12, u13, u14, u15, u16, u17, u18, u19, u20, u21, u22, u23, u24, u25, u26, u27, u28, u29, u30, u31, u32, u33, u34, u35, u36, u37, u38, u39, u40, u41, u42, u43, u44, u45, u46, u47, u48, u49, u50, u51, u52, u53, u54, u55, u56, u57, u58, u59, u60, u61, u62, u63, u64, u65, u66, u67, u68, u69, u70, u71, u72, u73, u74, u75, u76, u77, u78, u79, u80, u81, u82, u83, u84, u85, u86, u87, u88, u89, u90, u91, u92, u93, u94, u95, u96, u97, u98, u99, u100, u101, u102, u103, u104, u105, u106, u107, u108, u109, u110, u111, u112, u113, u114, u115, u116, u117, u118, u119, u120, u121, u122, u123, u124, u125, u126, u127, u128, u129, u130, u131, u132, u133, u134, u135, u136, u137, u138, u139, u140, u141, u142, u143, u144, u145, u146, u147, u148, u149, u150, u151, u152, u153, u154, u155, u156, u157, u158, u159, u160, u161, u162, u163, u164, u165, u166, u167, u168, u169, u170, u171, u172, u173, u174, u175, u176, u177, u178, u179, u180, u181, u182, u183, u184, u185, u186, u187, u188, u189, u190, u191, u192, u193, u194, u195, u196, u197, u198, u199, u200, u201, u202, u203, u204, u205, u206, u207, u208, u209, u210, u211, u212, u213, u214, u215, u216, u217, u218, u219, u220, u221, u222, u223, u224, u225, u226, u227, u228, u229, u230, u231, u232, u233, u234, u235, u236, u237, u238, u239, u240, u241, u242, u243, u244, u245], []⟩ ws := by
  conv => arg 2; whnf
  have hlen : L.length ≤ 100000 := by rw [HL.out]; omega
  dsimp only
  go_upto_region 14 with fail
  go_cut [98] (fun s98 wx => ws = wx ∧ s98 = .bool (decide (p < 0 ∨ (N : Int) ≤ p)))
  case first =>
    by_cases h1 : p < 0
    · have hd1 : decide (p < 0) = true := by simpa using h1
      have hd : Hid (decide (p < 0 ∨ (N : Int) ≤ p) = true) := by show _ = _; simp [h1]
      go_wp2
      go_meet
      exact ⟨rfl, by rw [hd.out]⟩
    · have hd1 : decide (p < 0) = false := by simpa using h1
      by_cases h2 : (N : Int) ≤ p
      · have hd2 : decide ((N : Int) ≤ p) = true := by simpa using h2
        have hd : Hid (decide (p < 0 ∨ (N : Int) ≤ p) = true) := by show _ = _; simp [h2]
        go_wp2
        go_meet
        exact ⟨rfl, by rw [hd.out]⟩
      · have hd2 : decide ((N : Int) ≤ p) = false := by simpa using h2
        have hd : Hid (decide (p < 0 ∨ (N : Int) ≤ p) = false) := by show _ = _; simp; omega
        go_wp2
        go_meet
        exact ⟨rfl, by rw [hd.out]⟩
  case rest =>
  obtain ⟨rfl, rfl⟩ := hcut
  go_upto_if 98 with fail
  go_cut [] (fun wx => ∃ d, wx = ws.drewN d)
  case first =>
    by_cases hout : p < 0 ∨ (N : Int) ≤ p
    · rw [decide_eq_true hout]
      have HO := Lib.hid hout
      clear hout
      go_wp2_with (go_at_call 14; refine (atPR G3 2 R L p kind _ HP.out hlen).mono ?_; rintro e w' ⟨rfl, d, rfl⟩; rw [(at_out (kind := kind) (by rw [HL.out]; exact HO.out)).1, (at_out (kind := kind) (by rw [HL.out]; exact HO.out)).2])
      go_meet
      exact ⟨d, rfl⟩
    · rw [decide_eq_false hout]
      clear hout
      go_wp2
      go_meet
      exact ⟨0, rfl⟩
  case rest =>
  obtain ⟨d, rfl⟩ := hcut
  have HA2 := Lib.hid (HA.out.drewN d)
  have HP2 := Lib.hid (HP.out.drewN d)
  go_upto_if 110 with fail
  go_cut [] (fun wx => N ≠ 0 ∧ ws.drewN d = wx)
  case rest =>
    obtain ⟨h0, rfl⟩ := hcut
    rename_i a0
    exact a0 _ _ (stackKinds_rest2 w (ws.drewN d) G3 xa N c' R x L HL HLR hN h0 HA2 HP2)
  case first =>
  by_cases hN0 : N = 0
  · have hL0 : L = [] := List.eq_nil_of_length_eq_zero (by rw [HL.out]; exact hN0)
    subst hL0
    subst hN0
    clear HL HLR
    go_wp2_with fail
    refine (setPR_nil G3 2 R x _ HP2.out).mono ?_
    rintro e w' ⟨rfl, rfl⟩
    go_wp2_with fail
    refine (popPR_not G3 2 R [] kind _ HP2.out (by simp) (by rw [show atE [] 0 kind = 3 from rfl]; rfl)).mono ?_
    rintro e w' ⟨rfl, d2, rfl⟩
    rw [show atV [] 0 kind = 0 from rfl, show atE [] 0 kind = 3 from rfl]
    go_wp2_with (go_at_call 17; refine (lenPR G3 2 R [] _ (HP.out.drewN _)).mono ?_; rintro e w' ⟨rfl, rfl⟩; rw [List.length_nil])
    go_ret
    exact ⟨rfl, (HA.out.drewN _).below (Nat.le_refl _) (fun _ _ => by omega)⟩
  · have hb0 : ((N : Int) == 0) = false := by simp; omega
    go_wp2
    go_meet
    exact ⟨hN0, rfl⟩
end Go.Proofs.Ytgpimonjdhbdmaa
