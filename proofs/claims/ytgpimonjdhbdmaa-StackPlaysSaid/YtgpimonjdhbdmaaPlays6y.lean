/- plays: a piece. -/
import Derived.Test.YtgpimonjdhbdmaaPlaysTail
namespace Go.Proofs.Ytgpimonjdhbdmaa
open Go.RowKit

set_option maxHeartbeats 4000000 in
set_option maxRecDepth 1000000 in
theorem plays_6y (w : World) (G : Nat → Nat) (ws : World) (H : Nat → Nat) (P nn O g cap g2 cap2 : Nat) (K A B : Int) (la : Option Addr) (n lc : Nat) (xs : List Int) (ma : Option Addr) (k mc : Nat) (ys : List (Int × Int)) (D R E Q : Nat) (gv gr : Value) (l : List Int) (m : List (Int × Int)) (hF : Free w G) (hI : PlaysIn w G ws H P nn O g cap g2 cap2 K A B la n lc xs ma k mc ys) (hS : Stands ws H P nn D R E Q gv gr l m) (hK : K = 6) (m0 : List (Int × Int)) (v : Int) (h0 : m = m0 ++ [(A, v)])
    {u1 u2 u4 u8 u9 u10 u11 u12 u13 u14 u15 u16 u17 u18 u19 u20 u21 u22 u23 u24 u25 u26 u27 u28 u29 u30 u31 u32 u33 u34 u35 u36 u37 u38 u39 u40 u41 u42 u43 u44 u45 u46 u47 u48 u49 u50 u51 u52 u53 u54 u55 u56 u57 u58 u59 u60 u61 u62 u63 u64 u65 u66 u67 u68 u69 u70 u71 u72 u73 u74 u75 u76 u77 u78 u79 u80 u81 u82 u83 u84 u85 u86 u87 u88 u89 u90 u91 u92 u93 u94 u95 u96 u97 u98 u99 u100 u101 u102 u103 u104 u105 u106 u107 u108 u109 u110 u111 u112 u113 u114 u115 u116 u117 u118 u119 u120 u121 u122 u123 u124 u125 u126 u127 u128 u129 u130 u131 u132 u133 u134 u135 u136 u137 u138 u139 u140 u141 u142 u143 u144 u145 u146 u147 u148 u149 u150 u151 u152 u153 u154 u155 u156 u157 u158 u159 u160 u161 u162 u163 u164 u165 u166 u167 u168 u169 u170 u171 u172 u173 u174 u175 u176 u177 u178 u179 u180 u181 u182 u183 u184 u185 u186 u187 u188 u189 u190 u191 u192 u193 u194 u195 u196 u197 u198 u199 u200 u201 u202 u203 u204 u205 u206 u207 u208 u209 u210 u211 u212 u213 u214 u215 u216 u217 u218 u219 u220 u221 u222 u223 u224 u225 u226 u227 u228 u229 u230 u231 u232 u233 u234 u235 u236 u237 u238 u239 u240 u241 u242 u243 u244 u245 : Value} :
    Code.wp Try.prog playsTail3 (bodyPost Try.prog Try.f22 fun e w' => e = .returned (.bool true) ∧ ∃ G', Moves w G w' G' ∧ StandsA w' G' P nn) ⟨#[.pointer (some ⟨P, 0, none⟩), u1, u2, .pointer (some ⟨O, 0, none⟩), u4, .slice (some ⟨g, 0, none⟩) n cap, .slice (some ⟨g2, 0, none⟩) k cap2, .bool true, u8, u9, u10, u11, u12, u13, u14, u15, u16, u17, u18, u19, u20, u21, u22, u23, u24, u25, u26, u27, u28, u29, u30, u31, u32, u33, u34, u35, u36, u37, u38, u39, u40, u41, u42, u43, u44, u45, u46, u47, u48, u49, u50, u51, u52, u53, u54, u55, u56, u57, u58, u59, u60, u61, u62, u63, u64, u65, u66, u67, u68, u69, u70, u71, u72, u73, u74, u75, u76, u77, u78, u79, u80, u81, u82, u83, u84, u85, u86, u87, u88, u89, u90, u91, u92, u93, u94, u95, u96, u97, u98, u99, u100, u101, u102, u103, u104, u105, u106, u107, u108, u109, u110, u111, u112, u113, u114, u115, u116, u117, u118, u119, u120, u121, u122, u123, u124, u125, u126, u127, u128, u129, u130, u131, u132, u133, u134, u135, u136, u137, u138, u139, u140, u141, u142, u143, u144, u145, u146, u147, u148, u149, u150, u151, u152, u153, u154, u155, u156, u157, u158, u159, u160, u161, u162, u163, u164, u165, u166, u167, u168, u169, u170, u171, u172, u173, u174, u175, u176, u177, u178, u179, u180, u181, u182, u183, u184, u185, u186, u187, u188, u189, u190, u191, u192, u193, u194, u195, u196, u197, u198, u199, u200, u201, u202, u203, u204, u205, u206, u207, u208, u209, u210, u211, u212, u213, u214, u215, u216, u217, u218, u219, u220, u221, u222, u223, u224, u225, u226, u227, u228, u229, u230, u231, u232, u233, u234, u235, u236, u237, u238, u239, u240, u241, u242, u243, u244, u245], []⟩ ws := by
  subst hK
  obtain ⟨c0, c1, c2, c3, c4⟩ := hI.cells
  obtain ⟨cA, cB, cC, cD, _, _, _⟩ := hS.pair.cells
  have hn := hI.hn
  have hk := hI.hk
  have ha1 := hI.a1
  have hb1 := hI.b1
  have hl := hS.hl
  have hm := hS.hm
  have hOlt := hI.lt
  have hOo := hI.oo
  have hPlt := hS.pair.lt
  have hPo := hS.pair.own
  have HF := Lib.hid hF
  have HI := Lib.hid hI
  have HS := Lib.hid hS
  clear hF hI hS
  conv => arg 2; whnf
  dsimp only
  go_upto_block 0 with fail
  go_cut [7] (fun s7 wx => s7 = .bool true ∧ ∃ H', Adv (fun o => o ≠ 0 ∧ o ≠ 7 ∧ o ≠ 8) ws H wx H' ∧ ∃ D R E Q gv gr l m, Stands wx H' P nn D R E Q gv gr l m)
  case rest =>
    obtain ⟨rfl, H', ha, D', R', E', Q', gv', gr', l', m', hs⟩ := hcut
    rename_i a0
    exact a0 _ _ (plays_tail w G wc H' P nn O g cap g2 cap2 6 A B la n lc xs ma k mc ys D' R' E' Q' gv' gr' l' m' HF.out (HI.out.adv' ha (by omega) (by omega) (by omega)) hs)
  case first =>
    subst h0
    have hm0 : m0.length ≤ 127 := by simp at hm; omega
    go_upto_region 13 with fail
    go_cut [8, 9] (fun s8 s9 wx => s8 = .int .u16 v ∧ s9 = .int .i64 0 ∧ ∃ H1, Adv (fun o => o = 2) ws H wx H1 ∧ PR wx H1 2 R m0)
    case first =>
      go_region_held3 (fun w' => w'.cell? ⟨P, 1, none⟩ = some (.pointer (some ⟨R, 0, none⟩)) ∧ w'.cell? ⟨O, 1, none⟩ = some (.int .i64 A)) (first | exact ⟨cB, c1⟩ | exact KK.out)
        ((go_at_call 16; refine (popPR H 2 R m0 (A, v) _ HS.out.r.drew (by omega)).mono ?_; rintro e w' ⟨rfl, H1, ha, hp⟩; have HA1 := Lib.hid (((Adv.refl _ ws H).drew).trans ha); have HP1 := Lib.hid hp; have KK := Lib.hid (And.intro (HA1.out.cell_some (p := ⟨P, 1, none⟩) cB (by show ¬ (H P = 2); omega)) (HA1.out.cell_some (p := ⟨O, 1, none⟩) c1 (by show ¬ (H O = 2); omega))); clear ha hp))
      go_wp2_with fail
      go_meet
      exact ⟨rfl, rfl, H1, HA1.out, HP1.out⟩
    case rest =>
    obtain ⟨rfl, rfl, H1, ha, hp⟩ := hcut
    obtain ⟨wA, rfl⟩ : ∃ x : World, x = wc := ⟨_, rfl⟩
    have cD1 := ha.cell_some (p := ⟨P, 3, none⟩) cD (by show ¬ (H P = 2); omega)
    have cO1 := ha.cell_some (p := ⟨O, 1, none⟩) c1 (by show ¬ (H O = 2); omega)
    have hP1 : H1 P = 5 := by rw [ha.own P hPlt]; exact hPo
    have hO1 : H1 O = 0 := by rw [ha.own O hOlt]; exact hOo
    have HQ1 := Lib.hid ((HS.out.q.adv ha (by omega)).adv ((Adv.refl (fun _ => False) wA H1).drew) id)
    have HAA := Lib.hid ha
    have HPP := Lib.hid hp
    clear ha hp
    go_upto_region 14 with fail
    go_cut [10, 11] (fun s10 s11 wx => s10 = .int .u16 v ∧ s11 = .int .i64 0 ∧ ∃ H2, Adv (fun o => o = 2 ∨ o = 4) ws H wx H2 ∧ PR wx H2 2 R m0 ∧ ER wx H2 4 Q m0)
    case first =>
      go_region_held3 (fun w' => w'.cell? ⟨P, 3, none⟩ = some (.pointer (some ⟨Q, 0, none⟩)) ∧ w'.cell? ⟨O, 1, none⟩ = some (.int .i64 A)) (first | exact ⟨cD1, cO1⟩ | exact KK.out)
        ((go_at_call 42; refine (refPopR H1 4 Q m0 (A, v) _ HQ1.out (by omega)).mono ?_; rintro e w' ⟨rfl, H2, ha, hp⟩; have HA1 := Lib.hid (((Adv.refl _ wA H1).drew).trans ha); have HP1 := Lib.hid hp; have KK := Lib.hid (And.intro (HA1.out.cell_some (p := ⟨P, 3, none⟩) cD1 (by show ¬ (H1 P = 4); omega)) (HA1.out.cell_some (p := ⟨O, 1, none⟩) cO1 (by show ¬ (H1 O = 4); omega))); clear ha hp))
      go_wp2_with fail
      go_meet
      exact ⟨rfl, rfl, H2, (HAA.out.mono fun _ h => .inl h).trans (HA1.out.mono fun _ h => .inr h), HPP.out.adv HA1.out (by omega), HP1.out⟩
    case rest =>
    obtain ⟨rfl, rfl, H2, ha, hp, hq⟩ := hcut
    have HAA := Lib.hid ha
    have HPP := Lib.hid hp
    have HQQ := Lib.hid hq
    clear ha hp hq
    go_wp2_with fail
    go_meet
    exact ⟨rfl, H2, HAA.out.mono (fun _ h => by omega), D, R, E, Q, gv, gr, _, _, HS.out.putR HAA.out HPP.out HQQ.out (by omega)⟩

end Go.Proofs.Ytgpimonjdhbdmaa
