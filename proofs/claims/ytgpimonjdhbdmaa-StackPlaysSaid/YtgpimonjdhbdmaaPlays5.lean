/- plays: a piece. -/
import Derived.Test.YtgpimonjdhbdmaaPlaysTail
namespace Go.Proofs.Ytgpimonjdhbdmaa
open Go.RowKit

set_option maxHeartbeats 4000000 in
set_option maxRecDepth 1000000 in
theorem plays_5 (w : World) (G : Nat → Nat) (ws : World) (H : Nat → Nat) (P nn O g cap g2 cap2 : Nat) (K A B : Int) (la : Option Addr) (n lc : Nat) (xs : List Int) (ma : Option Addr) (k mc : Nat) (ys : List (Int × Int)) (D R E Q : Nat) (gv gr : Value) (l : List Int) (m : List (Int × Int)) (hF : Free w G) (hI : PlaysIn w G ws H P nn O g cap g2 cap2 K A B la n lc xs ma k mc ys) (hS : Stands ws H P nn D R E Q gv gr l m) (hK : K = 5)
    {u1 u2 u4 u8 u9 u10 u11 u12 u13 u14 u15 u16 u17 u18 u19 u20 u21 u22 u23 u24 u25 u26 u27 u28 u29 u30 u31 u32 u33 u34 u35 u36 u37 u38 u39 u40 u41 u42 u43 u44 u45 u46 u47 u48 u49 u50 u51 u52 u53 u54 u55 u56 u57 u58 u59 u60 u61 u62 u63 u64 u65 u66 u67 u68 u69 u70 u71 u72 u73 u74 u75 u76 u77 u78 u79 u80 u81 u82 u83 u84 u85 u86 u87 u88 u89 u90 u91 u92 u93 u94 u95 u96 u97 u98 u99 u100 u101 u102 u103 u104 u105 u106 u107 u108 u109 u110 u111 u112 u113 u114 u115 u116 u117 u118 u119 u120 u121 u122 u123 u124 u125 u126 u127 u128 u129 u130 u131 u132 u133 u134 u135 u136 u137 u138 u139 u140 u141 u142 u143 u144 u145 u146 u147 u148 u149 u150 u151 u152 u153 u154 u155 u156 u157 u158 u159 u160 u161 u162 u163 u164 u165 u166 u167 u168 u169 u170 u171 u172 u173 u174 u175 u176 u177 u178 u179 u180 u181 u182 u183 u184 u185 u186 u187 u188 u189 u190 u191 u192 u193 u194 u195 u196 u197 u198 u199 u200 u201 u202 u203 u204 u205 u206 u207 u208 u209 u210 u211 u212 u213 u214 u215 u216 u217 u218 u219 u220 u221 u222 u223 u224 u225 u226 u227 u228 u229 u230 u231 u232 u233 u234 u235 u236 u237 u238 u239 u240 u241 u242 u243 u244 u245 : Value} :
    Code.wp Try.prog playsTail3 (bodyPost Try.prog Try.f22 fun e w' => e = .returned (.bool true) ∧ ∃ G', Moves w G w' G' ∧ StandsA w' G' P nn) ⟨#[.pointer (some ⟨P, 0, none⟩), u1, u2, .pointer (some ⟨O, 0, none⟩), u4, .slice (some ⟨g, 0, none⟩) n cap, .slice (some ⟨g2, 0, none⟩) k cap2, .bool true, u8, u9, u10, u11, u12, u13, u14, u15, u16, u17, u18, u19, u20, u21, u22, u23, u24, u25, u26, u27, u28, u29, u30, u31, u32, u33, u34, u35, u36, u37, u38, u39, u40, u41, u42, u43, u44, u45, u46, u47, u48, u49, u50, u51, u52, u53, u54, u55, u56, u57, u58, u59, u60, u61, u62, u63, u64, u65, u66, u67, u68, u69, u70, u71, u72, u73, u74, u75, u76, u77, u78, u79, u80, u81, u82, u83, u84, u85, u86, u87, u88, u89, u90, u91, u92, u93, u94, u95, u96, u97, u98, u99, u100, u101, u102, u103, u104, u105, u106, u107, u108, u109, u110, u111, u112, u113, u114, u115, u116, u117, u118, u119, u120, u121, u122, u123, u124, u125, u126, u127, u128, u129, u130, u131, u132, u133, u134, u135, u136, u137, u138, u139, u140, u141, u142, u143, u144, u145, u146, u147, u148, u149, u150, u151, u152, u153, u154, u155, u156, u157, u158, u159, u160, u161, u162, u163, u164, u165, u166, u167, u168, u169, u170, u171, u172, u173, u174, u175, u176, u177, u178, u179, u180, u181, u182, u183, u184, u185, u186, u187, u188, u189, u190, u191, u192, u193, u194, u195, u196, u197, u198, u199, u200, u201, u202, u203, u204, u205, u206, u207, u208, u209, u210, u211, u212, u213, u214, u215, u216, u217, u218, u219, u220, u221, u222, u223, u224, u225, u226, u227, u228, u229, u230, u231, u232, u233, u234, u235, u236, u237, u238, u239, u240, u241, u242, u243, u244, u245], []⟩ ws := by
  subst hK
  obtain ⟨c0, c1, c2, c3, c4⟩ := hI.cells
  obtain ⟨cA, cB, cC, cD, _, _, _⟩ := hS.pair.cells
  have hn := hI.hn
  have hk := hI.hk
  have ha1 := hI.a1
  have hb1 := hI.b1
  have hl := hS.hl
  have hm := hS.hm
  have hOlt := hI.lt
  have hOo := hI.oo
  have hPlt := hS.pair.lt
  have hPo := hS.pair.own
  have HF := Lib.hid hF
  have HI := Lib.hid hI
  have HS := Lib.hid hS
  clear hF hI hS
  conv => arg 2; whnf
  dsimp only
  go_upto_block 0 with fail
  go_cut [7] (fun s7 wx => s7 = .bool true ∧ ∃ H', Adv (fun o => o ≠ 0 ∧ o ≠ 7 ∧ o ≠ 8) ws H wx H' ∧ ∃ D R E Q gv gr l m, Stands wx H' P nn D R E Q gv gr l m)
  case rest =>
    obtain ⟨rfl, H', ha, D', R', E', Q', gv', gr', l', m', hs⟩ := hcut
    rename_i a0
    exact a0 _ _ (plays_tail w G wc H' P nn O g cap g2 cap2 5 A B la n lc xs ma k mc ys D' R' E' Q' gv' gr' l' m' HF.out (HI.out.adv' ha (by omega) (by omega) (by omega)) hs)
  case first =>
    have HI1 := Lib.hid (HI.out.adv' (S := fun _ => False) ((Adv.refl _ ws H).drew) id id id)
    have HS1 := Lib.hid (HS.out.adv0 ((Adv.refl _ ws H).drew))
    go_upto_region 11 with fail
    by_cases hroom : m.length + k ≤ 128
    · go_region_held3 (fun w' => w'.cell? ⟨P, 1, none⟩ = some (.pointer (some ⟨R, 0, none⟩)) ∧ w'.cell? ⟨P, 3, none⟩ = some (.pointer (some ⟨Q, 0, none⟩)) ∧ w'.cell? ⟨O, 4, none⟩ = some (.slice ma k mc)) (first | exact ⟨cB, cD, c4⟩ | exact KU2.out | exact KE2.out | exact KU.out | exact KE.out)
        (first
          | (go_at_call 13; refine (pushPR GE 2 R m ys _ k cap2 _ HUE.out HI1.out.hm hroom HIE.out.rr).mono ?_; rintro e w' ⟨rfl, GU2, ha, hp⟩; have HAU2 := Lib.hid ((HAE.out.mono fun _ h => .inr h).trans (ha.mono (T := fun o => o = 2 ∨ o = 4) fun _ h => .inl h)); have HPU2 := Lib.hid hp; have HPE2 := Lib.hid (HPE.out.adv ha (by omega)); have KU2 := Lib.hid (And.intro (HAU2.out.cell_some (p := ⟨P, 1, none⟩) cB (by show ¬ (H P = 2 ∨ H P = 4); omega)) (And.intro (HAU2.out.cell_some (p := ⟨P, 3, none⟩) cD (by show ¬ (H P = 2 ∨ H P = 4); omega)) (HAU2.out.cell_some (p := ⟨O, 4, none⟩) c4 (by show ¬ (H O = 2 ∨ H O = 4); omega)))); clear ha hp)
          | (go_at_call 13; refine (pushPR H 2 R m ys _ k cap2 _ HS1.out.r HI1.out.hm hroom HI1.out.rr).mono ?_; rintro e w' ⟨rfl, GU, ha, hp⟩; have HAU := Lib.hid ha; have HPU := Lib.hid hp; have HIU := Lib.hid (HI1.out.adv' ha (by omega) (by omega) (by omega)); have HEU := Lib.hid (HS1.out.q.adv ha (by omega)); have KU := Lib.hid (And.intro (ha.cell_some (p := ⟨P, 1, none⟩) cB (by show ¬ (H P = 2); omega)) (And.intro (ha.cell_some (p := ⟨P, 3, none⟩) cD (by show ¬ (H P = 2); omega)) (ha.cell_some (p := ⟨O, 4, none⟩) c4 (by show ¬ (H O = 2); omega)))); clear ha hp)
          | (go_at_call 41; refine (refPushR GU 4 Q m ys ma k mc _ HEU.out HI1.out.hm hroom HIU.out.hy).mono ?_; rintro e w' ⟨rfl, GE2, ha, hp⟩; have HAE2 := Lib.hid ((HAU.out.mono fun _ h => .inl h).trans (ha.mono (T := fun o => o = 2 ∨ o = 4) fun _ h => .inr h)); have HPE2 := Lib.hid hp; have HPU2 := Lib.hid (HPU.out.adv ha (by omega)); have KE2 := Lib.hid (And.intro (HAE2.out.cell_some (p := ⟨P, 1, none⟩) cB (by show ¬ (H P = 2 ∨ H P = 4); omega)) (And.intro (HAE2.out.cell_some (p := ⟨P, 3, none⟩) cD (by show ¬ (H P = 2 ∨ H P = 4); omega)) (HAE2.out.cell_some (p := ⟨O, 4, none⟩) c4 (by show ¬ (H O = 2 ∨ H O = 4); omega)))); clear ha hp)
          | (go_at_call 41; refine (refPushR H 4 Q m ys ma k mc _ HS1.out.q HI1.out.hm hroom HI1.out.hy).mono ?_; rintro e w' ⟨rfl, GE, ha, hp⟩; have HAE := Lib.hid ha; have HPE := Lib.hid hp; have HIE := Lib.hid (HI1.out.adv' ha (by omega) (by omega) (by omega)); have HUE := Lib.hid (HS1.out.r.adv ha (by omega)); have KE := Lib.hid (And.intro (ha.cell_some (p := ⟨P, 1, none⟩) cB (by show ¬ (H P = 4); omega)) (And.intro (ha.cell_some (p := ⟨P, 3, none⟩) cD (by show ¬ (H P = 4); omega)) (ha.cell_some (p := ⟨O, 4, none⟩) c4 (by show ¬ (H O = 4); omega)))); clear ha hp))
      all_goals
        go_wp2_with fail
        go_meet
        have hlen : (m ++ ys).length ≤ 128 := by rw [List.length_append, HI.out.hm]; exact hroom
        first
          | exact ⟨by simp, GU2, ((Adv.refl _ ws H).drew).trans (HAU2.out.mono fun _ h => by omega), D, R, E, Q, gv, gr, _, _, HS1.out.putR HAU2.out HPU2.out HPE2.out hlen⟩
          | exact ⟨by simp, GE2, ((Adv.refl _ ws H).drew).trans (HAE2.out.mono fun _ h => by omega), D, R, E, Q, gv, gr, _, _, HS1.out.putR HAE2.out HPU2.out HPE2.out hlen⟩
    · have hfull : 128 < m.length + k := by omega
      have hlu : ∀ q, Calls Try.prog 13 #[.pointer (some ⟨R, 0, none⟩), .slice (some ⟨g2, 0, none⟩) k cap2] (ws.drewN q) fun e w' => e = .returned (.int .i64 4) ∧ w' = ws.drewN q := fun q => (pushPR_no H 2 R m _ k cap2 _ (HS.out.r.drewN q) (by omega) (by omega) hfull).mono fun e w' h => ⟨h.1, h.2.symm⟩
      have hlr : ∀ q, Calls Try.prog 41 #[.pointer (some ⟨Q, 0, none⟩), .slice ma k mc] (ws.drewN q) fun e w' => e = .returned (.int .i64 4) ∧ w' = ws.drewN q := fun q => (refPushR_no H 4 Q m ma k mc _ (HS.out.q.adv ((Adv.refl (fun _ => False) ws H).drewN q) id) (by omega) (by omega) hfull).mono fun e w' h => ⟨h.1, h.2.symm⟩
      have HLU := Lib.hid hlu
      have HLR := Lib.hid hlr
      clear hlu hlr
      go_quiet ((first | (go_at_call 13; exact Calls.quiet_of_same (HLU.out _)) | (go_at_call 41; exact Calls.quiet_of_same (HLR.out _))))
      go_wp2_with fail
      go_meet
      have hd := (Adv.refl (fun o => o ≠ 0 ∧ o ≠ 7 ∧ o ≠ 8) ws H).drewN nq
      exact ⟨by simp, H, hd, D, R, E, Q, gv, gr, l, m, HS.out.adv0 ((Adv.refl _ ws H).drewN nq)⟩

end Go.Proofs.Ytgpimonjdhbdmaa
