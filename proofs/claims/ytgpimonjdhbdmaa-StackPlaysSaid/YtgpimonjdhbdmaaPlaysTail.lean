/- plays: a piece. -/
import Derived.Test.YtgpimonjdhbdmaaPlaysIn
namespace Go.Proofs.Ytgpimonjdhbdmaa
open Go.RowKit

theorem Stands.fold6 {w : World} {H : Nat → Nat} {P n D R E Q : Nat} {gv gr : Value} {l : List Int} {m : List (Int × Int)} (h : Stands w H P n D R E Q gv gr l m) : Stands w (fold6 H) P n D R E Q gv gr l m := by
  have hf : ∀ i, ¬ (7 ≤ i ∧ i ≤ 10) → ∀ b, b < w.heap.size → H b = i → Ytgpimonjdhbdmaa.fold6 H b = i := fun i hi b _ e => fold6_is e hi
  obtain ⟨us, u1, u2⟩ := h.gu
  obtain ⟨vs, v1, v2⟩ := h.gr
  exact ⟨⟨h.pair.head, fold6_is h.pair.own (by omega)⟩, h.d.relabel (hf 1 (by omega)), h.r.relabel (hf 2 (by omega)), h.e.relabel (hf 3 (by omega)), h.q.relabel (hf 4 (by omega)), ⟨us, u1.relabel (hf 11 (by omega)), fun i v hv => (u2 i v hv).mono (hf 6 (by omega))⟩,
    ⟨vs, v1.relabel (hf 12 (by omega)), fun i v hv => (v2 i v hv).mono (hf 6 (by omega))⟩, h.hl, h.hm⟩
theorem atE_zero {m : List (Int × Int)} {A : Int} (h : (atE m 0 A == 0) = true) : ∃ m0 v, m = m0 ++ [(A, v)] := by
  rcases List.eq_nil_or_concat m with h0 | ⟨m0, c, h0⟩
  · subst h0; exact absurd h (by rw [show atE [] 0 A = 3 from rfl]; decide)
  · rw [List.concat_eq_append] at h0
    subst h0
    have h1 := atE_in (l := m0 ++ [c]) (j := 0) (k := m0.length) (kind := A) (c := c) (by simp) (by simp)
    rw [show ((0 : Nat) : Int) = 0 from rfl] at h1
    rw [h1] at h
    by_cases hc : c.1 = A
    · exact ⟨m0, c.2, by rw [← hc]⟩
    · rw [if_neg hc] at h; exact absurd h (by decide)
theorem row_zero {e size : Nat} {w : World} {G : Nat → Nat} {a : Option Addr} {n c i : Nat} {xs : List Value} (h : Row e size w G i (.slice a n c) n xs) (hn : 0 < n) {ad : Addr} (e1 : a = some ad) : G ad.block = i := by
  obtain ⟨g, rfl, _, _⟩ := h.addr hn
  cases e1
  exact (h.at hn).2.1
theorem Stands.putU {w w' : World} {G G' : Nat → Nat} {P n D R E Q : Nat} {gv gr : Value} {l l' : List Int} {m : List (Int × Int)} (h : Stands w G P n D R E Q gv gr l m) (ha : Adv (fun o => o = 1 ∨ o = 3) w G w' G') (hd : PU w' G' 1 D l') (he : EU w' G' 3 E l') (hl : l'.length ≤ 256) :
    Stands w' G' P n D R E Q gv gr l' m :=
  ⟨h.pair.adv ha (by omega), hd, h.r.adv ha (by omega), he, h.q.adv ha (by omega), h.gu.adv ha (by omega) (by rintro _ rfl; omega), h.gr.adv ha (by omega) (by rintro _ rfl; omega), hl, h.hm⟩
theorem Stands.putR {w w' : World} {G G' : Nat → Nat} {P n D R E Q : Nat} {gv gr : Value} {l : List Int} {m m' : List (Int × Int)} (h : Stands w G P n D R E Q gv gr l m) (ha : Adv (fun o => o = 2 ∨ o = 4) w G w' G') (hd : PR w' G' 2 R m') (he : ER w' G' 4 Q m') (hm : m'.length ≤ 128) :
    Stands w' G' P n D R E Q gv gr l m' :=
  ⟨h.pair.adv ha (by omega), h.d.adv ha (by omega), hd, h.e.adv ha (by omega), he, h.gu.adv ha (by omega) (by rintro _ rfl; omega), h.gr.adv ha (by omega) (by rintro _ rfl; omega), h.hl, hm⟩
theorem PlaysIn.cr {w : World} {G : Nat → Nat} {ws : World} {H : Nat → Nat} {P nn O g cap g2 cap2 : Nat} {K A B : Int} {la : Option Addr} {n lc : Nat} {xs : List Int} {ma : Option Addr} {k mc : Nat} {ys : List (Int × Int)}
    (h : PlaysIn w G ws H P nn O g cap g2 cap2 K A B la n lc xs ma k mc ys) : Reads ws (some ⟨g, 0, none⟩) (cellsU xs) := by
  have h1 := h.c.takeU n
  rwa [← h.hl, List.take_left] at h1
theorem PlaysIn.rr {w : World} {G : Nat → Nat} {ws : World} {H : Nat → Nat} {P nn O g cap g2 cap2 : Nat} {K A B : Int} {la : Option Addr} {n lc : Nat} {xs : List Int} {ma : Option Addr} {k mc : Nat} {ys : List (Int × Int)}
    (h : PlaysIn w G ws H P nn O g cap g2 cap2 K A B la n lc xs ma k mc ys) : Reads ws (some ⟨g2, 0, none⟩) (cellsR ys) := by
  have h1 := h.r.reads.takeR k
  rwa [← h.hm, List.take_left] at h1
noncomputable def playsTail : Code := (codeTail 31 (Try.f22.body.getD .skip)).getD .skip
noncomputable def playsTail3 : Code := (codeTail 3 (Try.f22.body.getD .skip)).getD .skip
set_option maxHeartbeats 4000000 in
set_option maxRecDepth 1000000 in
theorem plays_tail (w : World) (G : Nat → Nat) (ws : World) (H : Nat → Nat) (P nn O g cap g2 cap2 : Nat) (K A B : Int) (la : Option Addr) (n lc : Nat) (xs : List Int) (ma : Option Addr) (k mc : Nat) (ys : List (Int × Int)) (D R E Q : Nat) (gv gr : Value) (l : List Int) (m : List (Int × Int)) (hF : Free w G) (hI : PlaysIn w G ws H P nn O g cap g2 cap2 K A B la n lc xs ma k mc ys) (hS : Stands ws H P nn D R E Q gv gr l m)
    {u1 u2 u4 u8 u9 u10 u11 u12 u13 u14 u15 u16 u17 u18 u19 u20 u21 u22 u23 u24 u25 u26 u27 u28 u29 u30 u31 u32 u33 u34 u35 u36 u37 u38 u39 u40 u41 u42 u43 u44 u45 u46 u47 u48 u49 u50 u51 u52 u53 u54 u55 u56 u57 u58 u59 u60 u61 u62 u63 u64 u65 u66 u67 u68 u69 u70 u71 u72 u73 u74 u75 u76 u77 u78 u79 u80 u81 u82 u83 u84 u85 u86 u87 u88 u89 u90 u91 u92 u93 u94 u95 u96 u97 u98 u99 u100 u101 u102 u103 u104 u105 u106 u107 u108 u109 u110 u111 u112 u113 u114 u115 u116 u117 u118 u119 u120 u121 u122 u123 u124 u125 u126 u127 u128 u129 u130 u131 u132 u133 u134 u135 u136 u137 u138 u139 u140 u141 u142 u143 u144 u145 u146 u147 u148 u149 u150 u151 u152 u153 u154 u155 u156 u157 u158 u159 u160 u161 u162 u163 u164 u165 u166 u167 u168 u169 u170 u171 u172 u173 u174 u175 u176 u177 u178 u179 u180 u181 u182 u183 u184 u185 u186 u187 u188 u189 u190 u191 u192 u193 u194 u195 u196 u197 u198 u199 u200 u201 u202 u203 u204 u205 u206 u207 u208 u209 u210 u211 u212 u213 u214 u215 u216 u217 u218 u219 u220 u221 u222 u223 u224 u225 u226 u227 u228 u229 u230 u231 u232 u233 u234 u235 u236 u237 u238 u239 u240 u241 u242 u243 u244 u245 : Value} :
    Code.wp Try.prog playsTail (bodyPost Try.prog Try.f22 fun e w' => e = .returned (.bool true) ∧ ∃ G', Moves w G w' G' ∧ StandsA w' G' P nn) ⟨#[.pointer (some ⟨P, 0, none⟩), u1, u2, .pointer (some ⟨O, 0, none⟩), u4, .slice (some ⟨g, 0, none⟩) n cap, .slice (some ⟨g2, 0, none⟩) k cap2, .bool true, u8, u9, u10, u11, u12, u13, u14, u15, u16, u17, u18, u19, u20, u21, u22, u23, u24, u25, u26, u27, u28, u29, u30, u31, u32, u33, u34, u35, u36, u37, u38, u39, u40, u41, u42, u43, u44, u45, u46, u47, u48, u49, u50, u51, u52, u53, u54, u55, u56, u57, u58, u59, u60, u61, u62, u63, u64, u65, u66, u67, u68, u69, u70, u71, u72, u73, u74, u75, u76, u77, u78, u79, u80, u81, u82, u83, u84, u85, u86, u87, u88, u89, u90, u91, u92, u93, u94, u95, u96, u97, u98, u99, u100, u101, u102, u103, u104, u105, u106, u107, u108, u109, u110, u111, u112, u113, u114, u115, u116, u117, u118, u119, u120, u121, u122, u123, u124, u125, u126, u127, u128, u129, u130, u131, u132, u133, u134, u135, u136, u137, u138, u139, u140, u141, u142, u143, u144, u145, u146, u147, u148, u149, u150, u151, u152, u153, u154, u155, u156, u157, u158, u159, u160, u161, u162, u163, u164, u165, u166, u167, u168, u169, u170, u171, u172, u173, u174, u175, u176, u177, u178, u179, u180, u181, u182, u183, u184, u185, u186, u187, u188, u189, u190, u191, u192, u193, u194, u195, u196, u197, u198, u199, u200, u201, u202, u203, u204, u205, u206, u207, u208, u209, u210, u211, u212, u213, u214, u215, u216, u217, u218, u219, u220, u221, u222, u223, u224, u225, u226, u227, u228, u229, u230, u231, u232, u233, u234, u235, u236, u237, u238, u239, u240, u241, u242, u243, u244, u245], []⟩ ws := by
  obtain ⟨c0, c1, c2, c3, c4⟩ := hI.cells
  have hn := hI.hn
  have hk := hI.hk
  have HF := Lib.hid hF
  have HI := Lib.hid hI
  have HS := Lib.hid hS
  clear hF hI hS
  conv => arg 2; whnf
  dsimp only
  go_wp2_with fail
  refine (whole_any H 7 8 g n cap la lc xs g2 k cap2 ma mc ys ws HI.out.hl hn HI.out.hm hk HI.out.c HI.out.r HI.out.hx HI.out.hy).mono ?_
  rintro e w4 ⟨rfl, q, rfl⟩
  have HD := Lib.hid ((Adv.refl (fun _ => False) ws H).drewN q)
  go_upto_block 1 with fail
  go_cut [] (fun wx => Adv (fun o => o = 7 ∨ o = 8) ws H wx H ∧ RowA 32 1 wx H 7 g (n + 2) cap ∧ RowA 43 2 wx H 8 g2 (k + 2) cap2)
  case first =>
    go_wp2_with fail
    go_loopw [17] (fun s17 wr => ∃ i : Nat, i ≤ n ∧ s17 = .int .i64 i ∧ Adv (fun o => o = 7 ∨ o = 8) ws H wr H ∧ RowA 32 1 wr H 7 g (n + 2) cap ∧ RowA 43 2 wr H 8 g2 (k + 2) cap2) (fun s17 _ => n - (intOf s17).toNat)
    case atStart => exact ⟨0, by omega, rfl, HD.out.mono (fun _ h => h.elim), RowA.adv ⟨_, HI.out.c⟩ HD.out id, RowA.adv ⟨_, HI.out.r⟩ HD.out id⟩
    case round =>
      obtain ⟨i, hi, rfl, h1, h2, h3⟩ := hrel
      by_cases hlt : i < n
      · obtain ⟨u, b1, b2, b3, b4, b5, b6⟩ := h2.at i (by omega)
        have H1 := Lib.hid h1
        have H2 := Lib.hid h2
        have H3 := Lib.hid h3
        clear h1 h2 h3
        go_wp2_with fail
        go_roundw
        case rel =>
          obtain ⟨s1, s2⟩ := H2.out.store i (by omega) (.int .u16 4321)
          exact ⟨i + 1, by omega, by go_num, H1.out.trans (s1.mono fun _ h => .inl h), s2, H3.out.adv s1 (by omega)⟩
        case measure => simp [intOf]; omega
      · have H1 := Lib.hid h1
        have H2 := Lib.hid h2
        have H3 := Lib.hid h3
        clear h1 h2 h3
        go_wp2_with fail
        go_meet
        exact ⟨H1.out, H2.out, H3.out⟩
  case rest =>
  obtain ⟨h1, h2, h3⟩ := hcut
  obtain ⟨wA, rfl⟩ : ∃ x : World, x = wc := ⟨_, rfl⟩
  have HA := Lib.hid h1
  have HA2 := Lib.hid h2
  have HA3 := Lib.hid h3
  clear h1 h2 h3 HD
  go_upto_block 3 with fail
  go_cut [] (fun wx => Adv (fun o => o = 7 ∨ o = 8) ws H wx H)
  case first =>
    go_wp2_with fail
    go_loopw [18] (fun s18 wr => ∃ i : Nat, i ≤ k ∧ s18 = .int .i64 i ∧ Adv (fun o => o = 7 ∨ o = 8) ws H wr H ∧ RowA 43 2 wr H 8 g2 (k + 2) cap2) (fun s18 _ => k - (intOf s18).toNat)
    case atStart => exact ⟨0, by omega, rfl, HA.out, HA3.out⟩
    case round =>
      obtain ⟨i, hi, rfl, h1, h3⟩ := hrel
      by_cases hlt : i < k
      · obtain ⟨u, b1, b2, b3, b4, b5, b6⟩ := h3.at (i * 2) (by omega)
        obtain ⟨v, d1, d2, d3, d4, d5, d6⟩ := h3.at (i * 2 + 1) (by omega)
        have H1 := Lib.hid h1
        have H3 := Lib.hid h3
        clear h1 h3
        go_wp2_with fail
        go_roundw
        case rel =>
          obtain ⟨s1, s2⟩ := H3.out.store (i * 2) (by omega) (.int .i64 4321)
          obtain ⟨s3, s4⟩ := s2.store (i * 2 + 1) (by omega) (.int .u16 0)
          exact ⟨i + 1, by omega, by go_num, H1.out.trans ((s1.trans s3).mono fun _ h => .inr h), s4⟩
        case measure => simp [intOf]; omega
      · have H1 := Lib.hid h1
        clear h1 h3
        go_wp2_with fail
        go_meet
        exact H1.out
  case rest =>
  have HE := Lib.hid hcut
  clear hcut
  go_wp2_with fail
  go_ret
  have hs := HS.out.adv HE.out (by omega)
  have hall := HI.out.adv.trans (HE.out.mono fun o h => by omega)
  have hf : ∀ i, ¬ (7 ≤ i ∧ i ≤ 10) → ∀ b, b < wc.heap.size → H b = i → fold6 H b = i := fun i hi b _ e => fold6_is e hi
  exact ⟨rfl, fold6 H, Adv.fold6 hall HF.out, fold6_free _ _, D, R, E, Q, gv, gr, l, m, hs.fold6⟩

end Go.Proofs.Ytgpimonjdhbdmaa
