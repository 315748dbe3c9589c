/- made, behind its loops. -/
import Derived.Test.YtgpimonjdhbdmaaMade3
namespace Go.Proofs.Ytgpimonjdhbdmaa
open Go.RowKit

theorem pair_frozen {w : World} {G : Nat → Nat} {P D R E Q : Nat} {gv gr : Value} (h : PairS w G P D R E Q gv gr) (a : Nat) (u : Value) (o : Obj) (j : Nat) : ((w.setCell ⟨P, a, none⟩ u).alloc o).frozen? ⟨P, j, none⟩ = false := by
  obtain ⟨h1, h2⟩ := h.set a u
  have hlt : P < (w.setCell ⟨P, a, none⟩ u).heap.size := (Array.getElem?_eq_some_iff.1 h2).1
  have h3 : ((w.setCell ⟨P, a, none⟩ u).alloc o).heap[P]? = (w.setCell ⟨P, a, none⟩ u).heap[P]? := Below.heap_alloc _ _ _ hlt
  rw [h2] at h3
  unfold World.frozen?
  rw [h3]
  simp
theorem Row.new_at (w : World) (G : Nat → Nat) (e size i n g : Nat) (xs : List Value) (hn : n ≤ maxLen) (hx : xs.length = n * size) (hg : g = w.heap.size) : Row e size (w.alloc (.cells xs.toArray e)) (own1 w G i) i (.slice (some ⟨g, 0, none⟩) n n) n xs := by
  rw [hg]; exact Row.new w G e size i n xs hn hx
set_option maxHeartbeats 2000000 in
set_option maxRecDepth 100000 in
theorem made_tail (w ws : World) (G G0 H : Nat → Nat) (P D R E Q D1 R1 : Nat) (gv gr : Value) (la : Option Addr) (n lc : Nat) (l : List Int) (ma : Option Addr) (k mc : Nat) (m : List (Int × Int)) (hA : MadeArgs w G G0 P D R E Q gv gr la n l ma k m)
    (hs : Adv (fun i => 7 ≤ i) w G0 ws H) (hD : PU ws H 1 D1 l) (hR : PR ws H 2 R1 m) {b : Bool} (hb : b = true)
    {u3 u4 u5 u6 u7 u8 u13 u14 u15 u16 u17 u18 u19 u20 u21 u22 u23 u24 u25 u26 u27 u28 u29 u30 u31 u32 u33 u34 u35 u36 u37 u38 u39 u40 u41 u42 u43 u44 u45 u46 u47 u48 u49 u50 u51 u52 u53 u54 u55 u56 u57 u58 u59 u60 u61 u62 u63 u64 u65 u66 u67 u68 u69 u70 u71 u72 u73 u74 u75 u76 u77 u78 u79 u80 u81 u82 u83 u84 u85 u86 u87 u88 u89 u90 u91 u92 u93 u94 u95 u96 u97 u98 u99 u100 u101 u102 u103 : Value} :
    Code.wp Try.prog madeTail (bodyPost Try.prog Try.f45 fun e w' => e = .returned (.bool true) ∧ MadeOut w G P gv gr b l m w') ⟨#[.pointer (some ⟨P, 0, none⟩), .slice la n lc, .slice ma k mc, u3, u4, u5, u6, u7, u8, .pointer (some ⟨D1, 0, none⟩), .pointer (some ⟨R1, 0, none⟩), .int .i64 0, .bool true, u13, u14, u15, u16, u17, u18, u19, u20, u21, u22, u23, u24, u25, u26, u27, u28, u29, u30, u31, u32, u33, u34, u35, u36, u37, u38, u39, u40, u41, u42, u43, u44, u45, u46, u47, u48, u49, u50, u51, u52, u53, u54, u55, u56, u57, u58, u59, u60, u61, u62, u63, u64, u65, u66, u67, u68, u69, u70, u71, u72, u73, u74, u75, u76, u77, u78, u79, u80, u81, u82, u83, u84, u85, u86, u87, u88, u89, u90, u91, u92, u93, u94, u95, u96, u97, u98, u99, u100, u101, u102, u103], []⟩ ws := by
  obtain ⟨i0, hi, hz0, hz1, hz2⟩ := info_parts Try.info32
  obtain ⟨i1, hi1, hy0, hy1, hy2⟩ := info_parts Try.info43
  have hn := hA.hn
  have hk := hA.hk
  have hp0 := hA.pairL hs
  obtain ⟨cA, cB, cC, cD, cE, cF, cfr⟩ := hp0.cells
  have cf0 := cfr 0
  have cf1 := cfr 1
  have HA := Lib.hid hA
  have HS := Lib.hid hs
  have HD := Lib.hid hD
  have HR := Lib.hid hR
  have HP := Lib.hid hp0
  clear hA hs hD hR hp0 cfr
  conv => arg 2; whnf
  dsimp only
  go_upto_region 14 with fail
  go_cut [] (fun wx => Adv (fun i => i = 5 ∨ 7 ≤ i) w G0 wx H ∧ PairS wx H P D1 R1 E Q gv gr ∧ PU wx H 1 D1 l ∧ PR wx H 2 R1 m)
  case first =>
    go_wp2_with fail
    go_meet
    obtain ⟨sA, hp1⟩ := HP.out.set01 (D' := D1) (R' := R1)
    exact ⟨(HS.out.mono fun _ h => .inr h).trans (sA.mono fun _ h => .inl h), hp1, HD.out.adv sA (by omega), HR.out.adv sA (by omega)⟩
  case rest =>
  clear cA cB cC cD cE cF cf0 cf1
  obtain ⟨hs, hp, hd, hr⟩ := hcut
  have hal := (Adv.refl (fun _ => False) wc H).alloc (.cells #[] 32) 3
  have hsr := Row.new wc H 32 1 3 0 [] (Nat.zero_le _) rfl
  obtain ⟨G1, hG1⟩ : ∃ G1, G1 = own1 wc H 3 := ⟨_, rfl⟩
  rw [← hG1] at hal hsr
  have HS := Lib.hid ((hs.trans (hal.mono (fun _ h => h.elim))).mono (T := fun i => i = 5 ∨ 7 ≤ i ∨ i = 3 ∨ i = 4) (fun _ h => by omega))
  have HSR := Lib.hid hsr
  have HP1 := Lib.hid (hp.adv hal id)
  have HD := Lib.hid (hd.adv hal id)
  have HR := Lib.hid (hr.adv hal id)
  have HX := Lib.hid (HA.out.xr HS.out (by omega))
  clear hs hp hd hr hal hsr hG1
  go_wp2_with (first
    | (at_builtin; refine wpList_append_reads rfl (.tmp 77) (.tmp 78) 22 rfl 32 i0 (.int .u16 0) 1 2 Try.underlying22 hi hz0 hz1 hz2 rfl (by decide) G1 3 (some ⟨wc.heap.size, 0, none⟩) 0 0 [] rfl HSR.out la n lc (cellsU l) rfl (by rw [cellsU_length, HA.out.hl, Nat.mul_one]) HX.out (cellsU_one l) (by unfold maxLen; omega) (by omega) ?_; intro va1 vc1 w1 G2 h1 h2; rw [Nat.zero_add, List.nil_append] at h1; rw [Nat.zero_add]; have HB := Lib.hid (Pile.box (T := 61) h1); have HAB := Lib.hid ((h2.alloc (.cells #[.slice va1 n vc1] 61) 3).alloc (.cells #[] 43) 4); have HR1 := Lib.hid (Row.new_at (w1.alloc (.cells #[.slice va1 n vc1] 61)) (own1 w1 G2 3) 43 2 4 0 (w1.heap.size + 1) [] (Nat.zero_le _) rfl (by simp)); have HY := Lib.hid (HA.out.yr (HS.out.trans (HAB.out.mono (T := fun i => i = 5 ∨ 7 ≤ i ∨ i = 3 ∨ i = 4) (fun i (h : i = 3) => by omega))) (by omega)); clear h1 h2)
    | (at_builtin; refine wpList_append_reads rfl (.tmp 82) (.tmp 83) 36 rfl 43 i1 (.agg #[.int .i64 0, .int .u16 0]) 2 16 Try.underlying36 hi1 hy0 hy1 hy2 rfl (by decide) (own1 (w1.alloc (.cells #[.slice va1 n vc1] 61)) (own1 w1 G2 3) 4) 4 (some ⟨w1.heap.size + 1, 0, none⟩) 0 0 [] rfl HR1.out ma k mc (cellsR m) rfl (by rw [cellsR_length, HA.out.hm]) HY.out (cellsR_one m) (by unfold maxLen; omega) (by omega) ?_; intro va2 vc2 w2 G3 h1 h2; rw [Nat.zero_add, List.nil_append] at h1; rw [Nat.zero_add]; have hp2 := (HP1.out.adv HAB.out (by omega)).adv h2 (by omega); have hPlt := hp2.lt; obtain ⟨_, _, cC, cD, _, _, cfr⟩ := hp2.cells; have cf2 := ((hp2.adv ((Adv.refl (fun _ => False) _ _).alloc (.cells #[.slice va2 k vc2] 64) 4) id).cells).2.2.2.2.2.2 2; have cf3 := pair_frozen hp2 2 (.pointer (some ⟨w1.heap.size, 0, none⟩)) (.cells #[.slice va2 k vc2] 64) 3; have HP2 := Lib.hid hp2; have H1 := Lib.hid h1; have H2 := Lib.hid h2; clear h1 h2 hp2 cfr))
  go_ret
  obtain ⟨sA, hp1⟩ := HP2.out.set23 (E' := w1.heap.size) (Q' := w2.heap.size)
  have hal := (Adv.refl (fun _ => False) ((w2.setCell ⟨P, 2, none⟩ (.pointer (some ⟨w1.heap.size, 0, none⟩))).setCell ⟨P, 3, none⟩ (.pointer (some ⟨w2.heap.size, 0, none⟩))) G3).alloc (.cells #[.slice va2 k vc2] 64) 4
  have hall := ((HS.out.trans (HAB.out.mono (T := fun i => i = 5 ∨ 7 ≤ i ∨ i = 3 ∨ i = 4) (fun i (h : i = 3) => by omega))).trans ((H2.out.mono (T := fun i => i = 5 ∨ 7 ≤ i ∨ i = 3 ∨ i = 4) (fun i (h : i = 4) => by omega)).trans (sA.mono (fun i (h : i = 5) => by omega)))).trans (hal.mono fun _ h => h.elim)
  have hQ := Pile.box (T := 64) (H1.out.adv sA (by omega))
  rw [show ((w2.setCell ⟨P, 2, none⟩ (.pointer (some ⟨w1.heap.size, 0, none⟩))).setCell ⟨P, 3, none⟩ (.pointer (some ⟨w2.heap.size, 0, none⟩))).heap.size = w2.heap.size from by simp [World.setCell]] at hQ
  have hB := HA.out
  have hg1 := graft_is (G := G) hall (hB.no (i := 1) (by omega) (by omega))
  have hg2 := graft_is (G := G) hall (hB.no (i := 2) (by omega) (by omega))
  have hg3 := graft_is (G := G) hall (hB.no (i := 3) (by omega) (by omega))
  have hg4 := graft_is (G := G) hall (hB.no (i := 4) (by omega) (by omega))
  refine ⟨rfl, _, .inl ⟨hb, hB.fin hall (by omega), D1, R1, w1.heap.size, w2.heap.size, ⟨(hp1.adv hal id).head, ?_⟩, ?_, ?_, ?_, ?_⟩⟩
  · rw [graft_old hB.pair.lt]; exact hB.pair.own
  · exact ((((HD.out.adv HAB.out (by omega)).adv H2.out (by omega)).adv sA (by omega)).adv hal id).relabel hg1
  · exact ((((HR.out.adv HAB.out (by omega)).adv H2.out (by omega)).adv sA (by omega)).adv hal id).relabel hg2
  · refine EU.relabel ⟨.slice va1 n vc1, ?_⟩ hg3
    rw [hB.hl]
    exact (((HB.out.adv ((Adv.refl (fun _ => False) (w1.alloc (.cells #[.slice va1 n vc1] 61)) (own1 w1 G2 3)).alloc (.cells #[] 43) 4) id).adv H2.out (by omega)).adv sA (by omega)).adv hal id
  · refine ER.relabel ⟨.slice va2 k vc2, ?_⟩ hg4
    rw [hB.hm]; exact hQ
end Go.Proofs.Ytgpimonjdhbdmaa
