/- What StackKinds does behind its first tests. -/
import Derived.Test.YtgpimonjdhbdmaaKindsRest3
import Derived.Deep.RegionHeld3
import Derived.Deep.DeepCutAuto
import Derived.Deep.CutBlock
import Derived.Deep.LoopGhost
namespace Go.Proofs.Ytgpimonjdhbdmaa
open Go.RowKit

noncomputable def kindsTail2 : Code := (codeTail 22 (Try.f4.body.getD .skip)).getD .skip

set_option maxHeartbeats 2000000 in
set_option maxRecDepth 1000000 in
theorem stackKinds_rest2 (w ws : World) (G3 : Nat → Nat) (xa : Option Addr) (N c' R : Nat) (x : Int) (L : List (Int × Int)) (HL : Hid (L.length = N)) (HLR : Hid (Reads w xa (cellsR L)))
    (hN : N ≤ 128) (hN0 : N ≠ 0) (HA : Hid (Adv (· = 2) w (fun _ => 0) ws G3)) (HP : Hid (PR ws G3 2 R L))
    {u1 u2 u4 u5 u6 u7 u8 u10 u11 u12 u13 u14 u15 u16 u17 u18 u19 u20 u21 u22 u23 u24 u25 u26 u27 u28 u29 u30 u31 u32 u33 u34 u35 u36 u37 u38 u39 u40 u41 u42 u43 u44 u45 u46 u47 u48 u49 u50 u51 u52 u53 u54 u55 u56 u57 u58 u59 u60 u61 u62 u63 u64 u65 u66 u67 u68 u69 u70 u71 u72 u73 u74 u75 u76 u77 u78 u79 u80 u81 u82 u83 u84 u85 u86 u87 u88 u89 u90 u91 u92 u93 u94 u95 u96 u97 u98 u99 u100 u101 u102 u103 u104 u105 u106 u107 u108 u109 u110 u111 u112 u113 u114 u115 u116 u117 u118 u119 u120 u121 u122 u123 u124 u125 u126 u127 u128 u129 u130 u131 u132 u133 u134 u135 u136 u137 u138 u139 u140 u141 u142 u143 u144 u145 u146 u147 u148 u149 u150 u151 u152 u153 u154 u155 u156 u157 u158 u159 u160 u161 u162 u163 u164 u165 u166 u167 u168 u169 u170 u171 u172 u173 u174 u175 u176 u177 u178 u179 u180 u181 u182 u183 u184 u185 u186 u187 u188 u189 u190 u191 u192 u193 u194 u195 u196 u197 u198 u199 u200 u201 u202 u203 u204 u205 u206 u207 u208 u209 u210 u211 u212 u213 u214 u215 u216 u217 u218 u219 u220 u221 u222 u223 u224 u225 u226 u227 u228 u229 u230 u231 u232 u233 u234 u235 u236 u237 u238 u239 u240 u241 u242 u243 u244 u245 : Value} :
    Code.wp Try.prog kindsTail2 (bodyPost Try.prog Try.f4 fun e w' => e = .returned (.bool true) ∧ Below w.heap.size w w')
      ⟨#[.slice xa N c', u1, u2, .int .u16 x, u4, u5, u6, u7, u8, .pointer (some ⟨R, 0, none⟩), u10, u11, u12, u13, u14, u15, u16, u17, u18, u19, u20, u21, u22, u23, u24, u25, u26, u27, u28, u29, u30, u31, u32, u33, u34, u35, u36, u37, u38, u39, u40, u41, u42, u43, u44, u45, u46, u47, u48, u49, u50, u51, u52, u53, u54, u55, u56, u57, u58, u59, u60, u61, u62, u63, u64, u65, u66, u67, u68, u69, u70, u71, u72, u73, u74, u75, u76, u77, u78, u79, u80, u81, u82, u83, u84, u85, u86, u87, u88, u89, u90, u91, u92, u93, u94, u95, u96, u97, u98, u99, u100, u101, u102, u103, u104, u105, u106, u107, u108, u109, u110, u111, u112, u113, u114, u115, u116, u117, u118, u119, u120, u121, u122, u123, u124, u125, u126, u127, u128, u129, u130, u131, u132, u133, u134, u135, u136, u137, u138, u139, u140, u141, u142, u143, u144, u145, u146, u147, u148, u149, u150, u151, u152, u153, u154, u155, u156, u157, u158, u159, u160, u161, u162, u163, u164, u165, u166, u167, u168, u169, u170, u171, u172, u173, u174, u175, u176, u177, u178, u179, u180, u181, u182, u183, u184, u185, u186, u187, u188, u189, u190, u191, u192, u193, u194, u195, u196, u197, u198, u199, u200, u201, u202, u203, u204, u205, u206, u207, u208, u209, u210, u211, u212, u213, u214, u215, u216, u217, u218, u219, u220, u221, u222, u223, u224, u225, u226, u227, u228, u229, u230, u231, u232, u233, u234, u235, u236, u237, u238, u239, u240, u241, u242, u243, u244, u245], []⟩ ws := by
  conv => arg 2; whnf
  dsimp only
  obtain ⟨m, hm⟩ : ∃ m, m + 1 = N := ⟨N - 1, by omega⟩
  obtain ⟨L0, t, hLt⟩ : ∃ L0 t, L = L0 ++ [t] := by
    rcases List.eq_nil_or_concat L with h | ⟨l, t, h⟩
    · exfalso; have := HL.out; rw [h] at this; simp at this; omega
    · exact ⟨l, t, by simpa using h⟩
  have hL0 : L0.length = m := by have := HL.out; rw [hLt] at this; simp at this; omega
  have hLm : L[m]? = some t := by rw [hLt, ← hL0]; simp
  obtain ⟨b, o, hxa, hc1, hc2, hb⟩ := (HLR.out.adv HA.out (fun _ _ => by omega)).atR m t hLm
  have HXA := Lib.hid hxa
  have HLT := Lib.hid hLt
  have HL0 := Lib.hid hL0
  have hidx : (N : Int) - 1 = (m : Int) := by omega
  have hm0 : (0 : Int) ≤ (m : Int) := Int.natCast_nonneg _
  have hm1 : (m : Int) < (N : Int) := by omega
  have hlen : L.length ≤ 100000 := by rw [HL.out]; omega
  rw [hxa]
  have HM := Lib.hid hm
  clear hxa hLt hL0 hLm hm
  have hA4 := HA.out.alloc (.cells #[.int .i64 t.1, .int .u16 t.2] 43) 0
  have hP4 := HP.out.alloc (.cells #[.int .i64 t.1, .int .u16 t.2] 43) 0
  obtain ⟨G4, hG4⟩ : ∃ G4, G4 = own1 ws G3 0 := ⟨_, rfl⟩
  have hGB : G4 ws.heap.size ≠ 2 := by rw [hG4, own1_new]; omega
  rw [← hG4] at hA4 hP4
  have HA4 := Lib.hid hA4
  have HP4 := Lib.hid hP4
  have HGB := Lib.hid hGB
  have hat := at_not (i := 0) (L := L) (x := t) (k := wrap64 (t.1 + 1)) (show 0 + m + 1 = N by have := HM.out; omega) HL.out (by rw [HLT.out, ← HL0.out]; simp) (wrap_ne _)
  have HAT := Lib.hid hat
  clear hA4 hP4 hG4 hGB hat
  go_wp2_with fail
  refine (popPR_not G4 2 R L (wrap64 (t.1 + 1)) _ HP4.out hlen (by rw [show atE L 0 (wrap64 (t.1 + 1)) = 5 from HAT.out.2]; rfl)).mono ?_
  rintro e w' ⟨rfl, d, rfl⟩
  rw [show atV L 0 (wrap64 (t.1 + 1)) = 0 from HAT.out.1, show atE L 0 (wrap64 (t.1 + 1)) = 5 from HAT.out.2]
  go_wp2_with fail
  refine (lenPR G4 2 R L _ (HP4.out.drewN _)).mono ?_
  rintro e w' ⟨rfl, rfl⟩
  rw [HL.out]
  go_wp2_with fail
  refine (setPR G4 2 R L0 t x _ (by have h := HP4.out.drewN d; rw [HLT.out] at h; exact h) (by rw [HL0.out]; omega)).mono ?_
  rintro e w5 ⟨rfl, ha, hp⟩
  have hbox : w5.cell? ⟨ws.heap.size, 0, none⟩ = some (.int .i64 t.1) :=
    ha.cell_some (by rw [World.cell?_drewN]; exact cell_of_row _ ws.heap.size 0 #[.int .i64 t.1, .int .u16 t.2] 43 (0, 0) (heap_alloc_new ws _)) HGB.out
  have HA5 := Lib.hid ((HA4.out.drewN d).trans ha)
  have HP5 := Lib.hid hp
  have hG5 : ws.heap.size < w5.heap.size := Nat.lt_of_lt_of_le (by simp [World.drewN]) ha.size
  have hlen1 : Hid ((L0 ++ [(t.1, x)]).length = N) := by show _ = N; simp; have := HL0.out; have := HM.out; omega
  clear ha hp
  go_upto_region 27 with fail
  go_cut [23] (fun s23 wx => ∃ gl G6, s23 = .slice (some ⟨gl, 0, none⟩) N N ∧ Adv (· = 2) w (fun _ => 0) wx G6 ∧ PR wx G6 2 R (L0 ++ [(t.1, x)]) ∧ wx.cell? ⟨ws.heap.size, 0, none⟩ = some (.int .i64 t.1) ∧ G6 ws.heap.size ≠ 2 ∧ Reads wx (some ⟨gl, 0, none⟩) (cellsR (L0 ++ [(t.1, x)])) ∧ G6 gl ≠ 2)
  case first =>
    go_wp2_with fail
    refine (cellsPR G4 2 R (L0 ++ [(t.1, x)]) _ HP5.out (by simp) (by rw [hlen1.out]; omega)).mono ?_
    rintro e w6 ⟨rfl, rfl⟩
    rw [hlen1.out]
    go_wp2
    go_meet
    exact ⟨w5.heap.size, own1 w5 G4 0, rfl, HA5.out.alloc _ 0, HP5.out.alloc _ 0, ((Adv.refl (fun _ => False) w5 G4).alloc _ 0).cell_some hbox id, by rw [own1_old hG5]; exact HGB.out, Reads.new w5 _ 43, by rw [own1_new]; omega⟩
  case rest =>
  obtain ⟨gl, G6, rfl, h1, h2, h3, h4, h5, h6⟩ := hcut
  rename_i a0
  exact a0 _ _ (stackKinds_rest3 w wc G6 b o N m c' R ws.heap.size gl x L L0 t HL HLT HL0 HM (by rw [← HXA.out]; exact HLR) hN h1 h2 h3 h4 h5 h6)

end Go.Proofs.Ytgpimonjdhbdmaa
