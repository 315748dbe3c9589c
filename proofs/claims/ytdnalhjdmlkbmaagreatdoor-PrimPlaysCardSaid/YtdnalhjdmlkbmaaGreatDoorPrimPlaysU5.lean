/- What the primitives' functions do on a desk; What does hands back at the numbers of num; Do, of every plain primitive, on whatever stacks and memory; Behind Do all is within its bounds again; What is stored, plotted, played is found again; A machine's steps, as plain functions; Begin, At, Screen; The small functions of PrimKeeps; The world of wisplaw06's statements, all at once; pushed. -/
import Derived.Deep.RegionHeld3
import Derived.Deep.DeepCutAuto
import Derived.Deep.MidRow
import Derived.Laws.Tables
import Derived.BigQuiet
import Derived.Deep.QuietTactic
import Derived.Test.YtdnalhjdmlkbmaaGreatDoorPrimPlaysU1
import Derived.Test.YtdnalhjdmlkbmaaGreatDoorPrimPlaysU2
import Derived.Test.YtdnalhjdmlkbmaaGreatDoorPrimPlaysU3
import Derived.Test.YtdnalhjdmlkbmaaGreatDoorPrimPlaysU4
set_option linter.unusedVariables false
set_option linter.unusedSimpArgs false
set_option linter.unnecessarySimpa false
namespace Go.Proofs.YtdnalhjdmlkbmaaGreatDoor
open Go.RowKit
set_option linter.unusedVariables false

theorem Desk.dm {w : World} {G : Nat → Nat} {K D R : Nat} {M : Option Addr} (h : Desk w G K D R M) : w.cell? ⟨K, 0, none⟩ = some (.pointer (some ⟨D, 0, none⟩)) ∧ w.cell? ⟨K, 2, none⟩ = some (.pointer M) := ⟨h.d, h.m⟩
theorem Desk.dr {w : World} {G : Nat → Nat} {K D R : Nat} {M : Option Addr} (h : Desk w G K D R M) : w.cell? ⟨K, 0, none⟩ = some (.pointer (some ⟨D, 0, none⟩)) ∧ w.cell? ⟨K, 1, none⟩ = some (.pointer (some ⟨R, 0, none⟩)) := ⟨h.d, h.r⟩
theorem Desk.drew {w : World} {G : Nat → Nat} {K D R : Nat} {M : Option Addr} (h : Desk w G K D R M) : Desk w.drew G K D R M := h
section
variable {w : World} {G : Nat → Nat} {i j q K D R M : Nat} {b : List Int} {r : List (Int × Int)} {m : MemS}

set_option maxRecDepth 100000 in
set_option maxHeartbeats 1000000 in
theorem doFetch_act (a : Int) (o : Own3 i j q) (hm : MemOk m) (ha1 : 0 ≤ a) (hb1 : a < 65536) (hroom : b.length + 1 ≤ 256) (h : Trio w G i j q D R M (b ++ [a]) r m) (hk : Desk w G K D R (some ⟨M, 0, none⟩)) :
    Calls Tryz.prog 181 #[.pointer (some ⟨K, 0, none⟩)] w (Left3 i j q D R M w G (b ++ [cellF m a]) r m (.tuple #[])) := by
  have HT := Lib.hid h
  have HD := Lib.hid h.drew
  have HK := Lib.hid hk
  have c0 := hk.d
  have c1 := hk.r
  have c2 := hk.m
  clear h hk
  go_enter Tryz.func181, Tryz.ntmps181
  go_region_held3 (fun w' => w'.cell? ⟨K, 0, none⟩ = some (.pointer (some ⟨D, 0, none⟩)) ∧ w'.cell? ⟨K, 2, none⟩ = some (.pointer (some ⟨M, 0, none⟩))) (first | exact ⟨c0, c2⟩ | exact K1.out | exact K2.out | exact (HK.out.adv (A2.out.alloc _ 0) o.zero).dm | exact K3.out)
    (first | (go_at_call 147; refine (HD.out.pop o).mono ?_; rintro e w1 ⟨rfl, G1, ha1, t1⟩; have A1 := Lib.hid ((Adv.refl (S3 i j q) w G).drew.trans ha1); have T1 := Lib.hid t1; have K1 := Lib.hid ((HK.out.adv A1.out o.zero).dm); clear ha1 t1) | (go_at_call 105; refine (T1.out.cell hm a ha1 hb1).mono ?_; rintro e w2 ⟨rfl, G2, ha2, t2⟩; have A2 := Lib.hid (A1.out.trans ha2); have T2 := Lib.hid t2; have K2 := Lib.hid ((HK.out.adv A2.out o.zero).dm); clear ha2 t2) | (go_at_call 39; refine ((T2.out.alloc (.cells #[.int .u16 (cellF m a)] 31) 0).push o (l := [cellF m a]) _ 1 1 rfl hroom (Reads.new w2 (cellsU [cellF m a]) 31)).mono ?_; rintro e w3 ⟨rfl, G3, ha3, t3⟩; have A3 := Lib.hid ((A2.out.alloc (.cells #[.int .u16 (cellF m a)] 31) 0).trans ha3); have T3 := Lib.hid t3; have K3 := Lib.hid ((HK.out.adv A3.out o.zero).dm); clear ha3 t3))
  go_wp2_with fail
  go_end0
  exact ⟨rfl, G3, A3.out, T3.out⟩
set_option maxRecDepth 100000 in
set_option maxHeartbeats 1000000 in
theorem doByte_act (a : Int) (o : Own3 i j q) (hm : MemOk m) (hR : MemR m) (ha1 : 0 ≤ a) (hb1 : a < 65536) (hroom : b.length + 1 ≤ 256) (h : Trio w G i j q D R M (b ++ [a]) r m) (hk : Desk w G K D R (some ⟨M, 0, none⟩)) :
    Calls Tryz.prog 183 #[.pointer (some ⟨K, 0, none⟩)] w (Left3 i j q D R M w G (b ++ [loadF m a]) r m (.tuple #[])) := by
  have HT := Lib.hid h
  have HD := Lib.hid h.drew
  have HK := Lib.hid hk
  have c0 := hk.d
  have c1 := hk.r
  have c2 := hk.m
  clear h hk
  go_enter Tryz.func183, Tryz.ntmps183
  have hv := wrap_u16_id (loadF m a) (loadF_rng hR a).1 (by have := (loadF_rng hR a).2; omega)
  have HV := Lib.hid hv
  clear hv
  go_region_held3 (fun w' => w'.cell? ⟨K, 0, none⟩ = some (.pointer (some ⟨D, 0, none⟩)) ∧ w'.cell? ⟨K, 2, none⟩ = some (.pointer (some ⟨M, 0, none⟩))) (first | exact ⟨c0, c2⟩ | exact K1.out | exact K2.out | exact (HK.out.adv (A2.out.alloc _ 0) o.zero).dm | exact K3.out)
    (first | (go_at_call 147; refine (HD.out.pop o).mono ?_; rintro e w1 ⟨rfl, G1, ha1, t1⟩; have A1 := Lib.hid ((Adv.refl (S3 i j q) w G).drew.trans ha1); have T1 := Lib.hid t1; have K1 := Lib.hid ((HK.out.adv A1.out o.zero).dm); clear ha1 t1) | (go_at_call 69; refine (T1.out.load hm a ha1 hb1).mono ?_; rintro e w2 ⟨rfl, G2, ha2, t2⟩; have A2 := Lib.hid (A1.out.trans ha2); have T2 := Lib.hid t2; have K2 := Lib.hid ((HK.out.adv A2.out o.zero).dm); clear ha2 t2) | (go_at_call 39; rw [HV.out]; refine ((T2.out.alloc (.cells #[.int .u16 (loadF m a)] 31) 0).push o (l := [loadF m a]) _ 1 1 rfl hroom (Reads.new w2 (cellsU [loadF m a]) 31)).mono ?_; rintro e w3 ⟨rfl, G3, ha3, t3⟩; have A3 := Lib.hid ((A2.out.alloc (.cells #[.int .u16 (loadF m a)] 31) 0).trans ha3); have T3 := Lib.hid t3; have K3 := Lib.hid ((HK.out.adv A3.out o.zero).dm); clear ha3 t3))
  go_wp2_with fail
  go_end0
  exact ⟨rfl, G3, A3.out, T3.out⟩
set_option maxRecDepth 100000 in
set_option maxHeartbeats 1000000 in
theorem doPad_act (o : Own3 i j q) (hm : MemOk m) (hR : MemR m) (hroom : b.length + 1 ≤ 256) (h : Trio w G i j q D R M b r m) (hk : Desk w G K D R (some ⟨M, 0, none⟩)) :
    Calls Tryz.prog 192 #[.pointer (some ⟨K, 0, none⟩)] w (Left3 i j q D R M w G (b ++ [m.pad]) r m (.tuple #[])) := by
  have HT := Lib.hid h
  have HD := Lib.hid h.drew
  have HK := Lib.hid hk
  have c0 := hk.d
  have c1 := hk.r
  have c2 := hk.m
  clear h hk
  go_enter Tryz.func192, Tryz.ntmps192
  have hv := wrap_u16_id m.pad hR.pad.1 (by have := hR.pad.2; omega)
  have HV := Lib.hid hv
  clear hv
  go_region_held3 (fun w' => w'.cell? ⟨K, 0, none⟩ = some (.pointer (some ⟨D, 0, none⟩)) ∧ w'.cell? ⟨K, 2, none⟩ = some (.pointer (some ⟨M, 0, none⟩))) (first | exact ⟨c0, c2⟩ | exact K1.out | exact (HK.out.adv (A1.out.alloc _ 0) o.zero).dm | exact K2.out)
    (first | (go_at_call 202; refine (HD.out.pad hm).mono ?_; rintro e w1 ⟨rfl, G1, ha1, t1⟩; have A1 := Lib.hid ((Adv.refl (S3 i j q) w G).drew.trans ha1); have T1 := Lib.hid t1; have K1 := Lib.hid ((HK.out.adv A1.out o.zero).dm); clear ha1 t1) | (go_at_call 39; rw [HV.out]; refine ((T1.out.alloc (.cells #[.int .u16 m.pad] 31) 0).push o (l := [m.pad]) _ 1 1 rfl hroom (Reads.new w1 (cellsU [m.pad]) 31)).mono ?_; rintro e w2 ⟨rfl, G2, ha2, t2⟩; have A2 := Lib.hid ((A1.out.alloc (.cells #[.int .u16 m.pad] 31) 0).trans ha2); have T2 := Lib.hid t2; have K2 := Lib.hid ((HK.out.adv A2.out o.zero).dm); clear ha2 t2))
  go_wp2_with fail
  go_end0
  exact ⟨rfl, G2, A2.out, T2.out⟩
set_option maxRecDepth 100000 in
set_option maxHeartbeats 1000000 in
theorem doStore_act (x a : Int) (o : Own3 i j q) (hm : MemOk m) (hn : m.tones.length ≤ 99999) (ha1 : 0 ≤ a) (hb1 : a < 65536) (h : Trio w G i j q D R M (b ++ [x, a]) r m) (hk : Desk w G K D R (some ⟨M, 0, none⟩)) :
    Calls Tryz.prog 182 #[.pointer (some ⟨K, 0, none⟩)] w (Left3 i j q D R M w G b r (setCellF m a x) (.tuple #[])) := by
  have HT := Lib.hid h
  have HD := Lib.hid h.drew
  have HK := Lib.hid hk
  have c0 := hk.d
  have c1 := hk.r
  have c2 := hk.m
  clear h hk
  go_enter Tryz.func182, Tryz.ntmps182
  rw [show b ++ [x, a] = (b ++ [x]) ++ [a] from by simp] at HT
  go_wp2_with fail
  refine (HT.out.pop o).mono ?_
  rintro e w1 ⟨rfl, G1, ha1, t1⟩; have A1 := Lib.hid ((Adv.refl (S3 i j q) w G).trans ha1); have T1 := Lib.hid t1; have K1 := Lib.hid ((HK.out.adv A1.out o.zero).dm); clear ha1 t1
  obtain ⟨d0, d2⟩ := K1.out
  have D1 := Lib.hid T1.out.drew
  go_upto_region 1 with fail
  go_region_held3 (fun w' => w'.cell? ⟨K, 0, none⟩ = some (.pointer (some ⟨D, 0, none⟩)) ∧ w'.cell? ⟨K, 2, none⟩ = some (.pointer (some ⟨M, 0, none⟩))) (first | exact ⟨d0, d2⟩ | exact K2.out | exact K3.out)
    (first | (go_at_call 147; refine (D1.out.pop o).mono ?_; rintro e w2 ⟨rfl, G2, ha2, t2⟩; have A2 := Lib.hid (A1.out.drew.trans ha2); have T2 := Lib.hid t2; have K2 := Lib.hid ((HK.out.adv A2.out o.zero).dm); clear ha2 t2) | (go_at_call 199; refine (T2.out.setCell o hm hn a ha1 hb1 x).mono ?_; rintro e w3 ⟨rfl, G3, ha3, t3⟩; have A3 := Lib.hid (A2.out.trans ha3); have T3 := Lib.hid t3; have K3 := Lib.hid ((HK.out.adv A3.out o.zero).dm); clear ha3 t3))
  go_wp2_with fail
  go_end0
  exact ⟨rfl, G3, A3.out, T3.out⟩
set_option maxRecDepth 100000 in
set_option maxHeartbeats 1000000 in
theorem doPut_act (x a : Int) (o : Own3 i j q) (hm : MemOk m) (hn : m.tones.length ≤ 99999) (ha1 : 0 ≤ a) (hb1 : a < 65536) (hx0 : 0 ≤ x) (hx1 : x < 65536) (h : Trio w G i j q D R M (b ++ [x, a]) r m) (hk : Desk w G K D R (some ⟨M, 0, none⟩)) :
    Calls Tryz.prog 184 #[.pointer (some ⟨K, 0, none⟩)] w (Left3 i j q D R M w G b r (storeF m a (x % 256)) (.tuple #[])) := by
  have HT := Lib.hid h
  have HD := Lib.hid h.drew
  have HK := Lib.hid hk
  have c0 := hk.d
  have c1 := hk.r
  have c2 := hk.m
  clear h hk
  go_enter Tryz.func184, Tryz.ntmps184
  rw [show b ++ [x, a] = (b ++ [x]) ++ [a] from by simp] at HT
  have HV := Lib.hid (and255 x hx0 hx1)
  go_wp2_with fail
  refine (HT.out.pop o).mono ?_
  rintro e w1 ⟨rfl, G1, ha1, t1⟩; have A1 := Lib.hid ((Adv.refl (S3 i j q) w G).trans ha1); have T1 := Lib.hid t1; have K1 := Lib.hid ((HK.out.adv A1.out o.zero).dm); clear ha1 t1
  obtain ⟨d0, d2⟩ := K1.out
  have D1 := Lib.hid T1.out.drew
  go_upto_region 1 with fail
  go_region_held3 (fun w' => w'.cell? ⟨K, 0, none⟩ = some (.pointer (some ⟨D, 0, none⟩)) ∧ w'.cell? ⟨K, 2, none⟩ = some (.pointer (some ⟨M, 0, none⟩))) (first | exact ⟨d0, d2⟩ | exact K2.out | exact K3.out)
    (first | (go_at_call 147; refine (D1.out.pop o).mono ?_; rintro e w2 ⟨rfl, G2, ha2, t2⟩; have A2 := Lib.hid (A1.out.drew.trans ha2); have T2 := Lib.hid t2; have K2 := Lib.hid ((HK.out.adv A2.out o.zero).dm); clear ha2 t2) | (go_at_call 29; rw [HV.out]; refine (T2.out.store o hm hn a ha1 hb1 (x % 256)).mono ?_; rintro e w3 ⟨rfl, G3, ha3, t3⟩; have A3 := Lib.hid (A2.out.trans ha3); have T3 := Lib.hid t3; have K3 := Lib.hid ((HK.out.adv A3.out o.zero).dm); clear ha3 t3))
  go_wp2_with fail
  go_end0
  exact ⟨rfl, G3, A3.out, T3.out⟩
set_option maxRecDepth 100000 in
set_option maxHeartbeats 1000000 in
theorem doMore_act (x a : Int) (o : Own3 i j q) (hm : MemOk m) (hn : m.tones.length ≤ 99999) (ha1 : 0 ≤ a) (hb1 : a < 65536) (h : Trio w G i j q D R M (b ++ [x, a]) r m) (hk : Desk w G K D R (some ⟨M, 0, none⟩)) :
    Calls Tryz.prog 185 #[.pointer (some ⟨K, 0, none⟩)] w (Left3 i j q D R M w G b r (setCellF m a ((cellF m a + x) % 65536)) (.tuple #[])) := by
  have HT := Lib.hid h
  have HD := Lib.hid h.drew
  have HK := Lib.hid hk
  have c0 := hk.d
  have c1 := hk.r
  have c2 := hk.m
  clear h hk
  go_enter Tryz.func185, Tryz.ntmps185
  rw [show b ++ [x, a] = (b ++ [x]) ++ [a] from by simp] at HT
  have HV := Lib.hid (wrap_u16_mod (cellF m a + x))
  go_wp2_with fail
  refine (HT.out.pop o).mono ?_
  rintro e w1 ⟨rfl, G1, ha1, t1⟩; have A1 := Lib.hid ((Adv.refl (S3 i j q) w G).trans ha1); have T1 := Lib.hid t1; have K1 := Lib.hid ((HK.out.adv A1.out o.zero).dm); clear ha1 t1
  obtain ⟨d0, d2⟩ := K1.out
  have D1 := Lib.hid T1.out.drew
  go_upto_region 1 with fail
  go_region_held3 (fun w' => w'.cell? ⟨K, 0, none⟩ = some (.pointer (some ⟨D, 0, none⟩)) ∧ w'.cell? ⟨K, 2, none⟩ = some (.pointer (some ⟨M, 0, none⟩))) (first | exact ⟨d0, d2⟩ | exact K2.out | exact K3.out | exact K4.out)
    (first | (go_at_call 105; refine (D1.out.cell hm a ha1 hb1).mono ?_; rintro e w2 ⟨rfl, G2, ha2, t2⟩; have A2 := Lib.hid (A1.out.drew.trans ha2); have T2 := Lib.hid t2; have K2 := Lib.hid ((HK.out.adv A2.out o.zero).dm); clear ha2 t2) | (go_at_call 147; refine (T2.out.pop o).mono ?_; rintro e w3 ⟨rfl, G3, ha3, t3⟩; have A3 := Lib.hid (A2.out.trans ha3); have T3 := Lib.hid t3; have K3 := Lib.hid ((HK.out.adv A3.out o.zero).dm); clear ha3 t3) | (go_at_call 199; rw [HV.out]; refine (T3.out.setCell o hm hn a ha1 hb1 _).mono ?_; rintro e w4 ⟨rfl, G4, ha4, t4⟩; have A4 := Lib.hid (A3.out.trans ha4); have T4 := Lib.hid t4; have K4 := Lib.hid ((HK.out.adv A4.out o.zero).dm); clear ha4 t4))
  go_wp2_with fail
  go_end0
  exact ⟨rfl, G4, A4.out, T4.out⟩
set_option maxRecDepth 100000 in
set_option maxHeartbeats 1000000 in
theorem doSave_act (a : Int) (o : Own3 i j q) (hroom : r.length + 1 ≤ 128) (h : Trio w G i j q D R M (b ++ [a]) r m) (hk : Desk w G K D R (some ⟨M, 0, none⟩)) :
    Calls Tryz.prog 186 #[.pointer (some ⟨K, 0, none⟩)] w (Left3 i j q D R M w G b (r ++ [(4, a)]) m (.tuple #[])) := by
  have HT := Lib.hid h
  have HD := Lib.hid h.drew
  have HK := Lib.hid hk
  have c0 := hk.d
  have c1 := hk.r
  have c2 := hk.m
  clear h hk
  go_enter Tryz.func186, Tryz.ntmps186
  go_region_held3 (fun w' => w'.cell? ⟨K, 0, none⟩ = some (.pointer (some ⟨D, 0, none⟩)) ∧ w'.cell? ⟨K, 1, none⟩ = some (.pointer (some ⟨R, 0, none⟩))) (first | exact ⟨c0, c1⟩ | exact K1.out | exact (HK.out.adv (A1.out.alloc _ 0) o.zero).dr | exact K2.out)
    (first | (go_at_call 147; refine (HD.out.pop o).mono ?_; rintro e w1 ⟨rfl, G1, ha1, t1⟩; have A1 := Lib.hid ((Adv.refl (S3 i j q) w G).drew.trans ha1); have T1 := Lib.hid t1; have K1 := Lib.hid ((HK.out.adv A1.out o.zero).dr); clear ha1 t1) | (go_at_call 41; refine ((T1.out.alloc (.cells #[.int .i64 4, .int .u16 a] 111) 0).pushR o (l := [(4, a)]) _ 1 1 rfl hroom (Reads.new w1 (cellsR [(4, a)]) 111)).mono ?_; rintro e w2 ⟨rfl, G2, ha2, t2⟩; have A2 := Lib.hid ((A1.out.alloc (.cells #[.int .i64 4, .int .u16 a] 111) 0).trans ha2); have T2 := Lib.hid t2; have K2 := Lib.hid ((HK.out.adv A2.out o.zero).dr); clear ha2 t2))
  go_wp2_with fail
  go_end0
  exact ⟨rfl, G2, A2.out, T2.out⟩
set_option maxRecDepth 100000 in
set_option maxHeartbeats 1000000 in
theorem doBack_act (c : Int) (o : Own3 i j q) (hrl : r.length < 1000) (hroom : b.length + 1 ≤ 256) (h : Trio w G i j q D R M b (r ++ [(4, c)]) m) (hk : Desk w G K D R (some ⟨M, 0, none⟩)) :
    Calls Tryz.prog 187 #[.pointer (some ⟨K, 0, none⟩)] w (Left3 i j q D R M w G (b ++ [c]) r m (.tuple #[])) := by
  have HT := Lib.hid h
  have HD := Lib.hid h.drew
  have HK := Lib.hid hk
  have c0 := hk.d
  have c1 := hk.r
  have c2 := hk.m
  clear h hk
  go_enter Tryz.func187, Tryz.ntmps187
  go_wp2_with fail
  refine (HT.out.popR (c := (4, c)) o (by omega)).mono ?_
  rintro e w1 ⟨rfl, G1, ha1, t1⟩; have A1 := Lib.hid ((Adv.refl (S3 i j q) w G).trans ha1); have T1 := Lib.hid t1; have K1 := Lib.hid ((HK.out.adv A1.out o.zero).dm); clear ha1 t1
  obtain ⟨d0, d2⟩ := K1.out
  go_wp2_with fail
  refine ((T1.out.alloc (.cells #[.int .u16 c] 31) 0).push o (l := [c]) _ 1 1 rfl hroom (Reads.new w1 (cellsU [c]) 31)).mono ?_
  rintro e w2 ⟨rfl, G2, ha2, t2⟩; have A2 := Lib.hid ((A1.out.alloc (.cells #[.int .u16 c] 31) 0).trans ha2); have T2 := Lib.hid t2; have K2 := Lib.hid ((HK.out.adv A2.out o.zero).dm); clear ha2 t2
  go_wp2_with fail
  go_end0
  exact ⟨rfl, G2, A2.out, T2.out⟩
set_option maxRecDepth 100000 in
theorem sees_act (n kind : Int) (o : Own3 i j q) (hrl : r.length ≤ 128) (hroom : b.length + 1 ≤ 256) (h : Trio w G i j q D R M b r m) (hk : Desk w G K D R (some ⟨M, 0, none⟩)) :
    Calls Tryz.prog 200 #[.pointer (some ⟨K, 0, none⟩), .int .i64 n, .int .i64 kind] w (Left3 i j q D R M w G (b ++ [atV r n kind]) r m (.tuple #[])) :=
  (sees_any G i j D K R _ b r n kind hroom hrl w h.pu h.pr hk).mono fun e w' k => by
    obtain ⟨k1, G', k2, k3⟩ := k
    exact ⟨k1, G', k2.mono fun _ e => .inl e, k3, h.pr.adv k2 (Ne.symm o.ij), h.pm.adv k2 (Ne.symm o.iq)⟩
set_option maxRecDepth 100000 in
set_option maxHeartbeats 1000000 in
theorem doSee_act (o : Own3 i j q) (hrl : r.length ≤ 128) (hroom : b.length + 1 ≤ 256) (h : Trio w G i j q D R M b r m) (hk : Desk w G K D R (some ⟨M, 0, none⟩)) :
    Calls Tryz.prog 188 #[.pointer (some ⟨K, 0, none⟩)] w (Left3 i j q D R M w G (b ++ [atV r 0 4]) r m (.tuple #[])) := by
  have HT := Lib.hid h
  have HD := Lib.hid h.drew
  have HK := Lib.hid hk
  have c0 := hk.d
  have c1 := hk.r
  have c2 := hk.m
  clear h hk
  go_enter Tryz.func188, Tryz.ntmps188
  go_wp2_with fail
  refine (sees_act 0 4 o hrl hroom HT.out HK.out).mono ?_
  rintro e w2 ⟨rfl, G2, ha2, hp2⟩
  have HF := Lib.hid (And.intro ha2 hp2)
  clear ha2 hp2
  go_wp2_with fail
  go_end0
  exact ⟨rfl, G2, HF.out.1, HF.out.2⟩
set_option maxRecDepth 100000 in
set_option maxHeartbeats 1000000 in
theorem doIndex_act (o : Own3 i j q) (hrl : r.length ≤ 128) (hroom : b.length + 1 ≤ 256) (h : Trio w G i j q D R M b r m) (hk : Desk w G K D R (some ⟨M, 0, none⟩)) :
    Calls Tryz.prog 189 #[.pointer (some ⟨K, 0, none⟩)] w (Left3 i j q D R M w G (b ++ [atV r 0 3]) r m (.tuple #[])) := by
  have HT := Lib.hid h
  have HD := Lib.hid h.drew
  have HK := Lib.hid hk
  have c0 := hk.d
  have c1 := hk.r
  have c2 := hk.m
  clear h hk
  go_enter Tryz.func189, Tryz.ntmps189
  go_wp2_with fail
  refine (sees_act 0 3 o hrl hroom HT.out HK.out).mono ?_
  rintro e w2 ⟨rfl, G2, ha2, hp2⟩
  have HF := Lib.hid (And.intro ha2 hp2)
  clear ha2 hp2
  go_wp2_with fail
  go_end0
  exact ⟨rfl, G2, HF.out.1, HF.out.2⟩
set_option maxRecDepth 100000 in
set_option maxHeartbeats 1000000 in
theorem doOuter_act (o : Own3 i j q) (hrl : r.length ≤ 128) (hroom : b.length + 1 ≤ 256) (h : Trio w G i j q D R M b r m) (hk : Desk w G K D R (some ⟨M, 0, none⟩)) :
    Calls Tryz.prog 190 #[.pointer (some ⟨K, 0, none⟩)] w (Left3 i j q D R M w G (b ++ [atV r 2 3]) r m (.tuple #[])) := by
  have HT := Lib.hid h
  have HD := Lib.hid h.drew
  have HK := Lib.hid hk
  have c0 := hk.d
  have c1 := hk.r
  have c2 := hk.m
  clear h hk
  go_enter Tryz.func190, Tryz.ntmps190
  go_wp2_with fail
  refine (sees_act 2 3 o hrl hroom HT.out HK.out).mono ?_
  rintro e w2 ⟨rfl, G2, ha2, hp2⟩
  have HF := Lib.hid (And.intro ha2 hp2)
  clear ha2 hp2
  go_wp2_with fail
  go_end0
  exact ⟨rfl, G2, HF.out.1, HF.out.2⟩
theorem doDo_act (x y : Int) (o : Own3 i j q) (hroom : r.length + 2 ≤ 128) (h : Trio w G i j q D R M (b ++ [x, y]) r m) (hk : Desk w G K D R (some ⟨M, 0, none⟩)) :
    Calls Tryz.prog 180 #[.pointer (some ⟨K, 0, none⟩)] w (Left3 i j q D R M w G b (r ++ [(2, x), (3, y)]) m (.tuple #[])) :=
  (doDo_any G i j D K R _ b x y r o.i0 o.j0 o.ij hroom w h.pu h.pr hk).mono fun e w' k => by
    obtain ⟨k1, G', k2, k3, k4⟩ := k
    exact ⟨k1, G', k2.mono fun _ e => e.imp id .inl, k3, k4, h.pm.adv k2 (fun e => e.elim (Ne.symm o.iq) (Ne.symm o.jq))⟩
set_option maxRecDepth 100000 in
set_option maxHeartbeats 1000000 in
theorem doNothing_act (o : Own3 i j q) (h : Trio w G i j q D R M b r m) (hk : Desk w G K D R (some ⟨M, 0, none⟩)) :
    Calls Tryz.prog 159 #[.pointer (some ⟨K, 0, none⟩)] w (Left3 i j q D R M w G b r m (.tuple #[])) := by
  have HT := Lib.hid h
  have HD := Lib.hid h.drew
  have HK := Lib.hid hk
  have c0 := hk.d
  have c1 := hk.r
  have c2 := hk.m
  clear h hk
  go_enter Tryz.func159, Tryz.ntmps159
  go_wp2_with fail
  go_end0
  exact ⟨rfl, G, Adv.refl _ _ _, HT.out⟩
set_option maxRecDepth 100000 in
set_option maxHeartbeats 1000000 in
theorem doBank_act (a : Int) (o : Own3 i j q) (hm : MemOk m) (hn : m.tones.length ≤ 99999) (ha1 : 0 ≤ a) (hb1 : a < 65536) (h : Trio w G i j q D R M (b ++ [a]) r m) (hk : Desk w G K D R (some ⟨M, 0, none⟩)) :
    Calls Tryz.prog 194 #[.pointer (some ⟨K, 0, none⟩)] w (Left3 i j q D R M w G b r (storeF m 65280 (a % 256)) (.tuple #[])) := by
  have HT := Lib.hid h
  have HD := Lib.hid h.drew
  have HK := Lib.hid hk
  have c0 := hk.d
  have c1 := hk.r
  have c2 := hk.m
  clear h hk
  go_enter Tryz.func194, Tryz.ntmps194
  go_region_held3 (fun w' => w'.cell? ⟨K, 0, none⟩ = some (.pointer (some ⟨D, 0, none⟩)) ∧ w'.cell? ⟨K, 2, none⟩ = some (.pointer (some ⟨M, 0, none⟩))) (first | exact ⟨c0, c2⟩ | exact K1.out | exact K2.out)
    (first | (go_at_call 147; refine (HD.out.pop o).mono ?_; rintro e w1 ⟨rfl, G1, ha1, t1⟩; have A1 := Lib.hid ((Adv.refl (S3 i j q) w G).drew.trans ha1); have T1 := Lib.hid t1; have K1 := Lib.hid ((HK.out.adv A1.out o.zero).dm); clear ha1 t1) | (go_at_call 204; refine (T1.out.choose o hm hn a ha1 hb1).mono ?_; rintro e w2 ⟨rfl, G2, ha2, t2⟩; have A2 := Lib.hid (A1.out.trans ha2); have T2 := Lib.hid t2; have K2 := Lib.hid ((HK.out.adv A2.out o.zero).dm); clear ha2 t2))
  go_wp2_with fail
  go_end0
  exact ⟨rfl, G2, A2.out, T2.out⟩
set_option maxRecDepth 100000 in
set_option maxHeartbeats 1000000 in
theorem doTone_act (x v : Int) (o : Own3 i j q) (hm : MemOk m) (hn : m.tones.length ≤ 99999) (hx0 : 0 ≤ x) (hx1 : x < 65536) (hv0 : 0 ≤ v) (hv1 : v < 65536) (h : Trio w G i j q D R M (b ++ [x, v]) r m) (hk : Desk w G K D R (some ⟨M, 0, none⟩)) :
    Calls Tryz.prog 193 #[.pointer (some ⟨K, 0, none⟩)] w (Left3 i j q D R M w G b r (playF m x (v % 256)) (.tuple #[])) := by
  have HT := Lib.hid h
  have HD := Lib.hid h.drew
  have HK := Lib.hid hk
  have c0 := hk.d
  have c1 := hk.r
  have c2 := hk.m
  clear h hk
  go_enter Tryz.func193, Tryz.ntmps193
  rw [show b ++ [x, v] = (b ++ [x]) ++ [v] from by simp] at HT
  have HV := Lib.hid (and255 v hv0 hv1)
  go_wp2_with fail
  refine (HT.out.pop o).mono ?_
  rintro e w1 ⟨rfl, G1, ha1, t1⟩; have A1 := Lib.hid ((Adv.refl (S3 i j q) w G).trans ha1); have T1 := Lib.hid t1; have K1 := Lib.hid ((HK.out.adv A1.out o.zero).dm); clear ha1 t1
  obtain ⟨d0, d2⟩ := K1.out
  have D1 := Lib.hid T1.out.drew
  go_upto_region 1 with fail
  go_region_held3 (fun w' => w'.cell? ⟨K, 0, none⟩ = some (.pointer (some ⟨D, 0, none⟩)) ∧ w'.cell? ⟨K, 2, none⟩ = some (.pointer (some ⟨M, 0, none⟩))) (first | exact ⟨d0, d2⟩ | exact K2.out | exact K3.out)
    (first | (go_at_call 147; refine (D1.out.pop o).mono ?_; rintro e w2 ⟨rfl, G2, ha2, t2⟩; have A2 := Lib.hid (A1.out.drew.trans ha2); have T2 := Lib.hid t2; have K2 := Lib.hid ((HK.out.adv A2.out o.zero).dm); clear ha2 t2) | (go_at_call 203; rw [HV.out]; refine (T2.out.play o hm hn x (v % 256) hx0 hx1).mono ?_; rintro e w3 ⟨rfl, G3, ha3, t3⟩; have A3 := Lib.hid (A2.out.trans ha3); have T3 := Lib.hid t3; have K3 := Lib.hid ((HK.out.adv A3.out o.zero).dm); clear ha3 t3))
  go_wp2_with fail
  go_end0
  exact ⟨rfl, G3, A3.out, T3.out⟩
set_option maxRecDepth 100000 in
set_option maxHeartbeats 1000000 in
theorem doPlot_act (x y c : Int) (o : Own3 i j q) (hm : MemOk m) (hn : m.tones.length ≤ 99999) (hx0 : 0 ≤ x) (hy0 : 0 ≤ y) (hc0 : 0 ≤ c) (hc1 : c < 65536) (h : Trio w G i j q D R M (b ++ [x, y, c]) r m) (hk : Desk w G K D R (some ⟨M, 0, none⟩)) :
    Calls Tryz.prog 191 #[.pointer (some ⟨K, 0, none⟩)] w (Left3 i j q D R M w G b r (plotF m x y c) (.tuple #[])) := by
  have HT := Lib.hid h
  have HD := Lib.hid h.drew
  have HK := Lib.hid hk
  have c0 := hk.d
  have c1 := hk.r
  have c2 := hk.m
  clear h hk
  go_enter Tryz.func191, Tryz.ntmps191
  go_wp2_with fail
  refine (HT.out.taken o HK.out 3 rfl (by decide) (by decide)).mono ?_
  rintro e w1 ⟨B, G1, rfl, ha1, t1, k1, hrow⟩
  have A1 := Lib.hid ha1
  have D1 := Lib.hid t1.drew
  have d2 := k1.m
  have e0 := (hrow.at (by decide)).2.2.2 0 _ rfl
  have e1 := (hrow.at (by decide)).2.2.2 1 _ rfl
  have e2 := (hrow.at (by decide)).2.2.2 2 _ rfl
  have gB := (hrow.at (by decide)).2.1
  have HKK := Lib.hid (show ∀ (w' : World) (G' : Nat → Nat), Adv (S3 i j q) w1 G1 w' G' → w'.cell? ⟨K, 2, none⟩ = some (.pointer (some ⟨M, 0, none⟩)) ∧ w'.cell? ⟨B, 0, none⟩ = some (.int .u16 x) ∧ w'.cell? ⟨B, 1, none⟩ = some (.int .u16 y) ∧ w'.cell? ⟨B, 2, none⟩ = some (.int .u16 c) from fun w' G' ha =>
    ⟨(k1.adv ha o.zero).m, ha.cell_some (p := ⟨B, 0, none⟩) e0 (by show ¬ S3 i j q (G1 B); rw [gB]; exact o.zero), ha.cell_some (p := ⟨B, 1, none⟩) e1 (by show ¬ S3 i j q (G1 B); rw [gB]; exact o.zero), ha.cell_some (p := ⟨B, 2, none⟩) e2 (by show ¬ S3 i j q (G1 B); rw [gB]; exact o.zero)⟩)
  clear ha1 t1 k1 hrow gB
  go_upto_region 1 with fail
  go_region_held3 (fun w' => w'.cell? ⟨K, 2, none⟩ = some (.pointer (some ⟨M, 0, none⟩)) ∧ w'.cell? ⟨B, 0, none⟩ = some (.int .u16 x) ∧ w'.cell? ⟨B, 1, none⟩ = some (.int .u16 y) ∧ w'.cell? ⟨B, 2, none⟩ = some (.int .u16 c)) (first | exact ⟨d2, e0, e1, e2⟩ | exact K2.out)
    ((go_at_call 201; refine (D1.out.plot o hm hn x y c hx0 hy0 hc0 hc1).mono ?_; rintro e w2 ⟨rfl, G2, ha2, t2⟩; have K2 := Lib.hid (HKK.out _ _ ((Adv.refl (S3 i j q) w1 G1).drew.trans ha2)); have A2 := Lib.hid (A1.out.drew.trans ha2); have T2 := Lib.hid t2; clear ha2 t2))
  go_wp2_with fail
  go_end0
  exact ⟨rfl, G2, A2.out, T2.out⟩
/-- What the closure of a primitive of one cell, or two, holds. -/
def OpCl (k : Nat) (w : World) (G : Nat → Nat) (c : Array Value) : Prop := ∃ B, c = #[.pointer (some ⟨B, 0, none⟩)] ∧ w.cell? ⟨B, 0, none⟩ = some (.int .i64 k) ∧ G B = 0
theorem OpCl.adv {k : Nat} {S : Nat → Prop} {w w' : World} {G G' : Nat → Nat} {c : Array Value} (h : OpCl k w G c) (ha : Adv S w G w' G') (hs : ¬ S 0) : OpCl k w' G' c := by
  obtain ⟨B, h1, h2, h3⟩ := h
  exact ⟨B, h1, ha.cell_some h2 (by rw [h3]; exact hs), (ha.own _ (World.block_lt_of_cell? w _ h2)).trans h3⟩
theorem op_keeps (k : Nat) : Keeps (OpCl k) := fun _ _ _ _ _ _ h ha hs => h.adv ha hs
set_option maxRecDepth 100000 in
set_option maxHeartbeats 1000000 in
theorem one_act (k : Nat) (x y : Int) (B : Nat) (hu : ∀ w, Calls Tryz.prog 155 #[.int .i64 k, .int .u16 x] w fun e w' => e = .returned (.tuple #[.int .u16 y, .bool true]) ∧ w = w') (o : Own3 i j q) (hroom : b.length + 1 ≤ 256)
    (hB : w.cell? ⟨B, 0, none⟩ = some (.int .i64 k)) (hG : G B = 0) (h : Trio w G i j q D R M (b ++ [x]) r m) (hk : Desk w G K D R (some ⟨M, 0, none⟩)) :
    Calls Tryz.prog 174 #[.pointer (some ⟨K, 0, none⟩), .pointer (some ⟨B, 0, none⟩)] w (Left3 i j q D R M w G (b ++ [y]) r m (.tuple #[])) := by
  have HD := Lib.hid h.drew
  have HK := Lib.hid hk
  have HU := Lib.hid hu
  have HG := Lib.hid hG
  have c0 := hk.d
  clear h hk hu hG
  go_enter Tryz.func174, Tryz.ntmps174
  go_upto_region 0 with fail
  go_region_held3 (fun w' => w'.cell? ⟨K, 0, none⟩ = some (.pointer (some ⟨D, 0, none⟩)) ∧ w'.cell? ⟨B, 0, none⟩ = some (.int .i64 k)) (first | exact ⟨c0, hB⟩ | exact K1.out)
    (first | (go_at_call 147; refine (HD.out.pop o).mono ?_; rintro e w1 ⟨rfl, G1, ha1, t1⟩; have A1 := Lib.hid ((Adv.refl (S3 i j q) w G).drew.trans ha1); have T1 := Lib.hid t1; have K1 := Lib.hid (And.intro (HK.out.adv A1.out o.zero).d (A1.out.cell_some (p := ⟨B, 0, none⟩) hB (by show ¬ S3 i j q (G B); rw [HG.out]; exact o.zero))); clear ha1 t1) | (go_at_call 155; refine (HU.out _).mono ?_; rintro e w2 ⟨rfl, rfl⟩))
  obtain ⟨d0, -⟩ := K1.out
  go_wp2_with fail
  refine ((T1.out.alloc (.cells #[.int .u16 y] 31) 0).push o (l := [y]) _ 1 1 rfl hroom (Reads.new w1 (cellsU [y]) 31)).mono ?_
  rintro e w2 ⟨rfl, G2, ha2, t2⟩; have A2 := Lib.hid ((A1.out.alloc (.cells #[.int .u16 y] 31) 0).trans ha2); have T2 := Lib.hid t2; have K2 := Lib.hid ((HK.out.adv A2.out o.zero).dm); clear ha2 t2
  go_wp2_with fail
  go_end0
  exact ⟨rfl, G2, A2.out, T2.out⟩
set_option maxRecDepth 100000 in
set_option maxHeartbeats 1000000 in
theorem two_act (k : Nat) (x y z : Int) (B : Nat) (hu : ∀ w, Calls Tryz.prog 157 #[.int .i64 k, .int .u16 x, .int .u16 y] w fun e w' => e = .returned (.tuple #[.int .u16 z, .bool true]) ∧ w = w') (o : Own3 i j q) (hroom : b.length + 1 ≤ 256)
    (hB : w.cell? ⟨B, 0, none⟩ = some (.int .i64 k)) (hG : G B = 0) (h : Trio w G i j q D R M (b ++ [x, y]) r m) (hk : Desk w G K D R (some ⟨M, 0, none⟩)) :
    Calls Tryz.prog 177 #[.pointer (some ⟨K, 0, none⟩), .pointer (some ⟨B, 0, none⟩)] w (Left3 i j q D R M w G (b ++ [z]) r m (.tuple #[])) := by
  have HT := Lib.hid h
  have HK := Lib.hid hk
  have HU := Lib.hid hu
  have HG := Lib.hid hG
  have c0 := hk.d
  rw [show b ++ [x, y] = (b ++ [x]) ++ [y] from by simp] at HT
  clear h hk hu hG
  go_enter Tryz.func177, Tryz.ntmps177
  go_wp2_with fail
  refine (HT.out.pop o).mono ?_
  rintro e w1 ⟨rfl, G1, ha1, t1⟩
  have A1 := Lib.hid ha1
  have D1 := Lib.hid t1.drew
  have d0 := (HK.out.adv ha1 o.zero).d
  have hB1 := ha1.cell_some (p := ⟨B, 0, none⟩) hB (by show ¬ S3 i j q (G B); rw [HG.out]; exact o.zero)
  clear ha1 t1
  go_upto_region 1 with fail
  go_region_held3 (fun w' => w'.cell? ⟨K, 0, none⟩ = some (.pointer (some ⟨D, 0, none⟩)) ∧ w'.cell? ⟨B, 0, none⟩ = some (.int .i64 k)) (first | exact ⟨d0, hB1⟩ | exact K2.out)
    (first | (go_at_call 147; refine (D1.out.pop o).mono ?_; rintro e w2 ⟨rfl, G2, ha2, t2⟩; have A2 := Lib.hid (A1.out.drew.trans ha2); have T2 := Lib.hid t2; have K2 := Lib.hid (And.intro (HK.out.adv A2.out o.zero).d (A2.out.cell_some (p := ⟨B, 0, none⟩) hB (by show ¬ S3 i j q (G B); rw [HG.out]; exact o.zero))); clear ha2 t2) | (go_at_call 157; refine (HU.out _).mono ?_; rintro e w3 ⟨rfl, rfl⟩))
  clear d0
  obtain ⟨d0, -⟩ := K2.out
  go_wp2_with fail
  refine ((T2.out.alloc (.cells #[.int .u16 z] 31) 0).push o (l := [z]) _ 1 1 rfl hroom (Reads.new w2 (cellsU [z]) 31)).mono ?_
  rintro e w3 ⟨rfl, G3, ha3, t3⟩; have A3 := Lib.hid ((A2.out.alloc (.cells #[.int .u16 z] 31) 0).trans ha3); have T3 := Lib.hid t3; have K3 := Lib.hid ((HK.out.adv A3.out o.zero).dm); clear ha3 t3
  go_wp2_with fail
  go_end0
  exact ⟨rfl, G3, A3.out, T3.out⟩
theorem shuf_act (n : Nat) (ps : List Nat) (t : List Int) (c : Array Value) (hn : t.length = n) (h0 : 0 < n) (h4 : n ≤ 100) (hps : ∀ p ∈ ps, p < n) (o : Own3 i j q) (hroom : b.length + ps.length ≤ 256) (hc : ShufCl n ps w G c)
    (h : Trio w G i j q D R M (b ++ t) r m) (hk : Desk w G K D R (some ⟨M, 0, none⟩)) :
    Calls Tryz.prog 178 (#[.pointer (some ⟨K, 0, none⟩)] ++ c) w (Left3 i j q D R M w G (b ++ picks t ps) r m (.tuple #[])) := by
  obtain ⟨B1, B2, la, lc, hcs, hB1, hG1, hB2, hG2, hla, hGl⟩ := hc
  subst hcs
  refine (shuffle_any G i D K R (some ⟨M, 0, none⟩) b t n hn h0 h4 ps hps hroom o.i0 B1 B2 la lc w h.pu hk hB1 hG1 hB2 hG2 hla hGl).mono fun e w' k => ?_
  obtain ⟨k1, G', k2, k3⟩ := k
  exact ⟨k1, G', k2.mono fun _ e => .inl e, k3, h.pr.adv k2 (Ne.symm o.ij), h.pm.adv k2 (Ne.symm o.iq)⟩
end
end Go.Proofs.YtdnalhjdmlkbmaaGreatDoor
namespace Go.Proofs.YtdnalhjdmlkbmaaGreatDoor
open Go.RowKit

theorem opCl_new (w : World) (G : Nat → Nat) (k : Nat) : Adv (fun _ => False) w G (w.alloc (.cells #[.int .i64 k] 3)) (own1 w G 0) ∧ OpCl k (w.alloc (.cells #[.int .i64 k] 3)) (own1 w G 0) #[.pointer (some ⟨w.heap.size, 0, none⟩)] :=
  ⟨(Adv.refl _ w G).alloc _ 0, w.heap.size, rfl, block_cell (heap_alloc_new w _) 0 _ rfl, own1_new _ _ _⟩

set_option maxRecDepth 100000 in
theorem does_28 : DoesIs 28 174 (OpCl 28) := by
  intro G w
  have hmf : ∀ (fn : Fn) (first cap : Array Value) (w : World), (Instr.makeFunc fn first cap).run Tryz.prog w = .ok (.func fn first cap) w := fun _ _ _ _ => rfl
  go_enter Tryz.func123, Tryz.ntmps123
  go_wp2_with (first | (go_at_call 155; refine (unary_28 0 (by decide) (by decide) _).mono ?_; rintro e w' ⟨rfl, rfl⟩) | (go_at_call 156; go_in))
  go_ret
  obtain ⟨h1, h2⟩ := opCl_new w G 28
  exact ⟨_, _, rfl, h1, h2⟩
set_option maxRecDepth 100000 in
theorem does_29 : DoesIs 29 174 (OpCl 29) := by
  intro G w
  have hmf : ∀ (fn : Fn) (first cap : Array Value) (w : World), (Instr.makeFunc fn first cap).run Tryz.prog w = .ok (.func fn first cap) w := fun _ _ _ _ => rfl
  go_enter Tryz.func123, Tryz.ntmps123
  go_wp2_with (first | (go_at_call 155; refine (unary_29 0 (by decide) (by decide) _).mono ?_; rintro e w' ⟨rfl, rfl⟩) | (go_at_call 156; go_in))
  go_ret
  obtain ⟨h1, h2⟩ := opCl_new w G 29
  exact ⟨_, _, rfl, h1, h2⟩
set_option maxRecDepth 100000 in
theorem does_32 : DoesIs 32 174 (OpCl 32) := by
  intro G w
  have hmf : ∀ (fn : Fn) (first cap : Array Value) (w : World), (Instr.makeFunc fn first cap).run Tryz.prog w = .ok (.func fn first cap) w := fun _ _ _ _ => rfl
  go_enter Tryz.func123, Tryz.ntmps123
  go_wp2_with (first | (go_at_call 155; refine (unary_32 0 (by decide) (by decide) _).mono ?_; rintro e w' ⟨rfl, rfl⟩) | (go_at_call 156; go_in))
  go_ret
  obtain ⟨h1, h2⟩ := opCl_new w G 32
  exact ⟨_, _, rfl, h1, h2⟩
set_option maxRecDepth 100000 in
theorem does_33 : DoesIs 33 174 (OpCl 33) := by
  intro G w
  have hmf : ∀ (fn : Fn) (first cap : Array Value) (w : World), (Instr.makeFunc fn first cap).run Tryz.prog w = .ok (.func fn first cap) w := fun _ _ _ _ => rfl
  go_enter Tryz.func123, Tryz.ntmps123
  go_wp2_with (first | (go_at_call 155; refine (unary_33 0 (by decide) (by decide) _).mono ?_; rintro e w' ⟨rfl, rfl⟩) | (go_at_call 156; go_in))
  go_ret
  obtain ⟨h1, h2⟩ := opCl_new w G 33
  exact ⟨_, _, rfl, h1, h2⟩
set_option maxRecDepth 100000 in
theorem does_34 : DoesIs 34 174 (OpCl 34) := by
  intro G w
  have hmf : ∀ (fn : Fn) (first cap : Array Value) (w : World), (Instr.makeFunc fn first cap).run Tryz.prog w = .ok (.func fn first cap) w := fun _ _ _ _ => rfl
  go_enter Tryz.func123, Tryz.ntmps123
  go_wp2_with (first | (go_at_call 155; refine (unary_34 0 (by decide) (by decide) _).mono ?_; rintro e w' ⟨rfl, rfl⟩) | (go_at_call 156; go_in))
  go_ret
  obtain ⟨h1, h2⟩ := opCl_new w G 34
  exact ⟨_, _, rfl, h1, h2⟩
set_option maxRecDepth 100000 in
theorem does_35 : DoesIs 35 174 (OpCl 35) := by
  intro G w
  have hmf : ∀ (fn : Fn) (first cap : Array Value) (w : World), (Instr.makeFunc fn first cap).run Tryz.prog w = .ok (.func fn first cap) w := fun _ _ _ _ => rfl
  go_enter Tryz.func123, Tryz.ntmps123
  go_wp2_with (first | (go_at_call 155; refine (unary_35 0 (by decide) (by decide) _).mono ?_; rintro e w' ⟨rfl, rfl⟩) | (go_at_call 156; go_in))
  go_ret
  obtain ⟨h1, h2⟩ := opCl_new w G 35
  exact ⟨_, _, rfl, h1, h2⟩
set_option maxRecDepth 100000 in
theorem does_39 : DoesIs 39 174 (OpCl 39) := by
  intro G w
  have hmf : ∀ (fn : Fn) (first cap : Array Value) (w : World), (Instr.makeFunc fn first cap).run Tryz.prog w = .ok (.func fn first cap) w := fun _ _ _ _ => rfl
  go_enter Tryz.func123, Tryz.ntmps123
  go_wp2_with (first | (go_at_call 155; refine (unary_39 0 (by decide) (by decide) _).mono ?_; rintro e w' ⟨rfl, rfl⟩) | (go_at_call 156; go_in))
  go_ret
  obtain ⟨h1, h2⟩ := opCl_new w G 39
  exact ⟨_, _, rfl, h1, h2⟩
set_option maxRecDepth 100000 in
theorem does_48 : DoesIs 48 174 (OpCl 48) := by
  intro G w
  have hmf : ∀ (fn : Fn) (first cap : Array Value) (w : World), (Instr.makeFunc fn first cap).run Tryz.prog w = .ok (.func fn first cap) w := fun _ _ _ _ => rfl
  go_enter Tryz.func123, Tryz.ntmps123
  go_wp2_with (first | (go_at_call 155; refine (unary_48 0 (by decide) (by decide) _).mono ?_; rintro e w' ⟨rfl, rfl⟩) | (go_at_call 156; go_in))
  go_ret
  obtain ⟨h1, h2⟩ := opCl_new w G 48
  exact ⟨_, _, rfl, h1, h2⟩
set_option maxRecDepth 100000 in
theorem does_49 : DoesIs 49 174 (OpCl 49) := by
  intro G w
  have hmf : ∀ (fn : Fn) (first cap : Array Value) (w : World), (Instr.makeFunc fn first cap).run Tryz.prog w = .ok (.func fn first cap) w := fun _ _ _ _ => rfl
  go_enter Tryz.func123, Tryz.ntmps123
  go_wp2_with (first | (go_at_call 155; refine (unary_49 0 (by decide) (by decide) _).mono ?_; rintro e w' ⟨rfl, rfl⟩) | (go_at_call 156; go_in))
  go_ret
  obtain ⟨h1, h2⟩ := opCl_new w G 49
  exact ⟨_, _, rfl, h1, h2⟩
set_option maxRecDepth 100000 in
theorem does_21 : DoesIs 21 177 (OpCl 21) := by
  intro G w
  have hmf : ∀ (fn : Fn) (first cap : Array Value) (w : World), (Instr.makeFunc fn first cap).run Tryz.prog w = .ok (.func fn first cap) w := fun _ _ _ _ => rfl
  go_enter Tryz.func123, Tryz.ntmps123
  go_wp2_with (first | (go_at_call 155; refine (unary_no21 _ _).mono ?_; rintro e w' ⟨rfl, rfl⟩) | (go_at_call 157; refine (binary_21 0 0 (by decide) (by decide) (by decide) (by decide) _).mono ?_; rintro e w' ⟨rfl, rfl⟩) | (go_at_call 158; go_in))
  go_ret
  obtain ⟨h1, h2⟩ := opCl_new w G 21
  exact ⟨_, _, rfl, h1, h2⟩
set_option maxRecDepth 100000 in
theorem does_22 : DoesIs 22 177 (OpCl 22) := by
  intro G w
  have hmf : ∀ (fn : Fn) (first cap : Array Value) (w : World), (Instr.makeFunc fn first cap).run Tryz.prog w = .ok (.func fn first cap) w := fun _ _ _ _ => rfl
  go_enter Tryz.func123, Tryz.ntmps123
  go_wp2_with (first | (go_at_call 155; refine (unary_no22 _ _).mono ?_; rintro e w' ⟨rfl, rfl⟩) | (go_at_call 157; refine (binary_22 0 0 (by decide) (by decide) (by decide) (by decide) _).mono ?_; rintro e w' ⟨rfl, rfl⟩) | (go_at_call 158; go_in))
  go_ret
  obtain ⟨h1, h2⟩ := opCl_new w G 22
  exact ⟨_, _, rfl, h1, h2⟩
set_option maxRecDepth 100000 in
theorem does_23 : DoesIs 23 177 (OpCl 23) := by
  intro G w
  have hmf : ∀ (fn : Fn) (first cap : Array Value) (w : World), (Instr.makeFunc fn first cap).run Tryz.prog w = .ok (.func fn first cap) w := fun _ _ _ _ => rfl
  go_enter Tryz.func123, Tryz.ntmps123
  go_wp2_with (first | (go_at_call 155; refine (unary_no23 _ _).mono ?_; rintro e w' ⟨rfl, rfl⟩) | (go_at_call 157; refine (binary_23 0 0 (by decide) (by decide) (by decide) (by decide) _).mono ?_; rintro e w' ⟨rfl, rfl⟩) | (go_at_call 158; go_in))
  go_ret
  obtain ⟨h1, h2⟩ := opCl_new w G 23
  exact ⟨_, _, rfl, h1, h2⟩
set_option maxRecDepth 100000 in
theorem does_24 : DoesIs 24 177 (OpCl 24) := by
  intro G w
  have hmf : ∀ (fn : Fn) (first cap : Array Value) (w : World), (Instr.makeFunc fn first cap).run Tryz.prog w = .ok (.func fn first cap) w := fun _ _ _ _ => rfl
  go_enter Tryz.func123, Tryz.ntmps123
  go_wp2_with (first | (go_at_call 155; refine (unary_no24 _ _).mono ?_; rintro e w' ⟨rfl, rfl⟩) | (go_at_call 157; refine (binary_24 0 0 (by decide) (by decide) (by decide) (by decide) _).mono ?_; rintro e w' ⟨rfl, rfl⟩) | (go_at_call 158; go_in))
  go_ret
  obtain ⟨h1, h2⟩ := opCl_new w G 24
  exact ⟨_, _, rfl, h1, h2⟩
set_option maxRecDepth 100000 in
theorem does_25 : DoesIs 25 177 (OpCl 25) := by
  intro G w
  have hmf : ∀ (fn : Fn) (first cap : Array Value) (w : World), (Instr.makeFunc fn first cap).run Tryz.prog w = .ok (.func fn first cap) w := fun _ _ _ _ => rfl
  go_enter Tryz.func123, Tryz.ntmps123
  go_wp2_with (first | (go_at_call 155; refine (unary_no25 _ _).mono ?_; rintro e w' ⟨rfl, rfl⟩) | (go_at_call 157; refine (binary_25 0 0 (by decide) (by decide) (by decide) (by decide) _).mono ?_; rintro e w' ⟨rfl, rfl⟩) | (go_at_call 158; go_in))
  go_ret
  obtain ⟨h1, h2⟩ := opCl_new w G 25
  exact ⟨_, _, rfl, h1, h2⟩
set_option maxRecDepth 100000 in
theorem does_26 : DoesIs 26 177 (OpCl 26) := by
  intro G w
  have hmf : ∀ (fn : Fn) (first cap : Array Value) (w : World), (Instr.makeFunc fn first cap).run Tryz.prog w = .ok (.func fn first cap) w := fun _ _ _ _ => rfl
  go_enter Tryz.func123, Tryz.ntmps123
  go_wp2_with (first | (go_at_call 155; refine (unary_no26 _ _).mono ?_; rintro e w' ⟨rfl, rfl⟩) | (go_at_call 157; refine (binary_26 0 0 (by decide) (by decide) (by decide) (by decide) _).mono ?_; rintro e w' ⟨rfl, rfl⟩) | (go_at_call 158; go_in))
  go_ret
  obtain ⟨h1, h2⟩ := opCl_new w G 26
  exact ⟨_, _, rfl, h1, h2⟩
set_option maxRecDepth 100000 in
theorem does_27 : DoesIs 27 177 (OpCl 27) := by
  intro G w
  have hmf : ∀ (fn : Fn) (first cap : Array Value) (w : World), (Instr.makeFunc fn first cap).run Tryz.prog w = .ok (.func fn first cap) w := fun _ _ _ _ => rfl
  go_enter Tryz.func123, Tryz.ntmps123
  go_wp2_with (first | (go_at_call 155; refine (unary_no27 _ _).mono ?_; rintro e w' ⟨rfl, rfl⟩) | (go_at_call 157; refine (binary_27 0 0 (by decide) (by decide) (by decide) (by decide) _).mono ?_; rintro e w' ⟨rfl, rfl⟩) | (go_at_call 158; go_in))
  go_ret
  obtain ⟨h1, h2⟩ := opCl_new w G 27
  exact ⟨_, _, rfl, h1, h2⟩
set_option maxRecDepth 100000 in
theorem does_30 : DoesIs 30 177 (OpCl 30) := by
  intro G w
  have hmf : ∀ (fn : Fn) (first cap : Array Value) (w : World), (Instr.makeFunc fn first cap).run Tryz.prog w = .ok (.func fn first cap) w := fun _ _ _ _ => rfl
  go_enter Tryz.func123, Tryz.ntmps123
  go_wp2_with (first | (go_at_call 155; refine (unary_no30 _ _).mono ?_; rintro e w' ⟨rfl, rfl⟩) | (go_at_call 157; refine (binary_30 0 0 (by decide) (by decide) (by decide) (by decide) _).mono ?_; rintro e w' ⟨rfl, rfl⟩) | (go_at_call 158; go_in))
  go_ret
  obtain ⟨h1, h2⟩ := opCl_new w G 30
  exact ⟨_, _, rfl, h1, h2⟩
set_option maxRecDepth 100000 in
theorem does_31 : DoesIs 31 177 (OpCl 31) := by
  intro G w
  have hmf : ∀ (fn : Fn) (first cap : Array Value) (w : World), (Instr.makeFunc fn first cap).run Tryz.prog w = .ok (.func fn first cap) w := fun _ _ _ _ => rfl
  go_enter Tryz.func123, Tryz.ntmps123
  go_wp2_with (first | (go_at_call 155; refine (unary_no31 _ _).mono ?_; rintro e w' ⟨rfl, rfl⟩) | (go_at_call 157; refine (binary_31 0 0 (by decide) (by decide) (by decide) (by decide) _).mono ?_; rintro e w' ⟨rfl, rfl⟩) | (go_at_call 158; go_in))
  go_ret
  obtain ⟨h1, h2⟩ := opCl_new w G 31
  exact ⟨_, _, rfl, h1, h2⟩
set_option maxRecDepth 100000 in
theorem does_36 : DoesIs 36 177 (OpCl 36) := by
  intro G w
  have hmf : ∀ (fn : Fn) (first cap : Array Value) (w : World), (Instr.makeFunc fn first cap).run Tryz.prog w = .ok (.func fn first cap) w := fun _ _ _ _ => rfl
  go_enter Tryz.func123, Tryz.ntmps123
  go_wp2_with (first | (go_at_call 155; refine (unary_no36 _ _).mono ?_; rintro e w' ⟨rfl, rfl⟩) | (go_at_call 157; refine (binary_36 0 0 (by decide) (by decide) (by decide) (by decide) _).mono ?_; rintro e w' ⟨rfl, rfl⟩) | (go_at_call 158; go_in))
  go_ret
  obtain ⟨h1, h2⟩ := opCl_new w G 36
  exact ⟨_, _, rfl, h1, h2⟩
set_option maxRecDepth 100000 in
theorem does_37 : DoesIs 37 177 (OpCl 37) := by
  intro G w
  have hmf : ∀ (fn : Fn) (first cap : Array Value) (w : World), (Instr.makeFunc fn first cap).run Tryz.prog w = .ok (.func fn first cap) w := fun _ _ _ _ => rfl
  go_enter Tryz.func123, Tryz.ntmps123
  go_wp2_with (first | (go_at_call 155; refine (unary_no37 _ _).mono ?_; rintro e w' ⟨rfl, rfl⟩) | (go_at_call 157; refine (binary_37 0 0 (by decide) (by decide) (by decide) (by decide) _).mono ?_; rintro e w' ⟨rfl, rfl⟩) | (go_at_call 158; go_in))
  go_ret
  obtain ⟨h1, h2⟩ := opCl_new w G 37
  exact ⟨_, _, rfl, h1, h2⟩
set_option maxRecDepth 100000 in
theorem does_38 : DoesIs 38 177 (OpCl 38) := by
  intro G w
  have hmf : ∀ (fn : Fn) (first cap : Array Value) (w : World), (Instr.makeFunc fn first cap).run Tryz.prog w = .ok (.func fn first cap) w := fun _ _ _ _ => rfl
  go_enter Tryz.func123, Tryz.ntmps123
  go_wp2_with (first | (go_at_call 155; refine (unary_no38 _ _).mono ?_; rintro e w' ⟨rfl, rfl⟩) | (go_at_call 157; refine (binary_38 0 0 (by decide) (by decide) (by decide) (by decide) _).mono ?_; rintro e w' ⟨rfl, rfl⟩) | (go_at_call 158; go_in))
  go_ret
  obtain ⟨h1, h2⟩ := opCl_new w G 38
  exact ⟨_, _, rfl, h1, h2⟩
set_option maxRecDepth 100000 in
theorem does_40 : DoesIs 40 177 (OpCl 40) := by
  intro G w
  have hmf : ∀ (fn : Fn) (first cap : Array Value) (w : World), (Instr.makeFunc fn first cap).run Tryz.prog w = .ok (.func fn first cap) w := fun _ _ _ _ => rfl
  go_enter Tryz.func123, Tryz.ntmps123
  go_wp2_with (first | (go_at_call 155; refine (unary_no40 _ _).mono ?_; rintro e w' ⟨rfl, rfl⟩) | (go_at_call 157; refine (binary_40 0 0 (by decide) (by decide) (by decide) (by decide) _).mono ?_; rintro e w' ⟨rfl, rfl⟩) | (go_at_call 158; go_in))
  go_ret
  obtain ⟨h1, h2⟩ := opCl_new w G 40
  exact ⟨_, _, rfl, h1, h2⟩
set_option maxRecDepth 100000 in
theorem does_41 : DoesIs 41 177 (OpCl 41) := by
  intro G w
  have hmf : ∀ (fn : Fn) (first cap : Array Value) (w : World), (Instr.makeFunc fn first cap).run Tryz.prog w = .ok (.func fn first cap) w := fun _ _ _ _ => rfl
  go_enter Tryz.func123, Tryz.ntmps123
  go_wp2_with (first | (go_at_call 155; refine (unary_no41 _ _).mono ?_; rintro e w' ⟨rfl, rfl⟩) | (go_at_call 157; refine (binary_41 0 0 (by decide) (by decide) (by decide) (by decide) _).mono ?_; rintro e w' ⟨rfl, rfl⟩) | (go_at_call 158; go_in))
  go_ret
  obtain ⟨h1, h2⟩ := opCl_new w G 41
  exact ⟨_, _, rfl, h1, h2⟩
set_option maxRecDepth 100000 in
theorem does_42 : DoesIs 42 177 (OpCl 42) := by
  intro G w
  have hmf : ∀ (fn : Fn) (first cap : Array Value) (w : World), (Instr.makeFunc fn first cap).run Tryz.prog w = .ok (.func fn first cap) w := fun _ _ _ _ => rfl
  go_enter Tryz.func123, Tryz.ntmps123
  go_wp2_with (first | (go_at_call 155; refine (unary_no42 _ _).mono ?_; rintro e w' ⟨rfl, rfl⟩) | (go_at_call 157; refine (binary_42 0 0 (by decide) (by decide) (by decide) (by decide) _).mono ?_; rintro e w' ⟨rfl, rfl⟩) | (go_at_call 158; go_in))
  go_ret
  obtain ⟨h1, h2⟩ := opCl_new w G 42
  exact ⟨_, _, rfl, h1, h2⟩
set_option maxRecDepth 100000 in
theorem does_43 : DoesIs 43 177 (OpCl 43) := by
  intro G w
  have hmf : ∀ (fn : Fn) (first cap : Array Value) (w : World), (Instr.makeFunc fn first cap).run Tryz.prog w = .ok (.func fn first cap) w := fun _ _ _ _ => rfl
  go_enter Tryz.func123, Tryz.ntmps123
  go_wp2_with (first | (go_at_call 155; refine (unary_no43 _ _).mono ?_; rintro e w' ⟨rfl, rfl⟩) | (go_at_call 157; refine (binary_43 0 0 (by decide) (by decide) (by decide) (by decide) _).mono ?_; rintro e w' ⟨rfl, rfl⟩) | (go_at_call 158; go_in))
  go_ret
  obtain ⟨h1, h2⟩ := opCl_new w G 43
  exact ⟨_, _, rfl, h1, h2⟩
set_option maxRecDepth 100000 in
theorem does_44 : DoesIs 44 177 (OpCl 44) := by
  intro G w
  have hmf : ∀ (fn : Fn) (first cap : Array Value) (w : World), (Instr.makeFunc fn first cap).run Tryz.prog w = .ok (.func fn first cap) w := fun _ _ _ _ => rfl
  go_enter Tryz.func123, Tryz.ntmps123
  go_wp2_with (first | (go_at_call 155; refine (unary_no44 _ _).mono ?_; rintro e w' ⟨rfl, rfl⟩) | (go_at_call 157; refine (binary_44 0 0 (by decide) (by decide) (by decide) (by decide) _).mono ?_; rintro e w' ⟨rfl, rfl⟩) | (go_at_call 158; go_in))
  go_ret
  obtain ⟨h1, h2⟩ := opCl_new w G 44
  exact ⟨_, _, rfl, h1, h2⟩
set_option maxRecDepth 100000 in
theorem does_45 : DoesIs 45 177 (OpCl 45) := by
  intro G w
  have hmf : ∀ (fn : Fn) (first cap : Array Value) (w : World), (Instr.makeFunc fn first cap).run Tryz.prog w = .ok (.func fn first cap) w := fun _ _ _ _ => rfl
  go_enter Tryz.func123, Tryz.ntmps123
  go_wp2_with (first | (go_at_call 155; refine (unary_no45 _ _).mono ?_; rintro e w' ⟨rfl, rfl⟩) | (go_at_call 157; refine (binary_45 0 0 (by decide) (by decide) (by decide) (by decide) _).mono ?_; rintro e w' ⟨rfl, rfl⟩) | (go_at_call 158; go_in))
  go_ret
  obtain ⟨h1, h2⟩ := opCl_new w G 45
  exact ⟨_, _, rfl, h1, h2⟩
set_option maxRecDepth 100000 in
theorem does_46 : DoesIs 46 177 (OpCl 46) := by
  intro G w
  have hmf : ∀ (fn : Fn) (first cap : Array Value) (w : World), (Instr.makeFunc fn first cap).run Tryz.prog w = .ok (.func fn first cap) w := fun _ _ _ _ => rfl
  go_enter Tryz.func123, Tryz.ntmps123
  go_wp2_with (first | (go_at_call 155; refine (unary_no46 _ _).mono ?_; rintro e w' ⟨rfl, rfl⟩) | (go_at_call 157; refine (binary_46 0 0 (by decide) (by decide) (by decide) (by decide) _).mono ?_; rintro e w' ⟨rfl, rfl⟩) | (go_at_call 158; go_in))
  go_ret
  obtain ⟨h1, h2⟩ := opCl_new w G 46
  exact ⟨_, _, rfl, h1, h2⟩
set_option maxRecDepth 100000 in
theorem does_47 : DoesIs 47 177 (OpCl 47) := by
  intro G w
  have hmf : ∀ (fn : Fn) (first cap : Array Value) (w : World), (Instr.makeFunc fn first cap).run Tryz.prog w = .ok (.func fn first cap) w := fun _ _ _ _ => rfl
  go_enter Tryz.func123, Tryz.ntmps123
  go_wp2_with (first | (go_at_call 155; refine (unary_no47 _ _).mono ?_; rintro e w' ⟨rfl, rfl⟩) | (go_at_call 157; refine (binary_47 0 0 (by decide) (by decide) (by decide) (by decide) _).mono ?_; rintro e w' ⟨rfl, rfl⟩) | (go_at_call 158; go_in))
  go_ret
  obtain ⟨h1, h2⟩ := opCl_new w G 47
  exact ⟨_, _, rfl, h1, h2⟩
end Go.Proofs.YtdnalhjdmlkbmaaGreatDoor
namespace Go.Proofs.YtdnalhjdmlkbmaaGreatDoor
open Go.RowKit

/-- Do of this number is doF. -/
def DoIs (k : Nat) : Prop := ∀ (G : Nat → Nat) (i j q D R M : Nat) (d : List Int) (r : List (Int × Int)) (m : MemS) (_ : Own3 i j q) (_ : Good3 d r m) (_ : m.tones.length ≤ 99999) (w : World) (_ : Tabs w G) (_ : Trio w G i j q D R M d r m),
  Calls Tryz.prog 23 #[.int .i64 k, .pointer (some ⟨D, 0, none⟩), .pointer (some ⟨R, 0, none⟩), .pointer (some ⟨M, 0, none⟩)] w
    (Left3 i j q D R M w G (doF k d r m).1 (doF k d r m).2.1 (doF k d r m).2.2 (.int .i64 (faultF k d r)))
theorem nil_r {w : World} {G : Nat → Nat} {i j q D R M : Nat} {b : List Int} {r : List (Int × Int)} {m : MemS} (h : Trio w G i j q D R M (b ++ []) r m) : Trio w G i j q D R M b r m := by rw [List.append_nil] at h; exact h
/-- What stands on top, where At found it. -/
theorem top_of {r : List (Int × Int)} {kind : Int} (h : atE r 0 kind = 0) : ∃ r0 c, r = r0 ++ [(kind, c)] ∧ atV r 0 kind = c := by
  rcases List.eq_nil_or_concat r with rfl | ⟨r0, p, rfl⟩
  · exact absurd h (by rw [(at_out (by simp)).2]; decide)
  · rw [List.concat_eq_append] at h ⊢
    have hp : (r0 ++ [p])[r0.length]? = some p := by simp
    have h1 := atE_in (l := r0 ++ [p]) (j := 0) (k := r0.length) (kind := kind) (by simp) hp
    have h2 := atV_in (l := r0 ++ [p]) (j := 0) (k := r0.length) (kind := kind) (by simp) hp
    rw [show ((0 : Nat) : Int) = 0 from rfl] at h1 h2
    by_cases e : p.1 = kind
    · rw [if_pos e] at h2
      exact ⟨r0, p.2, by rw [← e], h2⟩
    · rw [if_neg e] at h1
      rw [h1] at h; exact absurd h (by decide)
/-- What the act of a primitive's function is to be. -/
def ActIs (k f : Nat) (Cl : World → (Nat → Nat) → Array Value → Prop) : Prop := ∀ (G : Nat → Nat) (i j q K D R M : Nat) (b x : List Int) (r : List (Int × Int)) (m : MemS) (c : Array Value) (_ : Own3 i j q) (_ : D16 x) (_ : R16 r) (_ : MemOk m) (_ : MemR m) (_ : m.tones.length ≤ 99999)
  (_ : x.length = (takesN k).toNat) (_ : (b.length : Int) + leavesN k ≤ 256) (_ : r.length ≤ 128) (_ : looksF k r = 0) (_ : (r.length : Int) + addsF k ≤ 128) (w : World) (_ : Cl w G c) (_ : Trio w G i j q D R M (b ++ x) r m) (_ : Desk w G K D R (some ⟨M, 0, none⟩)),
  Calls Tryz.prog f (#[.pointer (some ⟨K, 0, none⟩)] ++ c) w (Left3 i j q D R M w G (actF k b x r m).1 (actF k b x r m).2.1 (actF k b x r m).2.2 (.tuple #[]))
theorem do_is (k : Nat) (hk : k < 64) (hpl : plainB k = true) (f : Nat) (he : ∀ (args : Array Value) (w : World), (callFunc f args).run Tryz.prog w = .ok (.enter f args) w) (Cl : World → (Nat → Nat) → Array Value → Prop) (hd : DoesIs k f Cl) (hcl : Keeps Cl) (ha : ActIs k f Cl) : DoIs k := by
  intro G i j q D R M d r m o hg hn w ht h
  have hz := o.zero
  by_cases h1 : needF d.length (takesN k) (leavesN k) = 0
  · by_cases h2 : looksF k r = 0
    · by_cases h3 : 128 < (r.length : Int) + addsF k
      · have e : faultF k d r = 4 := by unfold faultF; rw [if_neg (by simpa using h1), if_neg (by simpa using h2), if_pos h3]
        have e2 : doF k d r m = (d, r, m) := by unfold doF; rw [if_pos (by rw [e]; decide)]
        rw [e, e2]
        refine (do_full G k hk hpl f Cl hd hcl i j D R ⟨M, 0, none⟩ d r hg.dl hg.rl h1 h2 h3 w ht h.pu h.pr).mono fun e w' k => ?_
        obtain ⟨k1, G', k2⟩ := k
        exact ⟨k1, G', k2.mono fun _ h => h.elim, h.still k2⟩
      · have e : faultF k d r = 0 := by unfold faultF; rw [if_neg (by simpa using h1), if_neg (by simpa using h2), if_neg h3]
        have e2 : doF k d r m = actF k (d.take (d.length - (takesN k).toNat)) (d.drop (d.length - (takesN k).toNat)) r m := by unfold doF; rw [if_neg (by rw [e]; simp)]
        have hl := takes_len hk h1
        rw [e, e2]
        refine do_ok G k hk hpl f he Cl hd hcl i j D R ⟨M, 0, none⟩ d r o.i0 o.j0 (S3 i j q) _ hg.dl hg.rl h1 h2 (by omega) w ht h.pu h.pr ?_
        intro w1 G1 K c a1 c1 k1
        refine ha G1 i j q K D R M _ _ r m c o (hg.d16.drop _) hg.r16 hg.mo hg.mr hn hl.1 hl.2 hg.rl h2 (by omega) w1 c1 ?_ k1
        rw [List.take_append_drop]
        exact h.still a1
    · have e : faultF k d r = looksF k r := by unfold faultF; rw [if_neg (by simpa using h1), if_pos h2]
      have e2 : doF k d r m = (d, r, m) := by unfold doF; rw [if_pos (by rw [e]; exact h2)]
      rw [e, e2]
      refine (do_looks G k hk hpl f Cl hd hcl i j D R ⟨M, 0, none⟩ d r hg.dl hg.rl h1 (by simpa using h2) w ht h.pu h.pr).mono fun e w' k => ?_
      obtain ⟨k1, G', k2⟩ := k
      exact ⟨k1, G', k2.mono fun _ h => h.elim, h.still k2⟩
  · have e : faultF k d r = needF d.length (takesN k) (leavesN k) := by unfold faultF; rw [if_pos h1]
    have e2 : doF k d r m = (d, r, m) := by unfold doF; rw [if_pos (by rw [e]; exact h1)]
    rw [e, e2]
    refine (do_need G k hk hpl f Cl hd hcl i D ⟨R, 0, none⟩ ⟨M, 0, none⟩ d hg.dl (by simpa using h1) w ht h.pu).mono fun e w' k => ?_
    obtain ⟨k1, G', k2⟩ := k
    exact ⟨k1, G', k2.mono fun _ h => h.elim, h.still k2⟩

theorem act_6 : ActIs 6 180 (fun _ _ c => c = #[]) := by
  intro G i j q K D R M b x r m c o hd hr hm hR hn hx hb hl hlook hadd w hc h hk
  subst hc
  obtain ⟨x, y, rfl⟩ := len2 hx
  have h0 := hd x (by simp)
  have h1 := hd y (by simp)
  exact doDo_act x y o (by have ha' : (r.length : Int) + 2 ≤ 128 := hadd; omega) h hk
theorem do_6 : DoIs 6 := do_is 6 (by decide) (by decide) 180 (enters_of Tryz.func180 (by kernel_rfl) rfl) (fun _ _ c => c = #[]) (fun G w => (does_6 w).mono fun e w' h => ⟨#[], G, h.1, by rw [← h.2]; exact Adv.refl _ _ _, rfl⟩) (fun _ _ _ _ _ _ h _ _ => h) act_6
theorem act_9 : ActIs 9 159 (fun _ _ c => c = #[]) := by
  intro G i j q K D R M b x r m c o hd hr hm hR hn hx hb hl hlook hadd w hc h hk
  subst hc
  obtain rfl := len0 hx
  exact doNothing_act o (nil_r h) hk
theorem do_9 : DoIs 9 := do_is 9 (by decide) (by decide) 159 (enters_of Tryz.func159 (by kernel_rfl) rfl) (fun _ _ c => c = #[]) (fun G w => (does_9 w).mono fun e w' h => ⟨#[], G, h.1, by rw [← h.2]; exact Adv.refl _ _ _, rfl⟩) (fun _ _ _ _ _ _ h _ _ => h) act_9
theorem act_50 : ActIs 50 181 (fun _ _ c => c = #[]) := by
  intro G i j q K D R M b x r m c o hd hr hm hR hn hx hb hl hlook hadd w hc h hk
  subst hc
  obtain ⟨x, rfl⟩ := len1 hx
  have h0 := hd x (by simp)
  exact doFetch_act x o hm h0.1 h0.2 (by have hb' : (b.length : Int) + 1 ≤ 256 := hb; omega) h hk
theorem do_50 : DoIs 50 := do_is 50 (by decide) (by decide) 181 (enters_of Tryz.func181 (by kernel_rfl) rfl) (fun _ _ c => c = #[]) (fun G w => (does_50 w).mono fun e w' h => ⟨#[], G, h.1, by rw [← h.2]; exact Adv.refl _ _ _, rfl⟩) (fun _ _ _ _ _ _ h _ _ => h) act_50
theorem act_51 : ActIs 51 182 (fun _ _ c => c = #[]) := by
  intro G i j q K D R M b x r m c o hd hr hm hR hn hx hb hl hlook hadd w hc h hk
  subst hc
  obtain ⟨x, y, rfl⟩ := len2 hx
  have h0 := hd x (by simp)
  have h1 := hd y (by simp)
  exact doStore_act x y o hm hn h1.1 h1.2 h hk
theorem do_51 : DoIs 51 := do_is 51 (by decide) (by decide) 182 (enters_of Tryz.func182 (by kernel_rfl) rfl) (fun _ _ c => c = #[]) (fun G w => (does_51 w).mono fun e w' h => ⟨#[], G, h.1, by rw [← h.2]; exact Adv.refl _ _ _, rfl⟩) (fun _ _ _ _ _ _ h _ _ => h) act_51
theorem act_52 : ActIs 52 183 (fun _ _ c => c = #[]) := by
  intro G i j q K D R M b x r m c o hd hr hm hR hn hx hb hl hlook hadd w hc h hk
  subst hc
  obtain ⟨x, rfl⟩ := len1 hx
  have h0 := hd x (by simp)
  exact doByte_act x o hm hR h0.1 h0.2 (by have hb' : (b.length : Int) + 1 ≤ 256 := hb; omega) h hk
theorem do_52 : DoIs 52 := do_is 52 (by decide) (by decide) 183 (enters_of Tryz.func183 (by kernel_rfl) rfl) (fun _ _ c => c = #[]) (fun G w => (does_52 w).mono fun e w' h => ⟨#[], G, h.1, by rw [← h.2]; exact Adv.refl _ _ _, rfl⟩) (fun _ _ _ _ _ _ h _ _ => h) act_52
theorem act_53 : ActIs 53 184 (fun _ _ c => c = #[]) := by
  intro G i j q K D R M b x r m c o hd hr hm hR hn hx hb hl hlook hadd w hc h hk
  subst hc
  obtain ⟨x, y, rfl⟩ := len2 hx
  have h0 := hd x (by simp)
  have h1 := hd y (by simp)
  exact doPut_act x y o hm hn h1.1 h1.2 h0.1 h0.2 h hk
theorem do_53 : DoIs 53 := do_is 53 (by decide) (by decide) 184 (enters_of Tryz.func184 (by kernel_rfl) rfl) (fun _ _ c => c = #[]) (fun G w => (does_53 w).mono fun e w' h => ⟨#[], G, h.1, by rw [← h.2]; exact Adv.refl _ _ _, rfl⟩) (fun _ _ _ _ _ _ h _ _ => h) act_53
theorem act_54 : ActIs 54 185 (fun _ _ c => c = #[]) := by
  intro G i j q K D R M b x r m c o hd hr hm hR hn hx hb hl hlook hadd w hc h hk
  subst hc
  obtain ⟨x, y, rfl⟩ := len2 hx
  have h0 := hd x (by simp)
  have h1 := hd y (by simp)
  exact doMore_act x y o hm hn h1.1 h1.2 h hk
theorem do_54 : DoIs 54 := do_is 54 (by decide) (by decide) 185 (enters_of Tryz.func185 (by kernel_rfl) rfl) (fun _ _ c => c = #[]) (fun G w => (does_54 w).mono fun e w' h => ⟨#[], G, h.1, by rw [← h.2]; exact Adv.refl _ _ _, rfl⟩) (fun _ _ _ _ _ _ h _ _ => h) act_54
theorem act_55 : ActIs 55 186 (fun _ _ c => c = #[]) := by
  intro G i j q K D R M b x r m c o hd hr hm hR hn hx hb hl hlook hadd w hc h hk
  subst hc
  obtain ⟨x, rfl⟩ := len1 hx
  have h0 := hd x (by simp)
  exact doSave_act x o (by have ha' : (r.length : Int) + 1 ≤ 128 := hadd; omega) h hk
theorem do_55 : DoIs 55 := do_is 55 (by decide) (by decide) 186 (enters_of Tryz.func186 (by kernel_rfl) rfl) (fun _ _ c => c = #[]) (fun G w => (does_55 w).mono fun e w' h => ⟨#[], G, h.1, by rw [← h.2]; exact Adv.refl _ _ _, rfl⟩) (fun _ _ _ _ _ _ h _ _ => h) act_55
theorem act_56 : ActIs 56 187 (fun _ _ c => c = #[]) := by
  intro G i j q K D R M b x r m c o hd hr hm hR hn hx hb hl hlook hadd w hc h hk
  subst hc
  obtain rfl := len0 hx
  obtain ⟨r0, c, rfl, e⟩ := top_of (show atE r 0 4 = 0 from hlook)
  show Calls _ _ _ _ (Left3 _ _ _ _ _ _ _ _ (b ++ [atV (r0 ++ [(4, c)]) 0 4]) (r0 ++ [(4, c)]).dropLast m _)
  rw [e, List.dropLast_concat]
  exact doBack_act c o (by simp at hl; omega) (by have hb' : (b.length : Int) + 1 ≤ 256 := hb; omega) (nil_r h) hk
theorem do_56 : DoIs 56 := do_is 56 (by decide) (by decide) 187 (enters_of Tryz.func187 (by kernel_rfl) rfl) (fun _ _ c => c = #[]) (fun G w => (does_56 w).mono fun e w' h => ⟨#[], G, h.1, by rw [← h.2]; exact Adv.refl _ _ _, rfl⟩) (fun _ _ _ _ _ _ h _ _ => h) act_56
theorem act_57 : ActIs 57 188 (fun _ _ c => c = #[]) := by
  intro G i j q K D R M b x r m c o hd hr hm hR hn hx hb hl hlook hadd w hc h hk
  subst hc
  obtain rfl := len0 hx
  exact doSee_act o hl (by have hb' : (b.length : Int) + 1 ≤ 256 := hb; omega) (nil_r h) hk
theorem do_57 : DoIs 57 := do_is 57 (by decide) (by decide) 188 (enters_of Tryz.func188 (by kernel_rfl) rfl) (fun _ _ c => c = #[]) (fun G w => (does_57 w).mono fun e w' h => ⟨#[], G, h.1, by rw [← h.2]; exact Adv.refl _ _ _, rfl⟩) (fun _ _ _ _ _ _ h _ _ => h) act_57
theorem act_58 : ActIs 58 189 (fun _ _ c => c = #[]) := by
  intro G i j q K D R M b x r m c o hd hr hm hR hn hx hb hl hlook hadd w hc h hk
  subst hc
  obtain rfl := len0 hx
  exact doIndex_act o hl (by have hb' : (b.length : Int) + 1 ≤ 256 := hb; omega) (nil_r h) hk
theorem do_58 : DoIs 58 := do_is 58 (by decide) (by decide) 189 (enters_of Tryz.func189 (by kernel_rfl) rfl) (fun _ _ c => c = #[]) (fun G w => (does_58 w).mono fun e w' h => ⟨#[], G, h.1, by rw [← h.2]; exact Adv.refl _ _ _, rfl⟩) (fun _ _ _ _ _ _ h _ _ => h) act_58
theorem act_59 : ActIs 59 190 (fun _ _ c => c = #[]) := by
  intro G i j q K D R M b x r m c o hd hr hm hR hn hx hb hl hlook hadd w hc h hk
  subst hc
  obtain rfl := len0 hx
  exact doOuter_act o hl (by have hb' : (b.length : Int) + 1 ≤ 256 := hb; omega) (nil_r h) hk
theorem do_59 : DoIs 59 := do_is 59 (by decide) (by decide) 190 (enters_of Tryz.func190 (by kernel_rfl) rfl) (fun _ _ c => c = #[]) (fun G w => (does_59 w).mono fun e w' h => ⟨#[], G, h.1, by rw [← h.2]; exact Adv.refl _ _ _, rfl⟩) (fun _ _ _ _ _ _ h _ _ => h) act_59
theorem act_60 : ActIs 60 191 (fun _ _ c => c = #[]) := by
  intro G i j q K D R M b x r m c o hd hr hm hR hn hx hb hl hlook hadd w hc h hk
  subst hc
  obtain ⟨x, y, z, rfl⟩ := len3 hx
  have h0 := hd x (by simp)
  have h1 := hd y (by simp)
  have h2 := hd z (by simp)
  exact doPlot_act x y z o hm hn h0.1 h1.1 h2.1 h2.2 h hk
theorem do_60 : DoIs 60 := do_is 60 (by decide) (by decide) 191 (enters_of Tryz.func191 (by kernel_rfl) rfl) (fun _ _ c => c = #[]) (fun G w => (does_60 w).mono fun e w' h => ⟨#[], G, h.1, by rw [← h.2]; exact Adv.refl _ _ _, rfl⟩) (fun _ _ _ _ _ _ h _ _ => h) act_60
theorem act_61 : ActIs 61 192 (fun _ _ c => c = #[]) := by
  intro G i j q K D R M b x r m c o hd hr hm hR hn hx hb hl hlook hadd w hc h hk
  subst hc
  obtain rfl := len0 hx
  exact doPad_act o hm hR (by have hb' : (b.length : Int) + 1 ≤ 256 := hb; omega) (nil_r h) hk
theorem do_61 : DoIs 61 := do_is 61 (by decide) (by decide) 192 (enters_of Tryz.func192 (by kernel_rfl) rfl) (fun _ _ c => c = #[]) (fun G w => (does_61 w).mono fun e w' h => ⟨#[], G, h.1, by rw [← h.2]; exact Adv.refl _ _ _, rfl⟩) (fun _ _ _ _ _ _ h _ _ => h) act_61
theorem act_62 : ActIs 62 193 (fun _ _ c => c = #[]) := by
  intro G i j q K D R M b x r m c o hd hr hm hR hn hx hb hl hlook hadd w hc h hk
  subst hc
  obtain ⟨x, y, rfl⟩ := len2 hx
  have h0 := hd x (by simp)
  have h1 := hd y (by simp)
  exact doTone_act x y o hm hn h0.1 h0.2 h1.1 h1.2 h hk
theorem do_62 : DoIs 62 := do_is 62 (by decide) (by decide) 193 (enters_of Tryz.func193 (by kernel_rfl) rfl) (fun _ _ c => c = #[]) (fun G w => (does_62 w).mono fun e w' h => ⟨#[], G, h.1, by rw [← h.2]; exact Adv.refl _ _ _, rfl⟩) (fun _ _ _ _ _ _ h _ _ => h) act_62
theorem act_63 : ActIs 63 194 (fun _ _ c => c = #[]) := by
  intro G i j q K D R M b x r m c o hd hr hm hR hn hx hb hl hlook hadd w hc h hk
  subst hc
  obtain ⟨x, rfl⟩ := len1 hx
  have h0 := hd x (by simp)
  exact doBank_act x o hm hn h0.1 h0.2 h hk
theorem do_63 : DoIs 63 := do_is 63 (by decide) (by decide) 194 (enters_of Tryz.func194 (by kernel_rfl) rfl) (fun _ _ c => c = #[]) (fun G w => (does_63 w).mono fun e w' h => ⟨#[], G, h.1, by rw [← h.2]; exact Adv.refl _ _ _, rfl⟩) (fun _ _ _ _ _ _ h _ _ => h) act_63
theorem act_12 : ActIs 12 178 (ShufCl 1 [0, 0]) := by
  intro G i j q K D R M b x r m c o hd hr hm hR hn hx hb hl hlook hadd w hc h hk
  exact shuf_act 1 [0, 0] x c hx (by decide) (by decide) (by decide) o (by have hb' : (b.length : Int) + 2 ≤ 256 := hb; simp; omega) hc h hk
theorem do_12 : DoIs 12 := do_is 12 (by decide) (by decide) 178 (enters_of Tryz.func178 (by kernel_rfl) rfl) (ShufCl 1 [0, 0]) (shuf_is 12 1 [0, 0] does_12) (shuf_keeps 1 [0, 0]) act_12
theorem act_13 : ActIs 13 178 (ShufCl 1 []) := by
  intro G i j q K D R M b x r m c o hd hr hm hR hn hx hb hl hlook hadd w hc h hk
  exact shuf_act 1 [] x c hx (by decide) (by decide) (by decide) o (by have hb' : (b.length : Int) + 0 ≤ 256 := hb; simp; omega) hc h hk
theorem do_13 : DoIs 13 := do_is 13 (by decide) (by decide) 178 (enters_of Tryz.func178 (by kernel_rfl) rfl) (ShufCl 1 []) (shuf_is 13 1 [] does_13) (shuf_keeps 1 []) act_13
theorem act_14 : ActIs 14 178 (ShufCl 2 [1, 0]) := by
  intro G i j q K D R M b x r m c o hd hr hm hR hn hx hb hl hlook hadd w hc h hk
  exact shuf_act 2 [1, 0] x c hx (by decide) (by decide) (by decide) o (by have hb' : (b.length : Int) + 2 ≤ 256 := hb; simp; omega) hc h hk
theorem do_14 : DoIs 14 := do_is 14 (by decide) (by decide) 178 (enters_of Tryz.func178 (by kernel_rfl) rfl) (ShufCl 2 [1, 0]) (shuf_is 14 2 [1, 0] does_14) (shuf_keeps 2 [1, 0]) act_14
theorem act_15 : ActIs 15 178 (ShufCl 2 [0, 1, 0]) := by
  intro G i j q K D R M b x r m c o hd hr hm hR hn hx hb hl hlook hadd w hc h hk
  exact shuf_act 2 [0, 1, 0] x c hx (by decide) (by decide) (by decide) o (by have hb' : (b.length : Int) + 3 ≤ 256 := hb; simp; omega) hc h hk
theorem do_15 : DoIs 15 := do_is 15 (by decide) (by decide) 178 (enters_of Tryz.func178 (by kernel_rfl) rfl) (ShufCl 2 [0, 1, 0]) (shuf_is 15 2 [0, 1, 0] does_15) (shuf_keeps 2 [0, 1, 0]) act_15
theorem act_16 : ActIs 16 178 (ShufCl 3 [1, 2, 0]) := by
  intro G i j q K D R M b x r m c o hd hr hm hR hn hx hb hl hlook hadd w hc h hk
  exact shuf_act 3 [1, 2, 0] x c hx (by decide) (by decide) (by decide) o (by have hb' : (b.length : Int) + 3 ≤ 256 := hb; simp; omega) hc h hk
theorem do_16 : DoIs 16 := do_is 16 (by decide) (by decide) 178 (enters_of Tryz.func178 (by kernel_rfl) rfl) (ShufCl 3 [1, 2, 0]) (shuf_is 16 3 [1, 2, 0] does_16) (shuf_keeps 3 [1, 2, 0]) act_16
theorem act_17 : ActIs 17 178 (ShufCl 2 [1]) := by
  intro G i j q K D R M b x r m c o hd hr hm hR hn hx hb hl hlook hadd w hc h hk
  exact shuf_act 2 [1] x c hx (by decide) (by decide) (by decide) o (by have hb' : (b.length : Int) + 1 ≤ 256 := hb; simp; omega) hc h hk
theorem do_17 : DoIs 17 := do_is 17 (by decide) (by decide) 178 (enters_of Tryz.func178 (by kernel_rfl) rfl) (ShufCl 2 [1]) (shuf_is 17 2 [1] does_17) (shuf_keeps 2 [1]) act_17
theorem act_18 : ActIs 18 178 (ShufCl 2 [1, 0, 1]) := by
  intro G i j q K D R M b x r m c o hd hr hm hR hn hx hb hl hlook hadd w hc h hk
  exact shuf_act 2 [1, 0, 1] x c hx (by decide) (by decide) (by decide) o (by have hb' : (b.length : Int) + 3 ≤ 256 := hb; simp; omega) hc h hk
theorem do_18 : DoIs 18 := do_is 18 (by decide) (by decide) 178 (enters_of Tryz.func178 (by kernel_rfl) rfl) (ShufCl 2 [1, 0, 1]) (shuf_is 18 2 [1, 0, 1] does_18) (shuf_keeps 2 [1, 0, 1]) act_18
theorem act_19 : ActIs 19 178 (ShufCl 2 [0, 1, 0, 1]) := by
  intro G i j q K D R M b x r m c o hd hr hm hR hn hx hb hl hlook hadd w hc h hk
  exact shuf_act 2 [0, 1, 0, 1] x c hx (by decide) (by decide) (by decide) o (by have hb' : (b.length : Int) + 4 ≤ 256 := hb; simp; omega) hc h hk
theorem do_19 : DoIs 19 := do_is 19 (by decide) (by decide) 178 (enters_of Tryz.func178 (by kernel_rfl) rfl) (ShufCl 2 [0, 1, 0, 1]) (shuf_is 19 2 [0, 1, 0, 1] does_19) (shuf_keeps 2 [0, 1, 0, 1]) act_19
theorem act_20 : ActIs 20 178 (ShufCl 2 []) := by
  intro G i j q K D R M b x r m c o hd hr hm hR hn hx hb hl hlook hadd w hc h hk
  exact shuf_act 2 [] x c hx (by decide) (by decide) (by decide) o (by have hb' : (b.length : Int) + 0 ≤ 256 := hb; simp; omega) hc h hk
theorem do_20 : DoIs 20 := do_is 20 (by decide) (by decide) 178 (enters_of Tryz.func178 (by kernel_rfl) rfl) (ShufCl 2 []) (shuf_is 20 2 [] does_20) (shuf_keeps 2 []) act_20
theorem act_28 : ActIs 28 174 (OpCl 28) := by
  intro G i j q K D R M b x r m c o hd hr hm hR hn hx hb hl hlook hadd w hc h hk
  obtain ⟨x, rfl⟩ := len1 hx
  have h0 := hd x (by simp)
  obtain ⟨B, rfl, hB, hG⟩ := hc
  exact one_act 28 x (unF 28 x) B (fun w => unary_28 x h0.1 h0.2 w) o (by have hb' : (b.length : Int) + 1 ≤ 256 := hb; omega) hB hG h hk
theorem do_28 : DoIs 28 := do_is 28 (by decide) (by decide) 174 (enters_of Tryz.func174 (by kernel_rfl) rfl) (OpCl 28) does_28 (op_keeps 28) act_28
theorem act_29 : ActIs 29 174 (OpCl 29) := by
  intro G i j q K D R M b x r m c o hd hr hm hR hn hx hb hl hlook hadd w hc h hk
  obtain ⟨x, rfl⟩ := len1 hx
  have h0 := hd x (by simp)
  obtain ⟨B, rfl, hB, hG⟩ := hc
  exact one_act 29 x (unF 29 x) B (fun w => unary_29 x h0.1 h0.2 w) o (by have hb' : (b.length : Int) + 1 ≤ 256 := hb; omega) hB hG h hk
theorem do_29 : DoIs 29 := do_is 29 (by decide) (by decide) 174 (enters_of Tryz.func174 (by kernel_rfl) rfl) (OpCl 29) does_29 (op_keeps 29) act_29
theorem act_32 : ActIs 32 174 (OpCl 32) := by
  intro G i j q K D R M b x r m c o hd hr hm hR hn hx hb hl hlook hadd w hc h hk
  obtain ⟨x, rfl⟩ := len1 hx
  have h0 := hd x (by simp)
  obtain ⟨B, rfl, hB, hG⟩ := hc
  exact one_act 32 x (unF 32 x) B (fun w => unary_32 x h0.1 h0.2 w) o (by have hb' : (b.length : Int) + 1 ≤ 256 := hb; omega) hB hG h hk
theorem do_32 : DoIs 32 := do_is 32 (by decide) (by decide) 174 (enters_of Tryz.func174 (by kernel_rfl) rfl) (OpCl 32) does_32 (op_keeps 32) act_32
theorem act_33 : ActIs 33 174 (OpCl 33) := by
  intro G i j q K D R M b x r m c o hd hr hm hR hn hx hb hl hlook hadd w hc h hk
  obtain ⟨x, rfl⟩ := len1 hx
  have h0 := hd x (by simp)
  obtain ⟨B, rfl, hB, hG⟩ := hc
  exact one_act 33 x (unF 33 x) B (fun w => unary_33 x h0.1 h0.2 w) o (by have hb' : (b.length : Int) + 1 ≤ 256 := hb; omega) hB hG h hk
theorem do_33 : DoIs 33 := do_is 33 (by decide) (by decide) 174 (enters_of Tryz.func174 (by kernel_rfl) rfl) (OpCl 33) does_33 (op_keeps 33) act_33
theorem act_34 : ActIs 34 174 (OpCl 34) := by
  intro G i j q K D R M b x r m c o hd hr hm hR hn hx hb hl hlook hadd w hc h hk
  obtain ⟨x, rfl⟩ := len1 hx
  have h0 := hd x (by simp)
  obtain ⟨B, rfl, hB, hG⟩ := hc
  exact one_act 34 x (unF 34 x) B (fun w => unary_34 x h0.1 h0.2 w) o (by have hb' : (b.length : Int) + 1 ≤ 256 := hb; omega) hB hG h hk
theorem do_34 : DoIs 34 := do_is 34 (by decide) (by decide) 174 (enters_of Tryz.func174 (by kernel_rfl) rfl) (OpCl 34) does_34 (op_keeps 34) act_34
theorem act_35 : ActIs 35 174 (OpCl 35) := by
  intro G i j q K D R M b x r m c o hd hr hm hR hn hx hb hl hlook hadd w hc h hk
  obtain ⟨x, rfl⟩ := len1 hx
  have h0 := hd x (by simp)
  obtain ⟨B, rfl, hB, hG⟩ := hc
  exact one_act 35 x (unF 35 x) B (fun w => unary_35 x h0.1 h0.2 w) o (by have hb' : (b.length : Int) + 1 ≤ 256 := hb; omega) hB hG h hk
theorem do_35 : DoIs 35 := do_is 35 (by decide) (by decide) 174 (enters_of Tryz.func174 (by kernel_rfl) rfl) (OpCl 35) does_35 (op_keeps 35) act_35
theorem act_39 : ActIs 39 174 (OpCl 39) := by
  intro G i j q K D R M b x r m c o hd hr hm hR hn hx hb hl hlook hadd w hc h hk
  obtain ⟨x, rfl⟩ := len1 hx
  have h0 := hd x (by simp)
  obtain ⟨B, rfl, hB, hG⟩ := hc
  exact one_act 39 x (unF 39 x) B (fun w => unary_39 x h0.1 h0.2 w) o (by have hb' : (b.length : Int) + 1 ≤ 256 := hb; omega) hB hG h hk
theorem do_39 : DoIs 39 := do_is 39 (by decide) (by decide) 174 (enters_of Tryz.func174 (by kernel_rfl) rfl) (OpCl 39) does_39 (op_keeps 39) act_39
theorem act_48 : ActIs 48 174 (OpCl 48) := by
  intro G i j q K D R M b x r m c o hd hr hm hR hn hx hb hl hlook hadd w hc h hk
  obtain ⟨x, rfl⟩ := len1 hx
  have h0 := hd x (by simp)
  obtain ⟨B, rfl, hB, hG⟩ := hc
  exact one_act 48 x (unF 48 x) B (fun w => unary_48 x h0.1 h0.2 w) o (by have hb' : (b.length : Int) + 1 ≤ 256 := hb; omega) hB hG h hk
theorem do_48 : DoIs 48 := do_is 48 (by decide) (by decide) 174 (enters_of Tryz.func174 (by kernel_rfl) rfl) (OpCl 48) does_48 (op_keeps 48) act_48
theorem act_49 : ActIs 49 174 (OpCl 49) := by
  intro G i j q K D R M b x r m c o hd hr hm hR hn hx hb hl hlook hadd w hc h hk
  obtain ⟨x, rfl⟩ := len1 hx
  have h0 := hd x (by simp)
  obtain ⟨B, rfl, hB, hG⟩ := hc
  exact one_act 49 x (unF 49 x) B (fun w => unary_49 x h0.1 h0.2 w) o (by have hb' : (b.length : Int) + 1 ≤ 256 := hb; omega) hB hG h hk
theorem do_49 : DoIs 49 := do_is 49 (by decide) (by decide) 174 (enters_of Tryz.func174 (by kernel_rfl) rfl) (OpCl 49) does_49 (op_keeps 49) act_49
theorem act_21 : ActIs 21 177 (OpCl 21) := by
  intro G i j q K D R M b x r m c o hd hr hm hR hn hx hb hl hlook hadd w hc h hk
  obtain ⟨x, y, rfl⟩ := len2 hx
  have h0 := hd x (by simp)
  have h1 := hd y (by simp)
  obtain ⟨B, rfl, hB, hG⟩ := hc
  exact two_act 21 x y (binF 21 x y) B (fun w => binary_21 x y h0.1 h0.2 h1.1 h1.2 w) o (by have hb' : (b.length : Int) + 1 ≤ 256 := hb; omega) hB hG h hk
theorem do_21 : DoIs 21 := do_is 21 (by decide) (by decide) 177 (enters_of Tryz.func177 (by kernel_rfl) rfl) (OpCl 21) does_21 (op_keeps 21) act_21
theorem act_22 : ActIs 22 177 (OpCl 22) := by
  intro G i j q K D R M b x r m c o hd hr hm hR hn hx hb hl hlook hadd w hc h hk
  obtain ⟨x, y, rfl⟩ := len2 hx
  have h0 := hd x (by simp)
  have h1 := hd y (by simp)
  obtain ⟨B, rfl, hB, hG⟩ := hc
  exact two_act 22 x y (binF 22 x y) B (fun w => binary_22 x y h0.1 h0.2 h1.1 h1.2 w) o (by have hb' : (b.length : Int) + 1 ≤ 256 := hb; omega) hB hG h hk
theorem do_22 : DoIs 22 := do_is 22 (by decide) (by decide) 177 (enters_of Tryz.func177 (by kernel_rfl) rfl) (OpCl 22) does_22 (op_keeps 22) act_22
theorem act_23 : ActIs 23 177 (OpCl 23) := by
  intro G i j q K D R M b x r m c o hd hr hm hR hn hx hb hl hlook hadd w hc h hk
  obtain ⟨x, y, rfl⟩ := len2 hx
  have h0 := hd x (by simp)
  have h1 := hd y (by simp)
  obtain ⟨B, rfl, hB, hG⟩ := hc
  exact two_act 23 x y (binF 23 x y) B (fun w => binary_23 x y h0.1 h0.2 h1.1 h1.2 w) o (by have hb' : (b.length : Int) + 1 ≤ 256 := hb; omega) hB hG h hk
theorem do_23 : DoIs 23 := do_is 23 (by decide) (by decide) 177 (enters_of Tryz.func177 (by kernel_rfl) rfl) (OpCl 23) does_23 (op_keeps 23) act_23
theorem act_24 : ActIs 24 177 (OpCl 24) := by
  intro G i j q K D R M b x r m c o hd hr hm hR hn hx hb hl hlook hadd w hc h hk
  obtain ⟨x, y, rfl⟩ := len2 hx
  have h0 := hd x (by simp)
  have h1 := hd y (by simp)
  obtain ⟨B, rfl, hB, hG⟩ := hc
  exact two_act 24 x y (binF 24 x y) B (fun w => binary_24 x y h0.1 h0.2 h1.1 h1.2 w) o (by have hb' : (b.length : Int) + 1 ≤ 256 := hb; omega) hB hG h hk
theorem do_24 : DoIs 24 := do_is 24 (by decide) (by decide) 177 (enters_of Tryz.func177 (by kernel_rfl) rfl) (OpCl 24) does_24 (op_keeps 24) act_24
theorem act_25 : ActIs 25 177 (OpCl 25) := by
  intro G i j q K D R M b x r m c o hd hr hm hR hn hx hb hl hlook hadd w hc h hk
  obtain ⟨x, y, rfl⟩ := len2 hx
  have h0 := hd x (by simp)
  have h1 := hd y (by simp)
  obtain ⟨B, rfl, hB, hG⟩ := hc
  exact two_act 25 x y (binF 25 x y) B (fun w => binary_25 x y h0.1 h0.2 h1.1 h1.2 w) o (by have hb' : (b.length : Int) + 1 ≤ 256 := hb; omega) hB hG h hk
theorem do_25 : DoIs 25 := do_is 25 (by decide) (by decide) 177 (enters_of Tryz.func177 (by kernel_rfl) rfl) (OpCl 25) does_25 (op_keeps 25) act_25
theorem act_26 : ActIs 26 177 (OpCl 26) := by
  intro G i j q K D R M b x r m c o hd hr hm hR hn hx hb hl hlook hadd w hc h hk
  obtain ⟨x, y, rfl⟩ := len2 hx
  have h0 := hd x (by simp)
  have h1 := hd y (by simp)
  obtain ⟨B, rfl, hB, hG⟩ := hc
  exact two_act 26 x y (binF 26 x y) B (fun w => binary_26 x y h0.1 h0.2 h1.1 h1.2 w) o (by have hb' : (b.length : Int) + 1 ≤ 256 := hb; omega) hB hG h hk
theorem do_26 : DoIs 26 := do_is 26 (by decide) (by decide) 177 (enters_of Tryz.func177 (by kernel_rfl) rfl) (OpCl 26) does_26 (op_keeps 26) act_26
theorem act_27 : ActIs 27 177 (OpCl 27) := by
  intro G i j q K D R M b x r m c o hd hr hm hR hn hx hb hl hlook hadd w hc h hk
  obtain ⟨x, y, rfl⟩ := len2 hx
  have h0 := hd x (by simp)
  have h1 := hd y (by simp)
  obtain ⟨B, rfl, hB, hG⟩ := hc
  exact two_act 27 x y (binF 27 x y) B (fun w => binary_27 x y h0.1 h0.2 h1.1 h1.2 w) o (by have hb' : (b.length : Int) + 1 ≤ 256 := hb; omega) hB hG h hk
theorem do_27 : DoIs 27 := do_is 27 (by decide) (by decide) 177 (enters_of Tryz.func177 (by kernel_rfl) rfl) (OpCl 27) does_27 (op_keeps 27) act_27
theorem act_30 : ActIs 30 177 (OpCl 30) := by
  intro G i j q K D R M b x r m c o hd hr hm hR hn hx hb hl hlook hadd w hc h hk
  obtain ⟨x, y, rfl⟩ := len2 hx
  have h0 := hd x (by simp)
  have h1 := hd y (by simp)
  obtain ⟨B, rfl, hB, hG⟩ := hc
  exact two_act 30 x y (binF 30 x y) B (fun w => binary_30 x y h0.1 h0.2 h1.1 h1.2 w) o (by have hb' : (b.length : Int) + 1 ≤ 256 := hb; omega) hB hG h hk
theorem do_30 : DoIs 30 := do_is 30 (by decide) (by decide) 177 (enters_of Tryz.func177 (by kernel_rfl) rfl) (OpCl 30) does_30 (op_keeps 30) act_30
theorem act_31 : ActIs 31 177 (OpCl 31) := by
  intro G i j q K D R M b x r m c o hd hr hm hR hn hx hb hl hlook hadd w hc h hk
  obtain ⟨x, y, rfl⟩ := len2 hx
  have h0 := hd x (by simp)
  have h1 := hd y (by simp)
  obtain ⟨B, rfl, hB, hG⟩ := hc
  exact two_act 31 x y (binF 31 x y) B (fun w => binary_31 x y h0.1 h0.2 h1.1 h1.2 w) o (by have hb' : (b.length : Int) + 1 ≤ 256 := hb; omega) hB hG h hk
theorem do_31 : DoIs 31 := do_is 31 (by decide) (by decide) 177 (enters_of Tryz.func177 (by kernel_rfl) rfl) (OpCl 31) does_31 (op_keeps 31) act_31
theorem act_36 : ActIs 36 177 (OpCl 36) := by
  intro G i j q K D R M b x r m c o hd hr hm hR hn hx hb hl hlook hadd w hc h hk
  obtain ⟨x, y, rfl⟩ := len2 hx
  have h0 := hd x (by simp)
  have h1 := hd y (by simp)
  obtain ⟨B, rfl, hB, hG⟩ := hc
  exact two_act 36 x y (binF 36 x y) B (fun w => binary_36 x y h0.1 h0.2 h1.1 h1.2 w) o (by have hb' : (b.length : Int) + 1 ≤ 256 := hb; omega) hB hG h hk
theorem do_36 : DoIs 36 := do_is 36 (by decide) (by decide) 177 (enters_of Tryz.func177 (by kernel_rfl) rfl) (OpCl 36) does_36 (op_keeps 36) act_36
theorem act_37 : ActIs 37 177 (OpCl 37) := by
  intro G i j q K D R M b x r m c o hd hr hm hR hn hx hb hl hlook hadd w hc h hk
  obtain ⟨x, y, rfl⟩ := len2 hx
  have h0 := hd x (by simp)
  have h1 := hd y (by simp)
  obtain ⟨B, rfl, hB, hG⟩ := hc
  exact two_act 37 x y (binF 37 x y) B (fun w => binary_37 x y h0.1 h0.2 h1.1 h1.2 w) o (by have hb' : (b.length : Int) + 1 ≤ 256 := hb; omega) hB hG h hk
theorem do_37 : DoIs 37 := do_is 37 (by decide) (by decide) 177 (enters_of Tryz.func177 (by kernel_rfl) rfl) (OpCl 37) does_37 (op_keeps 37) act_37
theorem act_38 : ActIs 38 177 (OpCl 38) := by
  intro G i j q K D R M b x r m c o hd hr hm hR hn hx hb hl hlook hadd w hc h hk
  obtain ⟨x, y, rfl⟩ := len2 hx
  have h0 := hd x (by simp)
  have h1 := hd y (by simp)
  obtain ⟨B, rfl, hB, hG⟩ := hc
  exact two_act 38 x y (binF 38 x y) B (fun w => binary_38 x y h0.1 h0.2 h1.1 h1.2 w) o (by have hb' : (b.length : Int) + 1 ≤ 256 := hb; omega) hB hG h hk
theorem do_38 : DoIs 38 := do_is 38 (by decide) (by decide) 177 (enters_of Tryz.func177 (by kernel_rfl) rfl) (OpCl 38) does_38 (op_keeps 38) act_38
theorem act_40 : ActIs 40 177 (OpCl 40) := by
  intro G i j q K D R M b x r m c o hd hr hm hR hn hx hb hl hlook hadd w hc h hk
  obtain ⟨x, y, rfl⟩ := len2 hx
  have h0 := hd x (by simp)
  have h1 := hd y (by simp)
  obtain ⟨B, rfl, hB, hG⟩ := hc
  exact two_act 40 x y (binF 40 x y) B (fun w => binary_40 x y h0.1 h0.2 h1.1 h1.2 w) o (by have hb' : (b.length : Int) + 1 ≤ 256 := hb; omega) hB hG h hk
theorem do_40 : DoIs 40 := do_is 40 (by decide) (by decide) 177 (enters_of Tryz.func177 (by kernel_rfl) rfl) (OpCl 40) does_40 (op_keeps 40) act_40
theorem act_41 : ActIs 41 177 (OpCl 41) := by
  intro G i j q K D R M b x r m c o hd hr hm hR hn hx hb hl hlook hadd w hc h hk
  obtain ⟨x, y, rfl⟩ := len2 hx
  have h0 := hd x (by simp)
  have h1 := hd y (by simp)
  obtain ⟨B, rfl, hB, hG⟩ := hc
  exact two_act 41 x y (binF 41 x y) B (fun w => binary_41 x y h0.1 h0.2 h1.1 h1.2 w) o (by have hb' : (b.length : Int) + 1 ≤ 256 := hb; omega) hB hG h hk
theorem do_41 : DoIs 41 := do_is 41 (by decide) (by decide) 177 (enters_of Tryz.func177 (by kernel_rfl) rfl) (OpCl 41) does_41 (op_keeps 41) act_41
theorem act_42 : ActIs 42 177 (OpCl 42) := by
  intro G i j q K D R M b x r m c o hd hr hm hR hn hx hb hl hlook hadd w hc h hk
  obtain ⟨x, y, rfl⟩ := len2 hx
  have h0 := hd x (by simp)
  have h1 := hd y (by simp)
  obtain ⟨B, rfl, hB, hG⟩ := hc
  exact two_act 42 x y (binF 42 x y) B (fun w => binary_42 x y h0.1 h0.2 h1.1 h1.2 w) o (by have hb' : (b.length : Int) + 1 ≤ 256 := hb; omega) hB hG h hk
theorem do_42 : DoIs 42 := do_is 42 (by decide) (by decide) 177 (enters_of Tryz.func177 (by kernel_rfl) rfl) (OpCl 42) does_42 (op_keeps 42) act_42
theorem act_43 : ActIs 43 177 (OpCl 43) := by
  intro G i j q K D R M b x r m c o hd hr hm hR hn hx hb hl hlook hadd w hc h hk
  obtain ⟨x, y, rfl⟩ := len2 hx
  have h0 := hd x (by simp)
  have h1 := hd y (by simp)
  obtain ⟨B, rfl, hB, hG⟩ := hc
  exact two_act 43 x y (binF 43 x y) B (fun w => binary_43 x y h0.1 h0.2 h1.1 h1.2 w) o (by have hb' : (b.length : Int) + 1 ≤ 256 := hb; omega) hB hG h hk
theorem do_43 : DoIs 43 := do_is 43 (by decide) (by decide) 177 (enters_of Tryz.func177 (by kernel_rfl) rfl) (OpCl 43) does_43 (op_keeps 43) act_43
theorem act_44 : ActIs 44 177 (OpCl 44) := by
  intro G i j q K D R M b x r m c o hd hr hm hR hn hx hb hl hlook hadd w hc h hk
  obtain ⟨x, y, rfl⟩ := len2 hx
  have h0 := hd x (by simp)
  have h1 := hd y (by simp)
  obtain ⟨B, rfl, hB, hG⟩ := hc
  exact two_act 44 x y (binF 44 x y) B (fun w => binary_44 x y h0.1 h0.2 h1.1 h1.2 w) o (by have hb' : (b.length : Int) + 1 ≤ 256 := hb; omega) hB hG h hk
theorem do_44 : DoIs 44 := do_is 44 (by decide) (by decide) 177 (enters_of Tryz.func177 (by kernel_rfl) rfl) (OpCl 44) does_44 (op_keeps 44) act_44
theorem act_45 : ActIs 45 177 (OpCl 45) := by
  intro G i j q K D R M b x r m c o hd hr hm hR hn hx hb hl hlook hadd w hc h hk
  obtain ⟨x, y, rfl⟩ := len2 hx
  have h0 := hd x (by simp)
  have h1 := hd y (by simp)
  obtain ⟨B, rfl, hB, hG⟩ := hc
  exact two_act 45 x y (binF 45 x y) B (fun w => binary_45 x y h0.1 h0.2 h1.1 h1.2 w) o (by have hb' : (b.length : Int) + 1 ≤ 256 := hb; omega) hB hG h hk
theorem do_45 : DoIs 45 := do_is 45 (by decide) (by decide) 177 (enters_of Tryz.func177 (by kernel_rfl) rfl) (OpCl 45) does_45 (op_keeps 45) act_45
theorem act_46 : ActIs 46 177 (OpCl 46) := by
  intro G i j q K D R M b x r m c o hd hr hm hR hn hx hb hl hlook hadd w hc h hk
  obtain ⟨x, y, rfl⟩ := len2 hx
  have h0 := hd x (by simp)
  have h1 := hd y (by simp)
  obtain ⟨B, rfl, hB, hG⟩ := hc
  exact two_act 46 x y (binF 46 x y) B (fun w => binary_46 x y h0.1 h0.2 h1.1 h1.2 w) o (by have hb' : (b.length : Int) + 1 ≤ 256 := hb; omega) hB hG h hk
theorem do_46 : DoIs 46 := do_is 46 (by decide) (by decide) 177 (enters_of Tryz.func177 (by kernel_rfl) rfl) (OpCl 46) does_46 (op_keeps 46) act_46
theorem act_47 : ActIs 47 177 (OpCl 47) := by
  intro G i j q K D R M b x r m c o hd hr hm hR hn hx hb hl hlook hadd w hc h hk
  obtain ⟨x, y, rfl⟩ := len2 hx
  have h0 := hd x (by simp)
  have h1 := hd y (by simp)
  obtain ⟨B, rfl, hB, hG⟩ := hc
  exact two_act 47 x y (binF 47 x y) B (fun w => binary_47 x y h0.1 h0.2 h1.1 h1.2 w) o (by have hb' : (b.length : Int) + 1 ≤ 256 := hb; omega) hB hG h hk
theorem do_47 : DoIs 47 := do_is 47 (by decide) (by decide) 177 (enters_of Tryz.func177 (by kernel_rfl) rfl) (OpCl 47) does_47 (op_keeps 47) act_47
theorem do_any (k : Nat) (hk : k < 64) (hpl : plainB k = true) : DoIs k := by
  match k, hk, hpl with
  | 0, _, hpl => exact absurd hpl (by decide)
  | 1, _, hpl => exact absurd hpl (by decide)
  | 2, _, hpl => exact absurd hpl (by decide)
  | 3, _, hpl => exact absurd hpl (by decide)
  | 4, _, hpl => exact absurd hpl (by decide)
  | 5, _, hpl => exact absurd hpl (by decide)
  | 6, _, _ => exact do_6
  | 7, _, hpl => exact absurd hpl (by decide)
  | 8, _, hpl => exact absurd hpl (by decide)
  | 9, _, _ => exact do_9
  | 10, _, hpl => exact absurd hpl (by decide)
  | 11, _, hpl => exact absurd hpl (by decide)
  | 12, _, _ => exact do_12
  | 13, _, _ => exact do_13
  | 14, _, _ => exact do_14
  | 15, _, _ => exact do_15
  | 16, _, _ => exact do_16
  | 17, _, _ => exact do_17
  | 18, _, _ => exact do_18
  | 19, _, _ => exact do_19
  | 20, _, _ => exact do_20
  | 21, _, _ => exact do_21
  | 22, _, _ => exact do_22
  | 23, _, _ => exact do_23
  | 24, _, _ => exact do_24
  | 25, _, _ => exact do_25
  | 26, _, _ => exact do_26
  | 27, _, _ => exact do_27
  | 28, _, _ => exact do_28
  | 29, _, _ => exact do_29
  | 30, _, _ => exact do_30
  | 31, _, _ => exact do_31
  | 32, _, _ => exact do_32
  | 33, _, _ => exact do_33
  | 34, _, _ => exact do_34
  | 35, _, _ => exact do_35
  | 36, _, _ => exact do_36
  | 37, _, _ => exact do_37
  | 38, _, _ => exact do_38
  | 39, _, _ => exact do_39
  | 40, _, _ => exact do_40
  | 41, _, _ => exact do_41
  | 42, _, _ => exact do_42
  | 43, _, _ => exact do_43
  | 44, _, _ => exact do_44
  | 45, _, _ => exact do_45
  | 46, _, _ => exact do_46
  | 47, _, _ => exact do_47
  | 48, _, _ => exact do_48
  | 49, _, _ => exact do_49
  | 50, _, _ => exact do_50
  | 51, _, _ => exact do_51
  | 52, _, _ => exact do_52
  | 53, _, _ => exact do_53
  | 54, _, _ => exact do_54
  | 55, _, _ => exact do_55
  | 56, _, _ => exact do_56
  | 57, _, _ => exact do_57
  | 58, _, _ => exact do_58
  | 59, _, _ => exact do_59
  | 60, _, _ => exact do_60
  | 61, _, _ => exact do_61
  | 62, _, _ => exact do_62
  | 63, _, _ => exact do_63
  | k + 64, hk, _ => exact absurd hk (by omega)
end Go.Proofs.YtdnalhjdmlkbmaaGreatDoor
namespace Go.Proofs.YtdnalhjdmlkbmaaGreatDoor
open Go.RowKit

theorem good_push {b : List Int} {r : List (Int × Int)} {m : MemS} {l : List Int} (hb : D16 b) (hl : D16 l) (hr : R16 r) (hrl : r.length ≤ 128) (hm : MemOk m) (hR : MemR m) (hn : b.length + l.length ≤ 256) : Good3 (b ++ l) r m :=
  ⟨hb.append hl, hr, by rw [List.length_append]; exact hn, hrl, hm, hR⟩
theorem R16.two {a b : Int} {x y : Int} (hx : 0 ≤ x ∧ x < 65536) (hy : 0 ≤ y ∧ y < 65536) : R16 [(a, x), (b, y)] := (R16.one (x := (a, x)) hx).append (R16.one (x := (b, y)) hy)
set_option maxRecDepth 100000 in
theorem act_good (k : Nat) (hk : k < 64) (b x : List Int) (r : List (Int × Int)) (m : MemS) (hb : D16 b) (hx : D16 x) (hr : R16 r) (hm : MemOk m) (hR : MemR m) (hxl : x.length = (takesN k).toNat) (hbl : (b.length : Int) + leavesN k ≤ 256) (hrl : r.length ≤ 128) (hadd : (r.length : Int) + addsF k ≤ 128) :
    Good3 (actF k b x r m).1 (actF k b x r m).2.1 (actF k b x r m).2.2 ∧ (actF k b x r m).2.2.tones.length ≤ m.tones.length + 3 := by
  have h0 := hx.getD 0
  have h1 := hx.getD 1
  have h2 := hx.getD 2
  match k, hk with
  | 0, _ => have hb' : (b.length : Int) + 0 ≤ 256 := hbl; exact ⟨⟨hb, hr, (show b.length ≤ 256 by omega), hrl, hm, hR⟩, Nat.le_add_right _ _⟩
  | 1, _ => have hb' : (b.length : Int) + 0 ≤ 256 := hbl; exact ⟨⟨hb, hr, (show b.length ≤ 256 by omega), hrl, hm, hR⟩, Nat.le_add_right _ _⟩
  | 2, _ => have hb' : (b.length : Int) + 1 ≤ 256 := hbl; exact ⟨⟨hb, hr, (show b.length ≤ 256 by omega), hrl, hm, hR⟩, Nat.le_add_right _ _⟩
  | 3, _ => have hb' : (b.length : Int) + 1 ≤ 256 := hbl; exact ⟨⟨hb, hr, (show b.length ≤ 256 by omega), hrl, hm, hR⟩, Nat.le_add_right _ _⟩
  | 4, _ => have hb' : (b.length : Int) + 0 ≤ 256 := hbl; exact ⟨⟨hb, hr, (show b.length ≤ 256 by omega), hrl, hm, hR⟩, Nat.le_add_right _ _⟩
  | 5, _ => have hb' : (b.length : Int) + 0 ≤ 256 := hbl; exact ⟨⟨hb, hr, (show b.length ≤ 256 by omega), hrl, hm, hR⟩, Nat.le_add_right _ _⟩
  | 6, _ => have ha' : (r.length : Int) + 2 ≤ 128 := hadd; have hb' : (b.length : Int) + 0 ≤ 256 := hbl; exact ⟨⟨hb, hr.append (R16.two h0 h1), (show b.length ≤ 256 by omega), (show (r ++ [((2 : Int), x.getD 0 0), (3, x.getD 1 0)]).length ≤ 128 by simp; omega), hm, hR⟩, Nat.le_add_right _ _⟩
  | 7, _ => have hb' : (b.length : Int) + 0 ≤ 256 := hbl; exact ⟨⟨hb, hr, (show b.length ≤ 256 by omega), hrl, hm, hR⟩, Nat.le_add_right _ _⟩
  | 8, _ => have hb' : (b.length : Int) + 0 ≤ 256 := hbl; exact ⟨⟨hb, hr, (show b.length ≤ 256 by omega), hrl, hm, hR⟩, Nat.le_add_right _ _⟩
  | 9, _ => have hb' : (b.length : Int) + 0 ≤ 256 := hbl; exact ⟨⟨hb, hr, (show b.length ≤ 256 by omega), hrl, hm, hR⟩, Nat.le_add_right _ _⟩
  | 10, _ => have hb' : (b.length : Int) + 0 ≤ 256 := hbl; exact ⟨⟨hb, hr, (show b.length ≤ 256 by omega), hrl, hm, hR⟩, Nat.le_add_right _ _⟩
  | 11, _ => have hb' : (b.length : Int) + 0 ≤ 256 := hbl; exact ⟨⟨hb, hr, (show b.length ≤ 256 by omega), hrl, hm, hR⟩, Nat.le_add_right _ _⟩
  | 12, _ => have hb' : (b.length : Int) + 2 ≤ 256 := hbl; exact ⟨good_push hb (picks_rng hx _) hr hrl hm hR (by simp [picks, shufP]; omega), Nat.le_add_right _ _⟩
  | 13, _ => have hb' : (b.length : Int) + 0 ≤ 256 := hbl; exact ⟨good_push hb (picks_rng hx _) hr hrl hm hR (by simp [picks, shufP]; omega), Nat.le_add_right _ _⟩
  | 14, _ => have hb' : (b.length : Int) + 2 ≤ 256 := hbl; exact ⟨good_push hb (picks_rng hx _) hr hrl hm hR (by simp [picks, shufP]; omega), Nat.le_add_right _ _⟩
  | 15, _ => have hb' : (b.length : Int) + 3 ≤ 256 := hbl; exact ⟨good_push hb (picks_rng hx _) hr hrl hm hR (by simp [picks, shufP]; omega), Nat.le_add_right _ _⟩
  | 16, _ => have hb' : (b.length : Int) + 3 ≤ 256 := hbl; exact ⟨good_push hb (picks_rng hx _) hr hrl hm hR (by simp [picks, shufP]; omega), Nat.le_add_right _ _⟩
  | 17, _ => have hb' : (b.length : Int) + 1 ≤ 256 := hbl; exact ⟨good_push hb (picks_rng hx _) hr hrl hm hR (by simp [picks, shufP]; omega), Nat.le_add_right _ _⟩
  | 18, _ => have hb' : (b.length : Int) + 3 ≤ 256 := hbl; exact ⟨good_push hb (picks_rng hx _) hr hrl hm hR (by simp [picks, shufP]; omega), Nat.le_add_right _ _⟩
  | 19, _ => have hb' : (b.length : Int) + 4 ≤ 256 := hbl; exact ⟨good_push hb (picks_rng hx _) hr hrl hm hR (by simp [picks, shufP]; omega), Nat.le_add_right _ _⟩
  | 20, _ => have hb' : (b.length : Int) + 0 ≤ 256 := hbl; exact ⟨good_push hb (picks_rng hx _) hr hrl hm hR (by simp [picks, shufP]; omega), Nat.le_add_right _ _⟩
  | 21, _ => have hb' : (b.length : Int) + 1 ≤ 256 := hbl; exact ⟨good_push hb (D16.one (binF_rng 21 _ _ h0.1 h0.2 h1.1 h1.2)) hr hrl hm hR (by simp; omega), Nat.le_add_right _ _⟩
  | 22, _ => have hb' : (b.length : Int) + 1 ≤ 256 := hbl; exact ⟨good_push hb (D16.one (binF_rng 22 _ _ h0.1 h0.2 h1.1 h1.2)) hr hrl hm hR (by simp; omega), Nat.le_add_right _ _⟩
  | 23, _ => have hb' : (b.length : Int) + 1 ≤ 256 := hbl; exact ⟨good_push hb (D16.one (binF_rng 23 _ _ h0.1 h0.2 h1.1 h1.2)) hr hrl hm hR (by simp; omega), Nat.le_add_right _ _⟩
  | 24, _ => have hb' : (b.length : Int) + 1 ≤ 256 := hbl; exact ⟨good_push hb (D16.one (binF_rng 24 _ _ h0.1 h0.2 h1.1 h1.2)) hr hrl hm hR (by simp; omega), Nat.le_add_right _ _⟩
  | 25, _ => have hb' : (b.length : Int) + 1 ≤ 256 := hbl; exact ⟨good_push hb (D16.one (binF_rng 25 _ _ h0.1 h0.2 h1.1 h1.2)) hr hrl hm hR (by simp; omega), Nat.le_add_right _ _⟩
  | 26, _ => have hb' : (b.length : Int) + 1 ≤ 256 := hbl; exact ⟨good_push hb (D16.one (binF_rng 26 _ _ h0.1 h0.2 h1.1 h1.2)) hr hrl hm hR (by simp; omega), Nat.le_add_right _ _⟩
  | 27, _ => have hb' : (b.length : Int) + 1 ≤ 256 := hbl; exact ⟨good_push hb (D16.one (binF_rng 27 _ _ h0.1 h0.2 h1.1 h1.2)) hr hrl hm hR (by simp; omega), Nat.le_add_right _ _⟩
  | 28, _ => have hb' : (b.length : Int) + 1 ≤ 256 := hbl; exact ⟨good_push hb (D16.one (unF_rng 28 _ h0.1 h0.2)) hr hrl hm hR (by simp; omega), Nat.le_add_right _ _⟩
  | 29, _ => have hb' : (b.length : Int) + 1 ≤ 256 := hbl; exact ⟨good_push hb (D16.one (unF_rng 29 _ h0.1 h0.2)) hr hrl hm hR (by simp; omega), Nat.le_add_right _ _⟩
  | 30, _ => have hb' : (b.length : Int) + 1 ≤ 256 := hbl; exact ⟨good_push hb (D16.one (binF_rng 30 _ _ h0.1 h0.2 h1.1 h1.2)) hr hrl hm hR (by simp; omega), Nat.le_add_right _ _⟩
  | 31, _ => have hb' : (b.length : Int) + 1 ≤ 256 := hbl; exact ⟨good_push hb (D16.one (binF_rng 31 _ _ h0.1 h0.2 h1.1 h1.2)) hr hrl hm hR (by simp; omega), Nat.le_add_right _ _⟩
  | 32, _ => have hb' : (b.length : Int) + 1 ≤ 256 := hbl; exact ⟨good_push hb (D16.one (unF_rng 32 _ h0.1 h0.2)) hr hrl hm hR (by simp; omega), Nat.le_add_right _ _⟩
  | 33, _ => have hb' : (b.length : Int) + 1 ≤ 256 := hbl; exact ⟨good_push hb (D16.one (unF_rng 33 _ h0.1 h0.2)) hr hrl hm hR (by simp; omega), Nat.le_add_right _ _⟩
  | 34, _ => have hb' : (b.length : Int) + 1 ≤ 256 := hbl; exact ⟨good_push hb (D16.one (unF_rng 34 _ h0.1 h0.2)) hr hrl hm hR (by simp; omega), Nat.le_add_right _ _⟩
  | 35, _ => have hb' : (b.length : Int) + 1 ≤ 256 := hbl; exact ⟨good_push hb (D16.one (unF_rng 35 _ h0.1 h0.2)) hr hrl hm hR (by simp; omega), Nat.le_add_right _ _⟩
  | 36, _ => have hb' : (b.length : Int) + 1 ≤ 256 := hbl; exact ⟨good_push hb (D16.one (binF_rng 36 _ _ h0.1 h0.2 h1.1 h1.2)) hr hrl hm hR (by simp; omega), Nat.le_add_right _ _⟩
  | 37, _ => have hb' : (b.length : Int) + 1 ≤ 256 := hbl; exact ⟨good_push hb (D16.one (binF_rng 37 _ _ h0.1 h0.2 h1.1 h1.2)) hr hrl hm hR (by simp; omega), Nat.le_add_right _ _⟩
  | 38, _ => have hb' : (b.length : Int) + 1 ≤ 256 := hbl; exact ⟨good_push hb (D16.one (binF_rng 38 _ _ h0.1 h0.2 h1.1 h1.2)) hr hrl hm hR (by simp; omega), Nat.le_add_right _ _⟩
  | 39, _ => have hb' : (b.length : Int) + 1 ≤ 256 := hbl; exact ⟨good_push hb (D16.one (unF_rng 39 _ h0.1 h0.2)) hr hrl hm hR (by simp; omega), Nat.le_add_right _ _⟩
  | 40, _ => have hb' : (b.length : Int) + 1 ≤ 256 := hbl; exact ⟨good_push hb (D16.one (binF_rng 40 _ _ h0.1 h0.2 h1.1 h1.2)) hr hrl hm hR (by simp; omega), Nat.le_add_right _ _⟩
  | 41, _ => have hb' : (b.length : Int) + 1 ≤ 256 := hbl; exact ⟨good_push hb (D16.one (binF_rng 41 _ _ h0.1 h0.2 h1.1 h1.2)) hr hrl hm hR (by simp; omega), Nat.le_add_right _ _⟩
  | 42, _ => have hb' : (b.length : Int) + 1 ≤ 256 := hbl; exact ⟨good_push hb (D16.one (binF_rng 42 _ _ h0.1 h0.2 h1.1 h1.2)) hr hrl hm hR (by simp; omega), Nat.le_add_right _ _⟩
  | 43, _ => have hb' : (b.length : Int) + 1 ≤ 256 := hbl; exact ⟨good_push hb (D16.one (binF_rng 43 _ _ h0.1 h0.2 h1.1 h1.2)) hr hrl hm hR (by simp; omega), Nat.le_add_right _ _⟩
  | 44, _ => have hb' : (b.length : Int) + 1 ≤ 256 := hbl; exact ⟨good_push hb (D16.one (binF_rng 44 _ _ h0.1 h0.2 h1.1 h1.2)) hr hrl hm hR (by simp; omega), Nat.le_add_right _ _⟩
  | 45, _ => have hb' : (b.length : Int) + 1 ≤ 256 := hbl; exact ⟨good_push hb (D16.one (binF_rng 45 _ _ h0.1 h0.2 h1.1 h1.2)) hr hrl hm hR (by simp; omega), Nat.le_add_right _ _⟩
  | 46, _ => have hb' : (b.length : Int) + 1 ≤ 256 := hbl; exact ⟨good_push hb (D16.one (binF_rng 46 _ _ h0.1 h0.2 h1.1 h1.2)) hr hrl hm hR (by simp; omega), Nat.le_add_right _ _⟩
  | 47, _ => have hb' : (b.length : Int) + 1 ≤ 256 := hbl; exact ⟨good_push hb (D16.one (binF_rng 47 _ _ h0.1 h0.2 h1.1 h1.2)) hr hrl hm hR (by simp; omega), Nat.le_add_right _ _⟩
  | 48, _ => have hb' : (b.length : Int) + 1 ≤ 256 := hbl; exact ⟨good_push hb (D16.one (unF_rng 48 _ h0.1 h0.2)) hr hrl hm hR (by simp; omega), Nat.le_add_right _ _⟩
  | 49, _ => have hb' : (b.length : Int) + 1 ≤ 256 := hbl; exact ⟨good_push hb (D16.one (unF_rng 49 _ h0.1 h0.2)) hr hrl hm hR (by simp; omega), Nat.le_add_right _ _⟩
  | 50, _ => have hb' : (b.length : Int) + 1 ≤ 256 := hbl; exact ⟨good_push hb (D16.one (cellF_rng m _)) hr hrl hm hR (by simp; omega), Nat.le_add_right _ _⟩
  | 51, _ => have hb' : (b.length : Int) + 0 ≤ 256 := hbl; exact ⟨⟨hb, hr, (show b.length ≤ 256 by omega), hrl, setCellF_ok hm _ _, setCellF_rng hR _ _⟩, (Nat.le_trans (setCellF_tones _ _ _) (by omega))⟩
  | 52, _ => have hb' : (b.length : Int) + 1 ≤ 256 := hbl; exact ⟨good_push hb (D16.one (⟨(loadF_rng hR _).1, by have := (loadF_rng hR (x.getD 0 0)).2; omega⟩)) hr hrl hm hR (by simp; omega), Nat.le_add_right _ _⟩
  | 53, _ => have hb' : (b.length : Int) + 0 ≤ 256 := hbl; exact ⟨⟨hb, hr, (show b.length ≤ 256 by omega), hrl, storeF_ok _ hm _ _, storeF_rng hR _ (byte_rng _)⟩, (Nat.le_trans (storeF_tones _ _ _) (by omega))⟩
  | 54, _ => have hb' : (b.length : Int) + 0 ≤ 256 := hbl; exact ⟨⟨hb, hr, (show b.length ≤ 256 by omega), hrl, setCellF_ok hm _ _, setCellF_rng hR _ _⟩, (Nat.le_trans (setCellF_tones _ _ _) (by omega))⟩
  | 55, _ => have ha' : (r.length : Int) + 1 ≤ 128 := hadd; have hb' : (b.length : Int) + 0 ≤ 256 := hbl; exact ⟨⟨hb, hr.append (R16.one h0), (show b.length ≤ 256 by omega), (show (r ++ [((4 : Int), x.getD 0 0)]).length ≤ 128 by simp; omega), hm, hR⟩, Nat.le_add_right _ _⟩
  | 56, _ => have hb' : (b.length : Int) + 1 ≤ 256 := hbl; exact ⟨good_push hb (D16.one (atV_rng hr 0 4)) hr.init (show r.dropLast.length ≤ 128 by rw [List.length_dropLast]; omega) hm hR (by simp; omega), Nat.le_add_right _ _⟩
  | 57, _ => have hb' : (b.length : Int) + 1 ≤ 256 := hbl; exact ⟨good_push hb (D16.one (atV_rng hr 0 4)) hr hrl hm hR (by simp; omega), Nat.le_add_right _ _⟩
  | 58, _ => have hb' : (b.length : Int) + 1 ≤ 256 := hbl; exact ⟨good_push hb (D16.one (atV_rng hr 0 3)) hr hrl hm hR (by simp; omega), Nat.le_add_right _ _⟩
  | 59, _ => have hb' : (b.length : Int) + 1 ≤ 256 := hbl; exact ⟨good_push hb (D16.one (atV_rng hr 2 3)) hr hrl hm hR (by simp; omega), Nat.le_add_right _ _⟩
  | 60, _ => have hb' : (b.length : Int) + 0 ≤ 256 := hbl; exact ⟨⟨hb, hr, (show b.length ≤ 256 by omega), hrl, plotF_ok hm _ _ _, plotF_rng hR _ _ _⟩, (Nat.le_trans (plotF_tones _ _ _ _) (by omega))⟩
  | 61, _ => have hb' : (b.length : Int) + 1 ≤ 256 := hbl; exact ⟨good_push hb (D16.one (⟨hR.pad.1, by have := hR.pad.2; omega⟩)) hr hrl hm hR (by simp; omega), Nat.le_add_right _ _⟩
  | 62, _ => have hb' : (b.length : Int) + 0 ≤ 256 := hbl; exact ⟨⟨hb, hr, (show b.length ≤ 256 by omega), hrl, playF_ok hm _ _, playF_rng hR _ (byte_rng _)⟩, (playF_tones _ _ _)⟩
  | 63, _ => have hb' : (b.length : Int) + 0 ≤ 256 := hbl; exact ⟨⟨hb, hr, (show b.length ≤ 256 by omega), hrl, storeF_ok _ hm 65280 (x.getD 0 0 % 256), storeF_rng hR 65280 (byte_rng (x.getD 0 0))⟩, (Nat.le_trans (storeF_tones m 65280 (x.getD 0 0 % 256)) (by omega))⟩
  | k + 64, hk => exact absurd hk (by omega)
theorem doF_good (k : Nat) (hk : k < 64) {d : List Int} {r : List (Int × Int)} {m : MemS} (h : Good3 d r m) : Good3 (doF k d r m).1 (doF k d r m).2.1 (doF k d r m).2.2 ∧ (doF k d r m).2.2.tones.length ≤ m.tones.length + 3 := by
  by_cases hf : faultF k d r = 0
  · have e : doF k d r m = actF k (d.take (d.length - (takesN k).toNat)) (d.drop (d.length - (takesN k).toNat)) r m := by unfold doF; rw [if_neg (by simpa using hf)]
    rw [e]
    by_cases h1 : needF d.length (takesN k) (leavesN k) = 0
    · have hl := takes_len hk h1
      have h3 : ¬ 128 < (r.length : Int) + addsF k := by
        intro h3
        unfold faultF at hf
        rw [if_neg (by simpa using h1)] at hf
        by_cases h2 : looksF k r = 0
        · rw [if_neg (by simpa using h2), if_pos h3] at hf; exact absurd hf (by decide)
        · rw [if_pos h2] at hf; exact h2 hf
      exact act_good k hk _ _ r m (h.d16.take _) (h.d16.drop _) h.r16 h.mo h.mr hl.1 hl.2 h.rl (by omega)
    · unfold faultF at hf
      rw [if_pos h1] at hf; exact absurd hf h1
  · have e : doF k d r m = (d, r, m) := by unfold doF; rw [if_pos hf]
    rw [e]; exact ⟨h, by simp⟩
/-- Do, told by what it comes to. -/
theorem do_at (k : Nat) (hk : k < 64) (hpl : plainB k = true) {G : Nat → Nat} {i j q D R M : Nat} {d d' : List Int} {r r' : List (Int × Int)} {m m' : MemS} (o : Own3 i j q) (hg : Good3 d r m) (hn : m.tones.length ≤ 99999) {w : World} (ht : Tabs w G) (h : Trio w G i j q D R M d r m)
    (hf : faultF k d r = 0) (he : doF k d r m = (d', r', m')) :
    Calls Tryz.prog 23 #[.int .i64 k, .pointer (some ⟨D, 0, none⟩), .pointer (some ⟨R, 0, none⟩), .pointer (some ⟨M, 0, none⟩)] w (Left3 i j q D R M w G d' r' m' (.int .i64 0)) := by
  have h1 := do_any k hk hpl G i j q D R M d r m o hg hn w ht h
  rw [hf, he] at h1
  exact h1
end Go.Proofs.YtdnalhjdmlkbmaaGreatDoor
namespace Go.Proofs.YtdnalhjdmlkbmaaGreatDoor
open Go.RowKit

theorem bits_hi (p : Nat) (h : p < 65536) : bits BinOp.and .u16 (p : Int) 65280 = ((p / 256 * 256 : Nat) : Int) := by
  show IntKind.wrap .u16 ((BitVec.ofInt 16 (p : Int) &&& BitVec.ofInt 16 ((65280 : Nat) : Int)).toNat : Nat) = _
  rw [BitVec.toNat_and, ofInt16 _ h, ofInt16 65280 (by omega)]
  have e : p &&& 65280 = p / 256 * 256 := by
    apply Nat.eq_of_testBit_eq
    intro j
    rw [Nat.testBit_and, show (65280 : Nat) = (2 ^ 8 - 1) * 2 ^ 8 from rfl, show (256 : Nat) = 2 ^ 8 from rfl, Nat.testBit_mul_two_pow, Nat.testBit_mul_two_pow, Nat.testBit_two_pow_sub_one, Nat.testBit_div_two_pow]
    by_cases h8 : 8 ≤ j
    · by_cases h16 : j < 16
      · simp [h8, show j - 8 < 8 from by omega]
      · have hz : p.testBit j = false := Nat.testBit_lt_two_pow (Nat.lt_of_lt_of_le h (Nat.pow_le_pow_right (n := 2) (by decide) (show 16 ≤ j by omega)))
        simp [show j - 8 + 8 = j from by omega, h8, hz]
    · simp [h8]
  rw [e]
  exact wrap_u16_id _ (by omega) (by omega)
theorem bits_lo (p : Nat) (h : p < 65536) : bits BinOp.and .u16 (p : Int) 255 = ((p % 256 : Nat) : Int) := by
  show IntKind.wrap .u16 ((BitVec.ofInt 16 (p : Int) &&& BitVec.ofInt 16 ((255 : Nat) : Int)).toNat : Nat) = _
  rw [BitVec.toNat_and, ofInt16 _ h, ofInt16 255 (by omega), show (255 : Nat) = 2 ^ 8 - 1 from rfl, Nat.and_two_pow_sub_one_eq_mod]
  exact wrap_u16_id _ (by omega) (by omega)
theorem bits_or_comm (x y : Int) : bits BinOp.or .u16 x y = bits BinOp.or .u16 y x := by
  show IntKind.wrap .u16 ((BitVec.ofInt 16 x ||| BitVec.ofInt 16 y).toNat : Nat) = IntKind.wrap .u16 ((BitVec.ofInt 16 y ||| BitVec.ofInt 16 x).toNat : Nat)
  rw [BitVec.or_comm]
/-- The low byte of the pitch, the high one. -/
theorem pitch_lo (p x : Int) (p0 : 0 ≤ p) (p1 : p < 65536) (x0 : 0 ≤ x) (x1 : x < 256) : bits BinOp.or .u16 (bits BinOp.and .u16 p 65280) (IntKind.wrap .u16 x) = p / 256 * 256 + x := by
  obtain ⟨n, rfl⟩ : ∃ n : Nat, p = n := ⟨p.toNat, by omega⟩
  obtain ⟨k, rfl⟩ : ∃ k : Nat, x = k := ⟨x.toNat, by omega⟩
  rw [bits_hi n (by omega), wrap_u16_id _ (by omega) (by omega), bits_or_comm, show ((n / 256 * 256 : Nat) : Int) = ((n / 256 : Nat) : Int) * 256 from by omega, bits_or_nat k (n / 256) (by omega) (by omega)]
  omega
theorem pitch_hi (p x : Int) (p0 : 0 ≤ p) (p1 : p < 65536) (x0 : 0 ≤ x) (x1 : x < 256) : bits BinOp.or .u16 (bits BinOp.and .u16 p 255) (IntKind.wrap .u16 (IntKind.wrap .u16 x * 256)) = x * 256 + p % 256 := by
  obtain ⟨n, rfl⟩ : ∃ n : Nat, p = n := ⟨p.toNat, by omega⟩
  obtain ⟨k, rfl⟩ : ∃ k : Nat, x = k := ⟨x.toNat, by omega⟩
  rw [bits_lo n (by omega), wrap_u16_id (k : Int) (by omega) (by omega), wrap_u16_id _ (by omega) (by omega), bits_or_nat (n % 256) k (by omega) (by omega)]
  omega
theorem nextA_eq (a : Int) (h0 : 0 ≤ a) (h : a < 65535) : nextA a = a + 1 := by unfold nextA; exact wrap_u16_id _ (by omega) (by omega)
theorem store_ram_eq (m : MemS) (k : Nat) (h : k < 16384) (x : Int) : storeF m (32768 + (k : Int)) x = { m with ram := m.ram.set k x } := by
  unfold storeF
  rw [if_neg (by omega), if_neg (by omega), if_pos (by omega), show (32768 + (k : Int) - 32768).toNat = k from by omega]
theorem load_ram_eq (m : MemS) (k : Nat) (h : k < 16384) : loadF m (32768 + (k : Int)) = m.ram.getD k 0 := by
  unfold loadF
  rw [if_neg (by omega), if_neg (by omega), if_pos (by omega), show (32768 + (k : Int) - 32768).toNat = k from by omega]
/-- What is stored as a cell is read again. -/
theorem cell_set (m : MemS) (hm : MemOk m) (a v : Int) (a0 : 32768 ≤ a) (a1 : a < 49151) (v0 : 0 ≤ v) (v1 : v < 65536) : cellF (setCellF m a v) a = v ∧ (setCellF m a v).tones = m.tones ∧ (setCellF m a v).cycle = m.cycle ∧ (setCellF m a v).pitch = m.pitch := by
  obtain ⟨k, rfl⟩ : ∃ k : Nat, a = 32768 + (k : Int) := ⟨(a - 32768).toNat, by omega⟩
  have hk : k + 1 < 16384 := by omega
  have hl := hm.ram
  have e : setCellF m (32768 + (k : Int)) v = { m with ram := (m.ram.set k (v % 256)).set (k + 1) (v / 256 % 256) } := by
    unfold setCellF
    rw [nextA_eq _ (by omega) (by omega), store_ram_eq m k (by omega), show (32768 + (k : Int) + 1) = 32768 + ((k + 1 : Nat) : Int) from by omega, store_ram_eq _ (k + 1) (by omega)]
  rw [e]
  refine ⟨?_, rfl, rfl, rfl⟩
  rw [cellF_pair, nextA_eq _ (by omega) (by omega), load_ram_eq _ k (by omega), show (32768 + (k : Int) + 1) = 32768 + ((k + 1 : Nat) : Int) from by omega, load_ram_eq _ (k + 1) (by omega)]
  have g1 : ((m.ram.set k (v % 256)).set (k + 1) (v / 256 % 256)).getD k 0 = v % 256 := by
    rw [List.getD_eq_getElem?_getD, List.getElem?_set_ne (by omega), List.getElem?_set_self (by omega)]; rfl
  have g2 : ((m.ram.set k (v % 256)).set (k + 1) (v / 256 % 256)).getD (k + 1) 0 = v / 256 % 256 := by
    rw [List.getD_eq_getElem?_getD, List.getElem?_set_self (by simp; omega)]; rfl
  show pairF (((m.ram.set k (v % 256)).set (k + 1) (v / 256 % 256)).getD k 0) (((m.ram.set k (v % 256)).set (k + 1) (v / 256 % 256)).getD (k + 1) 0) = v
  rw [g1, g2, pairF_eq _ _ (by omega) (by omega) (by omega) (by omega)]
  omega
/-- A pixel is plotted where it is read. -/
theorem plot_read (m : MemS) (hm : MemOk m) (x y c : Int) (x0 : 0 ≤ x) (x1 : x < 64) (y0 : 0 ≤ y) (y1 : y < 48) : loadF (plotF m x y c) (49152 + 64 * y + x) = c % 256 ∧ (plotF m x y c).tones = m.tones ∧ (plotF m x y c).cycle = m.cycle ∧ (plotF m x y c).pitch = m.pitch := by
  obtain ⟨k, hk⟩ : ∃ k : Nat, 64 * y + x = k := ⟨(64 * y + x).toNat, by omega⟩
  have hk2 : k < 3072 := by omega
  have ea : 49152 + 64 * y + x = 49152 + (k : Int) := by omega
  have hl := hm.screen
  have e : plotF m x y c = { m with screen := m.screen.set k (c % 256) } := by
    unfold plotF
    rw [if_pos ⟨x1, y1⟩, ea]
    unfold storeF
    rw [if_neg (by omega), if_neg (by omega), if_neg (by omega), if_pos (by omega), show (49152 + (k : Int) - 49152).toNat = k from by omega]
  rw [e]
  refine ⟨?_, rfl, rfl, rfl⟩
  rw [ea]
  unfold loadF
  rw [if_neg (by omega), if_neg (by omega), if_neg (by omega), if_pos (by omega), show (49152 + (k : Int) - 49152).toNat = k from by omega]
  show (m.screen.set k (c % 256)).getD k 0 = c % 256
  rw [List.getD_eq_getElem?_getD, List.getElem?_set_self (by omega)]; rfl
/-- A tone is heard as it was played. -/
theorem play_tones (m : MemS) (hm : MemR m) (p v : Int) (p0 : 0 ≤ p) (p1 : p < 65536) : (playF m p v).tones = m.tones ++ [(m.cycle, p, v)] := by
  unfold playF
  rw [nextA_eq _ (by decide) (by decide)]
  have e1 : storeF m 65284 (p % 256) = { m with pitch := m.pitch / 256 * 256 + p % 256 } := by
    rw [← pitch_lo m.pitch (p % 256) hm.pitch.1 hm.pitch.2 (by omega) (by omega)]; rfl
  have hq := hm.pitch
  have e2 : storeF { m with pitch := m.pitch / 256 * 256 + p % 256 } (65284 + 1) (p / 256 % 256) = { m with pitch := p } := by
    have h := pitch_hi (m.pitch / 256 * 256 + p % 256) (p / 256 % 256) (by omega) (by omega) (by omega) (by omega)
    have h2 : p / 256 % 256 * 256 + (m.pitch / 256 * 256 + p % 256) % 256 = p := by omega
    rw [h2] at h
    show ({ m with pitch := bits BinOp.or .u16 (bits BinOp.and .u16 (m.pitch / 256 * 256 + p % 256) 255) (IntKind.wrap .u16 (IntKind.wrap .u16 (p / 256 % 256) * 256)) } : MemS) = _
    rw [h]
  rw [e1, e2]; rfl
end Go.Proofs.YtdnalhjdmlkbmaaGreatDoor
namespace Go.Proofs.YtdnalhjdmlkbmaaGreatDoor
open Go.RowKit

/-- Where a machine stands. -/
structure VmS where
  pc : Int
  st : Int
  ft : Int
  d : List Int
  r : List (Int × Int)
  m : MemS
/-- The cell at an address of the code. -/
def codeB (code : List Int) (a : Int) : Bool := !(a % 2 == 1) && decide (a + 1 < code.length)
def codeV (code : List Int) (a : Int) : Int := if codeB code a = true then pairF (code.getD a.toNat 0) (code.getD (a.toNat + 1) 0) else 0
theorem codeV_rng (code : List Int) (a : Int) : 0 ≤ codeV code a ∧ codeV code a < 65536 := by
  unfold codeV; split
  · exact pairF_rng _ _
  · exact ⟨Int.le_refl _, by decide⟩
/-- Look: the primitive (0: none), its operand, the fault. -/
def lookOp (code : List Int) (s : VmS) : Nat := (codeV code (codeV code s.pc)).toNat
def lookX (code : List Int) (s : VmS) : Int :=
  if operandB (lookOp code s) = true then codeV code ((s.pc + 2) % 65536)
  else if lookOp code s = 2 then codeV code ((codeV code s.pc + 2) % 65536) else if lookOp code s = 1 then (codeV code s.pc + 2) % 65536 else 0
def lookOk (code : List Int) (s : VmS) : Bool :=
  if operandB (lookOp code s) = true then codeB code ((s.pc + 2) % 65536)
  else if lookOp code s = 2 then codeB code ((codeV code s.pc + 2) % 65536) else true
/-- The fault that Look tells of a machine that runs. -/
def lookE (code : List Int) (s : VmS) : Int :=
  if codeB code s.pc = false then 7 else if codeB code (codeV code s.pc) = false then 7 else if lookOp code s < 1 ∨ 64 ≤ lookOp code s then 6 else if lookOk code s = false then 7 else 0
/-- loops: does the loop go on; the fault; the return stack behind it. -/
def loopE (r : List (Int × Int)) : Int := if atE r 0 3 ≠ 0 then atE r 0 3 else atE r 1 2
def loopOn (r : List (Int × Int)) : Bool := (atV r 0 3 + 1) % 65536 != atV r 1 2
def loopR (r : List (Int × Int)) : List (Int × Int) := if loopOn r = true then r.dropLast ++ [(3, (atV r 0 3 + 1) % 65536)] else r.dropLast.dropLast
/-- Where the next instruction stands. -/
def nextF (k : Nat) (s : VmS) : Int := if operandB k = true then (s.pc + 2 + 2) % 65536 else (s.pc + 2) % 65536
/-- The fault of an instruction that was looked at. -/
def doesE (k : Nat) (s : VmS) : Int :=
  if needF s.d.length (takesN k) (leavesN k) ≠ 0 then needF s.d.length (takesN k) (leavesN k)
  else match k with
  | 1 => if s.r.length + 1 ≤ 128 then 0 else 4
  | 7 => loopE s.r
  | 8 => if s.r.length = 0 then 0 else atE s.r 0 1
  | 2 | 3 | 4 | 5 | 10 | 11 => 0
  | k => if plainB k = true then faultF k s.d s.r else 6
/-- What it does, where there is none. -/
def doesS (k : Nat) (x : Int) (s : VmS) : VmS :=
  match k with
  | 1 => { s with r := s.r ++ [(1, nextF 1 s)], pc := x }
  | 2 => { s with d := s.d ++ [x], pc := nextF 2 s }
  | 3 => { s with d := s.d ++ [x], pc := nextF 3 s }
  | 4 => { s with pc := x }
  | 5 => { s with d := s.d.dropLast, pc := if s.d.getD (s.d.length - 1) 0 ≠ 0 then nextF 5 s else x }
  | 7 => { s with r := loopR s.r, pc := if loopOn s.r = true then x else nextF 7 s }
  | 8 => if s.r.length = 0 then { s with st := 2, pc := nextF 8 s } else { s with r := s.r.dropLast, pc := atV s.r 0 1 }
  | 10 => { s with pc := nextF 10 s }
  | 11 => { s with st := 2, pc := nextF 11 s }
  | k => { s with d := (doF k s.d s.r s.m).1, r := (doF k s.d s.r s.m).2.1, m := (doF k s.d s.r s.m).2.2, pc := nextF k s }
/-- The fault of the next step of a machine that runs; the machine behind the step; was it yield? -/
def stepE (code : List Int) (s : VmS) : Int := if lookE code s ≠ 0 then lookE code s else doesE (lookOp code s) s
def stepS (code : List Int) (s : VmS) : VmS := if stepE code s ≠ 0 then { s with st := 3, ft := stepE code s } else doesS (lookOp code s) (lookX code s) s
def stepY (code : List Int) (s : VmS) : Bool := stepE code s == 0 && lookOp code s == 10
def costOf (code : List Int) (s : VmS) : Int := if lookE code s = 0 then costsN (lookOp code s) else 0
/-- Begin, At. -/
def beginF (m : MemS) (pad : Int) : MemS := { m with pad := pad, time := (m.time + 1) % 65536, cycle := 0, tones := [] }
def atF (m : MemS) (n : Int) : MemS := { m with cycle := n }
/-- A machine that may be: what New and Restore make, and what steps leave. -/
structure VmOk (code : List Int) (s : VmS) : Prop where
  gd : Good3 s.d s.r s.m
  pc0 : 0 ≤ s.pc
  pc1 : s.pc < 65536
  cb : B8 code
  cl : code.length ≤ 16384
theorem mod16 (n : Int) : 0 ≤ n % 65536 ∧ n % 65536 < 65536 := by omega
theorem nextF_rng (k : Nat) (s : VmS) : 0 ≤ nextF k s ∧ nextF k s < 65536 := by unfold nextF; split <;> omega
theorem lookX_rng (code : List Int) (s : VmS) : 0 ≤ lookX code s ∧ lookX code s < 65536 := by
  unfold lookX
  repeat' split
  all_goals first | exact codeV_rng _ _ | omega
theorem look_op (code : List Int) (s : VmS) (h : lookE code s = 0) : codeB code s.pc = true ∧ codeB code (codeV code s.pc) = true ∧ 1 ≤ lookOp code s ∧ lookOp code s < 64 ∧ lookOk code s = true := by
  unfold lookE at h
  split at h
  · exact absurd h (by decide)
  · split at h
    · exact absurd h (by decide)
    · split at h
      · exact absurd h (by decide)
      · split at h
        · exact absurd h (by decide)
        · rename_i h1 h2 h3 h4
          exact ⟨by simpa using h1, by simpa using h2, by omega, by omega, by simpa using h4⟩
theorem beginF_ok {m : MemS} (h : MemOk m) (p : Int) : MemOk (beginF m p) := ⟨h.ram, h.screen, h.banks⟩
theorem beginF_rng {m : MemS} (h : MemR m) {p : Int} (hp : 0 ≤ p ∧ p < 256) : MemR (beginF m p) := ⟨h.banks, h.ram, h.screen, h.chosen, hp, h.volume, h.pitch, mod16 _⟩
theorem atF_ok {m : MemS} (h : MemOk m) (p : Int) : MemOk (atF m p) := ⟨h.ram, h.screen, h.banks⟩
theorem atF_rng {m : MemS} (h : MemR m) (p : Int) : MemR (atF m p) := ⟨h.banks, h.ram, h.screen, h.chosen, h.pad, h.volume, h.pitch, h.time⟩
theorem atE_len {r : List (Int × Int)} {n : Nat} {kind : Int} (h : atE r n kind = 0) : n < r.length := by
  apply Nat.lt_of_not_le
  intro hn
  rw [(at_out (.inr (by omega))).2] at h
  exact absurd h (by decide)
theorem loopE_len {r : List (Int × Int)} (h : loopE r = 0) : atE r 0 3 = 0 ∧ atE r 1 2 = 0 ∧ 2 ≤ r.length := by
  unfold loopE at h
  split at h
  · contradiction
  · rename_i h1
    have h1' : atE r 0 3 = 0 := by simpa using h1
    exact ⟨h1', h, atE_len (n := 1) h⟩
theorem R16.loop {r : List (Int × Int)} (h : R16 r) : R16 (loopR r) := by
  unfold loopR; split
  · exact h.init.append (R16.one (mod16 _))
  · exact h.init.init
theorem loopR_len {r : List (Int × Int)} (h : 1 ≤ r.length) : (loopR r).length ≤ r.length := by
  unfold loopR; split
  · simp; omega
  · simp; omega
theorem D16.init {d : List Int} (h : D16 d) : D16 d.dropLast := fun x hx => h x (List.dropLast_subset _ hx)
theorem need1 {d : List Int} {p : Int} (h : needF d.length p 1 = 0) (hp : p = 0) : d.length + 1 ≤ 256 := by
  subst hp
  have := needF_ok (d := d) (p := 0) (q := 1) h (by decide) (by decide)
  omega
/-- Behind a step all may be again. -/
theorem does_ok (code : List Int) (k : Nat) (hk : k < 64) (x : Int) (hx : 0 ≤ x ∧ x < 65536) (s : VmS) (h : VmOk code s) (he : doesE k s = 0) : VmOk code (doesS k x s) ∧ (doesS k x s).m.tones.length ≤ s.m.tones.length + 3 := by
  have hn := nextF_rng k s
  obtain ⟨⟨h1, h2, h3, h4, h5, h6⟩, hp0, hp1, hcb, hcl⟩ := h
  have hneed : needF s.d.length (takesN k) (leavesN k) = 0 := by
    unfold doesE at he
    split at he
    · contradiction
    · rename_i h; simpa using h
  have gen : k ≠ 1 → k ≠ 2 → k ≠ 3 → k ≠ 4 → k ≠ 5 → k ≠ 7 → k ≠ 8 → k ≠ 10 → k ≠ 11 → doesS k x s = { s with d := (doF k s.d s.r s.m).1, r := (doF k s.d s.r s.m).2.1, m := (doF k s.d s.r s.m).2.2, pc := nextF k s } := by
    intro n1 n2 n3 n4 n5 n7 n8 n10 n11
    unfold doesS
    split <;> first | contradiction | rfl
  by_cases k1 : k = 1
  · subst k1
    have hl : s.r.length + 1 ≤ 128 := by
      unfold doesE at he
      rw [if_neg (by simpa using hneed)] at he
      show s.r.length + 1 ≤ 128
      by_cases hh : s.r.length + 1 ≤ 128
      · exact hh
      · exact absurd (show (4 : Int) = 0 from by simpa [hh] using he) (by decide)
    exact ⟨⟨⟨h1, h2.append (R16.one hn), h3, (show (s.r ++ [((1 : Int), nextF 1 s)]).length ≤ 128 by simp; omega), h5, h6⟩, hx.1, hx.2, hcb, hcl⟩, Nat.le_add_right _ _⟩
  by_cases k2 : k = 2
  · subst k2
    have hl := need1 (p := takesN 2) hneed rfl
    exact ⟨⟨⟨h1.append (D16.one hx), h2, (show (s.d ++ [x]).length ≤ 256 by simp; omega), h4, h5, h6⟩, hn.1, hn.2, hcb, hcl⟩, Nat.le_add_right _ _⟩
  by_cases k3 : k = 3
  · subst k3
    have hl := need1 (p := takesN 3) hneed rfl
    exact ⟨⟨⟨h1.append (D16.one hx), h2, (show (s.d ++ [x]).length ≤ 256 by simp; omega), h4, h5, h6⟩, hn.1, hn.2, hcb, hcl⟩, Nat.le_add_right _ _⟩
  by_cases k4 : k = 4
  · subst k4
    exact ⟨⟨⟨h1, h2, h3, h4, h5, h6⟩, hx.1, hx.2, hcb, hcl⟩, Nat.le_add_right _ _⟩
  by_cases k5 : k = 5
  · subst k5
    have hpc : 0 ≤ (doesS 5 x s).pc ∧ (doesS 5 x s).pc < 65536 := by
      show 0 ≤ (if s.d.getD (s.d.length - 1) 0 ≠ 0 then nextF 5 s else x) ∧ (if s.d.getD (s.d.length - 1) 0 ≠ 0 then nextF 5 s else x) < 65536
      split
      · exact hn
      · exact hx
    exact ⟨⟨⟨h1.init, h2, (show s.d.dropLast.length ≤ 256 by simp; omega), h4, h5, h6⟩, hpc.1, hpc.2, hcb, hcl⟩, Nat.le_add_right _ _⟩
  by_cases k7 : k = 7
  · subst k7
    have hl : loopE s.r = 0 := by
      unfold doesE at he
      rw [if_neg (by simpa using hneed)] at he
      exact he
    have hl2 := loopE_len hl
    have hpc : 0 ≤ (doesS 7 x s).pc ∧ (doesS 7 x s).pc < 65536 := by
      show 0 ≤ (if loopOn s.r = true then x else nextF 7 s) ∧ (if loopOn s.r = true then x else nextF 7 s) < 65536
      split
      · exact hx
      · exact hn
    exact ⟨⟨⟨h1, h2.loop, h3, (show (loopR s.r).length ≤ 128 from Nat.le_trans (loopR_len (by omega)) h4), h5, h6⟩, hpc.1, hpc.2, hcb, hcl⟩, Nat.le_add_right _ _⟩
  by_cases k8 : k = 8
  · subst k8
    by_cases hz : s.r.length = 0
    · have e : doesS 8 x s = { s with st := 2, pc := nextF 8 s } := if_pos hz
      rw [e]
      exact ⟨⟨⟨h1, h2, h3, h4, h5, h6⟩, hn.1, hn.2, hcb, hcl⟩, Nat.le_add_right _ _⟩
    · have e : doesS 8 x s = { s with r := s.r.dropLast, pc := atV s.r 0 1 } := if_neg hz
      rw [e]
      exact ⟨⟨⟨h1, h2.init, h3, (show s.r.dropLast.length ≤ 128 by simp; omega), h5, h6⟩, (atV_rng h2 0 1).1, (atV_rng h2 0 1).2, hcb, hcl⟩, Nat.le_add_right _ _⟩
  by_cases k10 : k = 10
  · subst k10
    exact ⟨⟨⟨h1, h2, h3, h4, h5, h6⟩, hn.1, hn.2, hcb, hcl⟩, Nat.le_add_right _ _⟩
  by_cases k11 : k = 11
  · subst k11
    exact ⟨⟨⟨h1, h2, h3, h4, h5, h6⟩, hn.1, hn.2, hcb, hcl⟩, Nat.le_add_right _ _⟩
  rw [gen k1 k2 k3 k4 k5 k7 k8 k10 k11]
  have hg := doF_good k hk ⟨h1, h2, h3, h4, h5, h6⟩
  exact ⟨⟨hg.1, hn.1, hn.2, hcb, hcl⟩, hg.2⟩
theorem step_ok (code : List Int) (s : VmS) (h : VmOk code s) : VmOk code (stepS code s) ∧ (stepS code s).m.tones.length ≤ s.m.tones.length + 3 := by
  unfold stepS
  split
  · exact ⟨⟨h.gd, h.pc0, h.pc1, h.cb, h.cl⟩, Nat.le_add_right _ _⟩
  · rename_i he
    have he' : stepE code s = 0 := by simpa using he
    have hl : lookE code s = 0 := by
      unfold stepE at he'
      split at he'
      · contradiction
      · rename_i h; simpa using h
    have hd : doesE (lookOp code s) s = 0 := by
      unfold stepE at he'
      rw [if_neg (by simpa using hl)] at he'
      exact he'
    exact does_ok code _ (look_op code s hl).2.2.2.1 _ (lookX_rng code s) s h hd
end Go.Proofs.YtdnalhjdmlkbmaaGreatDoor
namespace Go.Proofs.YtdnalhjdmlkbmaaGreatDoor
open Go.RowKit
set_option linter.unusedVariables false

/-- The tones are forgotten. -/
theorem PMx.setTones {w : World} {G : Nat → Nat} {i D B : Nat} {bs : List Nat} {tv : Value} {M : MemS} (h : PMx w G i D B bs tv M) (hm : MemOk M) : PMx (w.setCell ⟨D, 19463, none⟩ (.slice none 0 0)) G i D B bs (.slice none 0 0) { M with tones := [] } := by
  have hBD : B ≠ D := by
    intro e
    obtain ⟨es, clk, h1, _⟩ := h.map
    obtain ⟨C, h2, _⟩ := h.head
    rw [e, h2] at h1
    cases h1
  refine ⟨?_, h.hown, h.map.of_block (Below.heap_setCell _ _ _ _ hBD), h.mown, h.blen, ?_, Row.nil _ _ _ _ _, h.nodup, h.ne, (fun e => by cases e), (fun b _ e => by cases e)⟩
  · obtain ⟨C, h1, h2⟩ := h.head
    refine ⟨C.setIfInBounds 19463 (.slice none 0 0), ?_, ?_⟩
    · simp only [World.setCell, Array.getElem?_modify, h1]; simp
    · rw [Array.toList_setIfInBounds, h2]
      exact head_setTail B M tv hm 6 _
  · intro k p b hp hbk
    obtain ⟨⟨C, h1, h2⟩, h3⟩ := h.bank k p b hp hbk
    refine ⟨⟨C, (Below.heap_setCell _ _ _ _ ?_).trans h1, h2⟩, h3⟩
    intro e
    exact h.ne (by have := List.mem_of_getElem? hbk; rw [show b = D from e] at this; exact this)
theorem PM.setHead {w : World} {G : Nat → Nat} {q D : Nat} {M M' : MemS} (h : PM w G q D M) (j : Nat) (v : Value) (hh : ∀ B tv, (headC B M tv).set j v = headC B M' tv) (hb : M'.banks = M.banks) (ht : M'.tones = M.tones) :
    Adv (fun o => o = q) w G (w.setCell ⟨D, j, none⟩ v) G ∧ PM (w.setCell ⟨D, j, none⟩ v) G q D M' := by
  obtain ⟨B, bs, tv, h⟩ := h
  exact ⟨(Adv.refl (fun o => o = q) w G).setCell (p := ⟨D, j, none⟩) h.hown v, B, bs, tv, h.setHead j v (hh B tv) hb ht⟩
theorem PM.setTones {w : World} {G : Nat → Nat} {q D : Nat} {M : MemS} (h : PM w G q D M) (hm : MemOk M) : Adv (fun o => o = q) w G (w.setCell ⟨D, 19463, none⟩ (.slice none 0 0)) G ∧ PM (w.setCell ⟨D, 19463, none⟩ (.slice none 0 0)) G q D { M with tones := [] } := by
  obtain ⟨B, bs, tv, h⟩ := h
  exact ⟨(Adv.refl (fun o => o = q) w G).setCell (p := ⟨D, 19463, none⟩) h.hown _, B, bs, _, h.setTones hm⟩
theorem PM.tail {w : World} {G : Nat → Nat} {q D : Nat} {M : MemS} (h : PM w G q D M) (hm : MemOk M) : (∀ k, w.frozen? ⟨D, k, none⟩ = false) ∧ w.cell? ⟨D, 19457, none⟩ = some (.int .u8 M.chosen) ∧ w.cell? ⟨D, 19458, none⟩ = some (.int .u8 M.pad) ∧ w.cell? ⟨D, 19461, none⟩ = some (.int .u16 M.time) ∧ w.cell? ⟨D, 19462, none⟩ = some (.int .i64 M.cycle) ∧ ∃ ta n c, w.cell? ⟨D, 19463, none⟩ = some (.slice ta n c) := by
  obtain ⟨B, bs, tv, h⟩ := h
  obtain ⟨c0, c1, c2, c3, c4, c5, c6⟩ := h.ports hm
  obtain ⟨ta, c, rfl, _⟩ := h.tones.slice
  exact ⟨h.free, c0, c1, c4, c5, ta, _, c, c6⟩
set_option maxRecDepth 100000 in
theorem begin_any (G : Nat → Nat) (q D : Nat) (M : MemS) (hm : MemOk M) (hr : MemR M) (x : Int) (w : World) (hp : PM w G q D M) :
    Calls Tryz.prog 28 #[.pointer (some ⟨D, 0, none⟩), .int .u8 x] w fun e w' => e = .returned (.tuple #[]) ∧ ∃ G', Adv (fun o => o = q) w G w' G' ∧ PM w' G' q D (beginF M x) := by
  obtain ⟨f, c0, c1, c4, c5, ta, n, c, c6⟩ := hp.tail hm
  have hw := wrap_u16_mod (M.time + 1)
  have t0 := hr.time.1
  have t1 := hr.time.2
  have HP := Lib.hid hp
  clear hp
  go_enter Tryz.func28, Tryz.ntmps28
  go_wp2
  go_end0
  obtain ⟨a1, p1⟩ := HP.out.setHead (M' := { M with pad := x }) 19458 (.int .u8 x) (fun B tv => head_setTail B M tv hm 1 _) rfl rfl
  obtain ⟨a2, p2⟩ := p1.setHead (M' := { M with pad := x, time := (M.time + 1) % 65536 }) 19461 (.int .u16 ((M.time + 1) % 65536)) (fun B tv => head_setTail B { M with pad := x } tv ⟨hm.ram, hm.screen, hm.banks⟩ 4 _) rfl rfl
  obtain ⟨a3, p3⟩ := p2.setHead (M' := { M with pad := x, time := (M.time + 1) % 65536, cycle := 0 }) 19462 (.int .i64 0) (fun B tv => head_setTail B { M with pad := x, time := (M.time + 1) % 65536 } tv ⟨hm.ram, hm.screen, hm.banks⟩ 5 _) rfl rfl
  obtain ⟨a4, p4⟩ := p3.setTones ⟨hm.ram, hm.screen, hm.banks⟩
  exact ⟨rfl, G, a1.trans (a2.trans (a3.trans a4)), p4⟩
theorem memAt_any (G : Nat → Nat) (q D : Nat) (M : MemS) (hm : MemOk M) (n : Int) (w : World) (hp : PM w G q D M) :
    Calls Tryz.prog 45 #[.pointer (some ⟨D, 0, none⟩), .int .i64 n] w fun e w' => e = .returned (.tuple #[]) ∧ ∃ G', Adv (fun o => o = q) w G w' G' ∧ PM w' G' q D (atF M n) := by
  obtain ⟨f, c0, c1, c4, c5, -⟩ := hp.tail hm
  have HP := Lib.hid hp
  clear hp
  go_enter Tryz.func45, Tryz.ntmps45
  go_wp2
  go_end0
  obtain ⟨a1, p1⟩ := HP.out.setHead (M' := atF M n) 19462 (.int .i64 n) (fun B tv => head_setTail B M tv hm 5 _) rfl rfl
  exact ⟨rfl, G, a1, p1⟩
/-- A screen's bytes in new memory. -/
def NewBytes (w : World) (G : Nat → Nat) (l : List Int) (e : Ending) (w' : World) : Prop := ∃ b G', e = .returned (.slice (some ⟨b, 0, none⟩) l.length l.length) ∧ Adv (fun _ => False) w G w' G' ∧ G' b = 0 ∧ w.heap.size ≤ b ∧ Reads w' (some ⟨b, 0, none⟩) (u8s l) ∧ b < w'.heap.size
theorem pixZ_size : Tryz.zeroCells169.size = 3072 := by kernel_rfl
theorem infoPix : (Tryz.prog.info? 169).map (·.size) = some 3072 := by kernel_rfl
set_option maxRecDepth 100000 in
theorem screen_any (G : Nat → Nat) (q D : Nat) (M : MemS) (hm : MemOk M) (w : World) (hp : PM w G q D M) :
    Calls Tryz.prog 22 #[.pointer (some ⟨D, 0, none⟩)] w (NewBytes w G M.screen) := by
  obtain ⟨B, bs, tv, hp⟩ := hp
  have hl : M.screen.length = 3072 := hm.screen
  have hrange : w.rangeAt D 16385 (u8s M.screen) := by
    intro j v hv
    have hj : j < 3072 := by
      have := (List.getElem?_eq_some_iff.1 hv).1
      rwa [u8s_length, hl] at this
    have h1 := hp.screenc hm j hj
    have h2 : (u8s M.screen)[j]? = some (.int .u8 (M.screen.getD j 0)) := u8s_at _ j _ (by rw [List.getD_eq_getElem?_getD]; simp [hl, hj])
    rw [h2] at hv
    cases hv
    exact h1
  have HR := Lib.hid hrange
  clear hp hrange
  have hz := heap_alloc_new w (.cells Tryz.zeroCells169 169)
  have hi : (Tryz.prog.info? 169).map (·.size) = some (u8s M.screen).toArray.size := by rw [infoPix]; simp [u8s_length, hl]
  have hs : Tryz.zeroCells169.size = (u8s M.screen).toArray.size := by rw [pixZ_size]; simp [u8s_length, hl]
  have hi2 : (Tryz.prog.info? 169).map (·.size) = some (u8s M.screen).length := by rw [infoPix, u8s_length, hl]
  have ho : (u8s M.screen).toArray.all (·.oneCell') = true := all_oneCell_toArray (u8s_one M.screen)
  have HZ := Lib.hid (And.intro hz (And.intro hi (And.intro hs (And.intro hi2 ho))))
  have HL := Lib.hid hl
  clear hz hi hs hi2 ho hl
  go_enter Tryz.func22, Tryz.ntmps22
  go_wp2_with (first
    | (refine wpList_load_mid rfl 169 (.tmp 8) rfl D 16385 rfl (u8s M.screen) _ HR.out Tryz.underlying169 rfl HZ.out.2.2.2.1 ?_)
    | (refine wpList_store_row rfl 169 (.tmp 3) (.tmp 9) rfl w.heap.size (u8s M.screen).toArray rfl rfl 169 Tryz.zeroCells169 HZ.out.1 HZ.out.2.1 HZ.out.2.2.1 HZ.out.2.2.2.2 ?_))
  go_ret
  have hb := setRow_heap (w.alloc (.cells Tryz.zeroCells169 169)) w.heap.size _ (u8s M.screen).toArray _ _ HZ.out.1
  refine ⟨w.heap.size, own1 w G 0, by rw [HL.out]; rfl, ?_, own1_new _ _ _, Nat.le_refl _, ?_, (Array.getElem?_eq_some_iff.1 hb).1⟩
  · exact ((Adv.refl (fun _ => False) w G).alloc (.cells Tryz.zeroCells169 169) 0).newBlock w.heap.size (Nat.le_refl _) (fun k hk => setRow_other _ _ _ _ hk) (by simp [World.setRow]) rfl rfl rfl
  · exact .inr ⟨w.heap.size, 0, rfl, fun j u hu => block_cell hb (0 + j) u (by simpa using hu)⟩
end Go.Proofs.YtdnalhjdmlkbmaaGreatDoor
namespace Go.Proofs.YtdnalhjdmlkbmaaGreatDoor
open Go.RowKit
set_option linter.unusedVariables false
set_option maxHeartbeats 400000 in
theorem writes_any (x : Int) (w : World) : Calls Tryz.prog 34 #[.int .i64 x] w fun e w' => e = .returned (.bool (writesB x)) ∧ w = w' := by
  by_cases h1 : x = 51
  · subst h1
    go_enter Tryz.func34, Tryz.ntmps34
    go_wp2
    go_ret
    exact ⟨rfl, rfl⟩
  · by_cases h2 : x = 53
    · subst h2
      go_enter Tryz.func34, Tryz.ntmps34
      go_wp2
      go_ret
      exact ⟨rfl, rfl⟩
    · by_cases h3 : x = 54
      · subst h3
        go_enter Tryz.func34, Tryz.ntmps34
        go_wp2
        go_ret
        exact ⟨rfl, rfl⟩
      · by_cases h4 : x = 60
        · subst h4
          go_enter Tryz.func34, Tryz.ntmps34
          go_wp2
          go_ret
          exact ⟨rfl, rfl⟩
        · by_cases h5 : x = 62
          · subst h5
            go_enter Tryz.func34, Tryz.ntmps34
            go_wp2
            go_ret
            exact ⟨rfl, rfl⟩
          · have b1 : (x == 51) = false := by simpa using h1
            have b2 : (x == 53) = false := by simpa using h2
            have b3 : (x == 54) = false := by simpa using h3
            have b4 : (x == 60) = false := by simpa using h4
            have b5 : (x == 62) = false := by simpa using h5
            have hw : writesB x = (x == 63) := by
              unfold writesB
              by_cases h6 : x = 63
              · subst h6; rfl
              · simp [h1, h2, h3, h4, h5, h6]
            rw [hw]
            clear hw h1 h2 h3 h4 h5
            go_enter Tryz.func34, Tryz.ntmps34
            go_wp2
            go_ret
            exact ⟨rfl, rfl⟩
set_option maxHeartbeats 400000 in
theorem reads_any (x : Int) (w : World) : Calls Tryz.prog 38 #[.int .i64 x] w fun e w' => e = .returned (.bool (readsB x)) ∧ w = w' := by
  by_cases h1 : x = 50
  · subst h1
    go_enter Tryz.func38, Tryz.ntmps38
    go_wp2
    go_ret
    exact ⟨rfl, rfl⟩
  · by_cases h2 : x = 52
    · subst h2
      go_enter Tryz.func38, Tryz.ntmps38
      go_wp2
      go_ret
      exact ⟨rfl, rfl⟩
    · by_cases h3 : x = 54
      · subst h3
        go_enter Tryz.func38, Tryz.ntmps38
        go_wp2
        go_ret
        exact ⟨rfl, rfl⟩
      · have b1 : (x == 50) = false := by simpa using h1
        have b2 : (x == 52) = false := by simpa using h2
        have b3 : (x == 54) = false := by simpa using h3
        have hw : readsB x = (x == 61) := by
          unfold readsB
          by_cases h6 : x = 61
          · subst h6; rfl
          · simp [h1, h2, h3, h6]
        rw [hw]
        clear hw h1 h2 h3
        go_enter Tryz.func38, Tryz.ntmps38
        go_wp2
        go_ret
        exact ⟨rfl, rfl⟩
theorem returned_any (x : Int) (w : World) : Calls Tryz.prog 37 #[.int .i64 x] w fun e w' => e = .returned (.int .i64 (returnedN x)) ∧ w = w' := by
  by_cases h1 : x = 6
  · subst h1
    go_enter Tryz.func37, Tryz.ntmps37
    go_wp2
    go_ret
    exact ⟨rfl, rfl⟩
  · by_cases h2 : x = 55
    · subst h2
      go_enter Tryz.func37, Tryz.ntmps37
      go_wp2
      go_ret
      exact ⟨rfl, rfl⟩
    · by_cases h3 : x = 56
      · subst h3
        go_enter Tryz.func37, Tryz.ntmps37
        go_wp2
        go_ret
        exact ⟨rfl, rfl⟩
      · have b1 : (x == 6) = false := by simpa using h1
        have b2 : (x == 55) = false := by simpa using h2
        have b3 : (x == 56) = false := by simpa using h3
        have hw : returnedN x = 0 := by unfold returnedN; rw [if_neg h1, if_neg h2, if_neg h3]
        rw [hw]
        clear hw h1 h2 h3
        go_enter Tryz.func37, Tryz.ntmps37
        go_wp2
        go_ret
        exact ⟨rfl, rfl⟩

set_option maxHeartbeats 1000000 in
/-- sameReturn says yes. -/
theorem sameR_yes (a b : Option Addr) (n c m d q : Nat) (l k : List (Int × Int)) (w : World) (hl : l.length = n) (hk : k.length = m) (hn : q ≤ n) (hm : q ≤ m) (hn9 : n ≤ 1000) (hm9 : m ≤ 1000) (ha : Reads w a (cellsR l)) (hb : Reads w b (cellsR k)) (he : l.take q = k.take q) :
    Calls Tryz.prog 36 #[.slice a n c, .slice b m d, .int .i64 q] w fun e w' => e = .returned (.bool true) ∧ ∃ z, w' = w.drewN z := by
  have HL := Lib.hid hl
  have HK := Lib.hid hk
  have HA := Lib.hid ha
  have HB := Lib.hid hb
  have HE := Lib.hid he
  have b1 : decide ((n : Int) < (q : Int)) = false := by simp; omega
  have b2 : decide ((m : Int) < (q : Int)) = false := by simp; omega
  clear hl hk ha hb he
  go_enter Tryz.func36, Tryz.ntmps36
  go_wp2_with fail
  go_loopw [7] (fun vi wr => ∃ j : Nat, j ≤ q ∧ vi = .int .i64 j ∧ ∃ z, wr = w.drewN z) (fun vi _ => q - (intOf vi).toNat)
  case atStart => exact ⟨0, by omega, rfl, 0, rfl⟩
  case round =>
    obtain ⟨j, hj, rfl, z, rfl⟩ := hrel
    by_cases h : j < q
    · have hb : decide ((j : Int) < (q : Int)) = true := by simp; omega
      have hkl := HL.out
      obtain ⟨x, hx⟩ : ∃ x, l[j]? = some x := ⟨l[j], List.getElem?_eq_getElem (by omega)⟩
      have hy : k[j]? = some x := by
        have h1 := congrArg (fun t => t[j]?) HE.out
        simp only [List.getElem?_take, if_pos h] at h1
        rw [← h1, hx]
      obtain ⟨b1, o1, f1, c1, d1, -⟩ := HA.out.atR j x hx
      obtain ⟨b2, o2, f2, c2, d2, -⟩ := HB.out.atR j x hy
      subst f1
      subst f2
      have hwi : IntKind.i64.wrap ((j : Int) + 1) = (j : Int) + 1 := IntWalk.i64_in _ (by omega)
      clear hkl hx hy
      go_wp2_with fail
      go_quiet (fail)
      go_wp2_with fail
      exact ⟨⟨j + 1, by omega, by simp, _, rfl⟩, by simp only [intOf]; omega⟩
    · have hb : decide ((j : Int) < (q : Int)) = false := by simp; omega
      go_wp2_with fail
      go_ret
      exact ⟨rfl, _, rfl⟩
/-- What under leaves. -/
def UnderIs (w : World) (G : Nat → Nat) (l : List Int) (t : Nat) (e : Ending) (w' : World) : Prop :=
  ∃ b c G', e = .returned (.slice b t c) ∧ Adv (fun _ => False) w G w' G' ∧ Reads w' b (cellsU (l.take t)) ∧ (∀ ad, b = some ad → G' ad.block = 0 ∧ ad.block < w'.heap.size)
set_option maxHeartbeats 1000000 in
/-- under: the deeper cells, in new memory. -/
theorem under_any (G : Nat → Nat) (i D : Nat) (l : List Int) (n t : Nat) (w : World) (hp : PU w G i D l) (h1 : l.length ≤ 256) (hn : n ≤ 100) (ht : t = l.length - n) :
    Calls Tryz.prog 32 #[.pointer (some ⟨D, 0, none⟩), .int .i64 n] w (UnderIs w G l t) := by
  have HP := Lib.hid hp
  clear hp
  by_cases h0 : l = []
  · subst h0
    obtain rfl : t = 0 := by rw [ht, List.length_nil]; omega
    clear ht
    go_enter Tryz.func32, Tryz.ntmps32
    go_wp2_with fail
    refine (cellsPU_nil G i D _ HP.out).mono ?_
    rintro e w' ⟨rfl, rfl⟩
    have hw : wrap64 (0 - (n : Int)) = - (n : Int) := by unfold wrap64; omega
    by_cases hz : n = 0
    · subst hz
      go_wp2
      go_ret
      exact ⟨_, _, G, rfl, Adv.refl _ _ _, .inl rfl, fun ad h => by cases h⟩
    · have hz1 : ¬ (0 : Int) < - (n : Int) := by omega
      go_wp2
      go_ret
      exact ⟨none, 0, G, rfl, Adv.refl _ _ _, .inl rfl, fun ad h => by cases h⟩
  · obtain ⟨L, hL⟩ : ∃ L, l.length = L := ⟨_, rfl⟩
    rw [hL] at h1 ht
    have HL := Lib.hid hL
    clear hL
    by_cases hz : n < L
    · have hw : wrap64 ((L : Int) - (n : Int)) = (t : Int) := by unfold wrap64; omega
      have htL : t ≤ L := by omega
      have hz1 : (0 : Int) < (t : Int) := by omega
      have HT := Lib.hid ht
      clear ht
      go_enter Tryz.func32, Tryz.ntmps32
      go_wp2_with fail
      refine (cellsPU G i D l _ HP.out h0 (by rw [HL.out]; omega)).mono ?_
      rintro e w' ⟨rfl, rfl⟩
      rw [HL.out]
      have HR := Lib.hid (Reads.new w (cellsU l) 31)
      go_wp2
      go_ret
      rw [HT.out]
      refine ⟨_, _, _, rfl, (Adv.refl _ w G).alloc _ 0, HR.out.takeU (L - n), fun ad h => by cases h; exact ⟨own1_new _ _ _, by simp⟩⟩
    · have hw : wrap64 ((L : Int) - (n : Int)) = (L : Int) - (n : Int) := by unfold wrap64; omega
      have hz1 : ¬ (0 : Int) < (L : Int) - (n : Int) := by omega
      obtain rfl : t = 0 := by omega
      clear ht
      go_enter Tryz.func32, Tryz.ntmps32
      go_wp2_with fail
      refine (cellsPU G i D l _ HP.out h0 (by rw [HL.out]; omega)).mono ?_
      rintro e w' ⟨rfl, rfl⟩
      rw [HL.out]
      have HR := Lib.hid (Reads.new w (cellsU l) 31)
      go_wp2
      go_ret
      exact ⟨_, _, _, rfl, (Adv.refl _ w G).alloc _ 0, .inl rfl, fun ad h => by cases h; exact ⟨own1_new _ _ _, by simp⟩⟩
end Go.Proofs.YtdnalhjdmlkbmaaGreatDoor
namespace Go.Proofs.YtdnalhjdmlkbmaaGreatDoor
open Go.RowKit

theorem wf_u16_of {n : Int} (h : (Lit.int .u16 n).wf = true) : 0 ≤ n ∧ n < 65536 := by
  simp [Lit.wf, IntKind.min, IntKind.max, IntKind.signed, IntKind.bits] at h
  omega
theorem wf_u8_of {n : Int} (h : (Lit.int .u8 n).wf = true) : 0 ≤ n ∧ n < 256 := by
  simp [Lit.wf, IntKind.min, IntKind.max, IntKind.signed, IntKind.bits] at h
  omega
theorem own123 : Own3 1 2 3 := ⟨by decide, by decide, by decide, by decide, by decide, by decide⟩
theorem B8.replicate (n : Nat) : B8 (List.replicate n 0) := fun x hx => by rw [List.eq_of_mem_replicate hx]; decide
theorem B8.append {l m : List Int} (h : B8 l) (k : B8 m) : B8 (l ++ m) := fun x hx => by
  rcases List.mem_append.1 hx with h1 | h1
  · exact h x h1
  · exact k x h1
theorem newM_rng (l : List (Int × List Int)) (h : ∀ p ∈ l, B8 p.2) : MemR (newM l) := by
  refine ⟨fun p hp => ?_, B8.replicate _, B8.replicate _, (show (0 : Int) ≤ 0 ∧ (0 : Int) < 16 from by decide), (show (0 : Int) ≤ 0 ∧ (0 : Int) < 256 from by decide), (show (0 : Int) ≤ 0 ∧ (0 : Int) < 256 from by decide), (show (0 : Int) ≤ 0 ∧ (0 : Int) < 65536 from by decide), (show (0 : Int) ≤ 0 ∧ (0 : Int) < 65536 from by decide)⟩
  have hp' : p ∈ l.map fun p => (p.1, p.2 ++ List.replicate (16384 - p.2.length) 0) := hp
  simp only [List.mem_map] at hp'
  obtain ⟨q, hq, rfl⟩ := hp'
  exact (h q hq).append (B8.replicate _)
theorem banks2_ok : MemOk (newM banks2) := newM_ok _ (by decide)
theorem banks2_rng : MemR (newM banks2) := newM_rng _ (by intro p hp; simp [banks2] at hp; rcases hp with rfl | rfl <;> (intro x hx; simp at hx; omega))
/-- The law's world: block K holds the pointers; all is well. -/
structure W6 (w : World) (G : Nat → Nat) (K D R M : Nat) (d : List Int) (r : List (Int × Int)) (m : MemS) : Prop where
  wl : Wld w G K D R M
  tr : Trio w G 1 2 3 D R M d r m
  tb : Tabs w G
  gd : Good3 d r m
section
variable {w w' : World} {G G' : Nat → Nat} {K D R M : Nat} {d d' : List Int} {r r' : List (Int × Int)} {m m' : MemS}
theorem W6.cells (h : W6 w G K D R M d r m) : w.cell? ⟨K, 0, none⟩ = some (.pointer (some ⟨D, 0, none⟩)) ∧ w.cell? ⟨K, 1, none⟩ = some (.pointer (some ⟨R, 0, none⟩)) ∧ w.cell? ⟨K, 2, none⟩ = some (.pointer (some ⟨M, 0, none⟩)) := by
  obtain ⟨x, y, z, h1, _⟩ := h.wl
  exact ⟨block_cell h1 0 _ rfl, block_cell h1 1 _ rfl, block_cell h1 2 _ rfl⟩
theorem W6.still (h : W6 w G K D R M d r m) (ha : Adv (fun _ => False) w G w' G') : W6 w' G' K D R M d r m := by
  obtain ⟨x, y, z, h1, h2⟩ := h.wl
  have hl : K < w.heap.size := (Array.getElem?_eq_some_iff.1 h1).1
  exact ⟨⟨x, y, z, (ha.keep K hl id).trans h1, (ha.own K hl).trans h2⟩, h.tr.still ha, h.tb.adv ha id, h.gd⟩
theorem W6.drew (h : W6 w G K D R M d r m) : W6 w.drew G K D R M d r m := h.still (Adv.refl _ w G).drew
theorem W6.alloc (h : W6 w G K D R M d r m) (o : Obj) (k : Nat) : W6 (w.alloc o) (own1 w G k) K D R M d r m := h.still ((Adv.refl _ w G).alloc o k)
theorem W6.next (h : W6 w G K D R M d r m) (ha : Adv (S3 1 2 3) w G w' G') (ht : Trio w' G' 1 2 3 D R M d' r' m') (hg : Good3 d' r' m') : W6 w' G' K D R M d' r' m' := by
  obtain ⟨x, y, z, h1, h2⟩ := h.wl
  have hl : K < w.heap.size := (Array.getElem?_eq_some_iff.1 h1).1
  exact ⟨⟨x, y, z, (ha.keep K hl (by rw [h2]; exact own123.zero)).trans h1, (ha.own K hl).trans h2⟩, ht, h.tb.adv ha own123.zero, hg⟩
/-- What a call leaves of the law's world. -/
def Left6 (K D R M : Nat) (w : World) (G : Nat → Nat) (d : List Int) (r : List (Int × Int)) (m : MemS) (v : Value) (e : Ending) (w' : World) : Prop :=
  e = .returned v ∧ ∃ G', Adv (S3 1 2 3) w G w' G' ∧ W6 w' G' K D R M d r m
theorem W6.left (h : W6 w G K D R M d r m) (hg : Good3 d' r' m') {v : Value} {e : Ending} (hl : Left3 1 2 3 D R M w G d' r' m' v e w') : Left6 K D R M w G d' r' m' v e w' := by
  obtain ⟨h1, G', h2, h3⟩ := hl
  exact ⟨h1, G', h2, h.next h2 h3 hg⟩
theorem W6.do (k : Nat) (hk : k < 64) (hpl : plainB k = true) (h : W6 w G K D R M d r m) (hn : m.tones.length ≤ 99999) (hf : faultF k d r = 0) (he : doF k d r m = (d', r', m')) :
    Calls Tryz.prog 23 #[.int .i64 k, .pointer (some ⟨D, 0, none⟩), .pointer (some ⟨R, 0, none⟩), .pointer (some ⟨M, 0, none⟩)] w (Left6 K D R M w G d' r' m' (.int .i64 0)) := by
  refine (do_at k hk hpl own123 h.gd hn h.tb h.tr hf he).mono fun e w' hl => h.left ?_ hl
  have hg := (doF_good k hk h.gd).1
  rw [he] at hg
  exact hg
theorem W6.push (l : List Int) (h : W6 w G K D R M d r m) (hl : D16 l) (n : Nat) (hn : l.length = n) (hroom : d.length + n ≤ 256) :
    Calls Tryz.prog 39 #[.pointer (some ⟨D, 0, none⟩), .slice (some ⟨w.heap.size, 0, none⟩) n n] (w.alloc (.cells (cellsU l).toArray 31)) (Left6 K D R M (w.alloc (.cells (cellsU l).toArray 31)) (own1 w G 0) (d ++ l) r m (.int .i64 0)) := by
  have h1 := h.alloc (.cells (cellsU l).toArray 31) 0
  exact (h1.tr.push own123 (some ⟨w.heap.size, 0, none⟩) n n hn hroom (Reads.new w (cellsU l) 31)).mono fun e w' k => h1.left ⟨h.gd.d16.append hl, h.gd.r16, by rw [List.length_append]; omega, h.gd.rl, h.gd.mo, h.gd.mr⟩ k
theorem W6.pop {x : Int} (h : W6 w G K D R M (d ++ [x]) r m) : Calls Tryz.prog 147 #[.pointer (some ⟨D, 0, none⟩)] w (Left6 K D R M w G d r m (.int .u16 x)) :=
  (h.tr.pop own123).mono fun e w' k => h.left ⟨h.gd.d16.left, h.gd.r16, by have := h.gd.dl; rw [List.length_append] at this; omega, h.gd.rl, h.gd.mo, h.gd.mr⟩ k
/-- Cells of the data stack in new memory. -/
def NewCells (w : World) (G : Nat → Nat) (l : List Int) (e : Ending) (w' : World) : Prop := ∃ b c G', e = .returned (.slice b l.length c) ∧ Adv (fun _ => False) w G w' G' ∧ Reads w' b (cellsU l) ∧ (∀ ad, b = some ad → G' ad.block = 0 ∧ ad.block < w'.heap.size ∧ w.heap.size ≤ ad.block)
theorem newCells (G : Nat → Nat) (i D : Nat) (l : List Int) (w : World) (hp : PU w G i D l) (h1 : l.length ≤ 256) : Calls Tryz.prog 30 #[.pointer (some ⟨D, 0, none⟩)] w (NewCells w G l) := by
  by_cases h0 : l = []
  · subst h0
    refine (cellsPU_nil G i D w hp).mono fun e w' k => ?_
    obtain ⟨k1, rfl⟩ := k
    exact ⟨none, 0, G, k1, Adv.refl _ _ _, .inl rfl, fun ad h => by cases h⟩
  · refine (cellsPU G i D l w hp h0 (by omega)).mono fun e w' k => ?_
    obtain ⟨k1, rfl⟩ := k
    exact ⟨_, _, own1 w G 0, k1, (Adv.refl _ w G).alloc _ 0, Reads.new w (cellsU l) 31, fun ad h => by cases h; exact ⟨own1_new _ _ _, by simp, Nat.le_refl _⟩⟩
end
theorem born6 (G : Nat → Nat) (xa : Option Addr) (n c : Nat) (l : List Int) (w : World) (hl : l.length = n) (hm : n ≤ 256) (hr : Reads w xa (cellsU l)) (hcap : n ≤ c) (hc2 : c ≤ 100000000000000) (hd : D16 l) (ht : Tabs w G) :
    Calls Tryz.prog 9 #[.slice xa n c, .slice none 0 0] w fun e w' => ∃ K D R M G', e = .returned (.pointer (some ⟨K, 0, none⟩)) ∧ Adv (fun _ => False) w G w' G' ∧ W6 w' G' K D R M l [] (newM banks2) :=
  (born0 G xa n c l w hl hm hr hcap hc2).mono fun e w' k => by
    obtain ⟨K, D, R, M, G', k1, k2, k3, k4, k5, k6⟩ := k
    exact ⟨K, D, R, M, G', k1, k2, k3, ⟨k4, k5, k6⟩, ht.adv k2 id, ⟨hd, (fun x hx => by cases hx), by omega, by simp, banks2_ok, banks2_rng⟩⟩
end Go.Proofs.YtdnalhjdmlkbmaaGreatDoor
