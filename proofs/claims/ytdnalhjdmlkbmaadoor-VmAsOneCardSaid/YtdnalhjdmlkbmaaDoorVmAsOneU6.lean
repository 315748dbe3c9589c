/- What does and loops do; does, of every instruction; Step; Begin, At, Screen; State; Frame. -/
import Derived.Deep.RegionHeld3
import Derived.Deep.MidRow
import Derived.Laws.Tables
import Derived.Test.YtdnalhjdmlkbmaaDoorVmAsOneU1
import Derived.Test.YtdnalhjdmlkbmaaDoorVmAsOneU2
import Derived.Test.YtdnalhjdmlkbmaaDoorVmAsOneU3
import Derived.Test.YtdnalhjdmlkbmaaDoorVmAsOneU4
import Derived.Test.YtdnalhjdmlkbmaaDoorVmAsOneU5
set_option linter.unusedVariables false
set_option linter.unusedSimpArgs false
set_option linter.unnecessarySimpa false
namespace Go.Proofs.YtdnalhjdmlkbmaaDoor
open Go.RowKit
set_option linter.unusedVariables false

section
variable {w : World} {G : Nat → Nat} {p i j q P D R M : Nat} {code : List Int} {s : VmS}
theorem needV (l : List Int) (a b : Int) (hp : PU w G i D l) (hn : l.length ≤ 256) (h1 : a ≤ 100) (h2 : b ≤ 100) : Calls Tryd.prog 55 #[.pointer (some ⟨D, 0, none⟩), .int .i64 a, .int .i64 b] w (Looked w G (.int .i64 (needF l.length a b))) :=
  (needPU G i D l a b w hp (by omega) (by omega) (by omega)).mono fun e w' k => ⟨k.1, G, by rw [← k.2]; exact Adv.refl _ _ _⟩
theorem atV_any (l : List (Int × Int)) (n kind : Int) (hp : PR w G j R l) (hn : l.length ≤ 128) : Calls Tryd.prog 80 #[.pointer (some ⟨R, 0, none⟩), .int .i64 n, .int .i64 kind] w (Looked w G (.tuple #[.int .u16 (atV l n kind), .int .i64 (atE l n kind)])) :=
  (atPR G j R l n kind w hp (by omega)).mono fun e w' k => by
    obtain ⟨k1, d, rfl⟩ := k
    exact ⟨k1, G, (Adv.refl _ w G).drewN d⟩
theorem lenV (l : List (Int × Int)) (hp : PR w G j R l) : Calls Tryd.prog 28 #[.pointer (some ⟨R, 0, none⟩)] w (Looked w G (.int .i64 l.length)) :=
  (lenPR G j R l w hp).mono fun e w' k => ⟨k.1, G, by rw [← k.2]; exact Adv.refl _ _ _⟩
theorem last_of {l : List Int} (h : 0 < l.length) : ∃ b x, l = b ++ [x] ∧ l.dropLast = b ∧ l.getD (l.length - 1) 0 = x := by
  rcases List.eq_nil_or_concat l with rfl | ⟨b, x, rfl⟩
  · simp at h
  · rw [List.concat_eq_append]
    exact ⟨b, x, rfl, List.dropLast_concat, by rw [List.getD_eq_getElem?_getD]; simp⟩
theorem S3_S4 {p i j q : Nat} : ∀ o, S3 i j q o → S4 p i j q o := fun _ h => .inr h
/-- What a part of does leaves. -/
def DoneV (p i j q P D R M : Nat) (code : List Int) (w : World) (G : Nat → Nat) (s : VmS) (v : Value) (e : Ending) (w' : World) : Prop := LeftV p i j q P D R M code w G s v e w'
set_option maxRecDepth 100000 in
set_option maxHeartbeats 1000000 in
theorem does_need_t (o : Own4 p i j q) (h : VM w G p i j q P D R M code s) (k : Nat) (h64 : k < 64) (hopd : operandB k = true) (x : Int) (hn : (needF s.d.length (takesN k) (leavesN k) != 0) = true) : Calls Tryd.prog 71 #[.pointer (some ⟨P, 0, none⟩), primV k, .int .u16 x] w (LeftV p i j q P D R M code w G s (.int .i64 (needF s.d.length (takesN k) (leavesN k)))) := by
  unfold primV
  rw [hopd]
  have HA := Lib.hid ((Adv.refl (fun _ => False) w G).alloc (.cells #[.int .i64 k, .string (nameB k), .int .i64 (takesN k), .int .i64 (leavesN k), .int .i64 (costsN k), .bool true] 25) 0)
  have H0 := Lib.hid (h.alloc (.cells #[.int .i64 k, .string (nameB k), .int .i64 (takesN k), .int .i64 (leavesN k), .int .i64 (costsN k), .bool true] 25) 0)
  have hg := heap_alloc_new w (.cells #[.int .i64 k, .string (nameB k), .int .i64 (takesN k), .int .i64 (leavesN k), .int .i64 (costsN k), .bool true] 25)
  have HG := Lib.hid hg
  have hP := h.lt
  have c3 := h.cells.2.2.2.1
  have hpc0 := h.ok.pc0
  have hpc1 := h.ok.pc1
  clear h hg
  go_enter Tryd.func71, Tryd.ntmps71
  go_upto_region 1 with fail
  have HN := Lib.hid (needV (w := (w.alloc (.cells #[.int .i64 k, .string (nameB k), .int .i64 (takesN k), .int .i64 (leavesN k), .int .i64 (costsN k), .bool true] 25)).drew) (G := own1 w G 0) (i := i) (D := D) s.d (takesN k) (leavesN k) H0.out.tr.drew.pu H0.out.ok.gd.dl (by have := takes_le k h64; omega) (by have := leaves_le k h64; omega))
  have cc3 := H0.out.drew.cells.2.2.2.1
  have e2 := block_cell HG.out 2 _ rfl
  have e3 := block_cell HG.out 3 _ rfl
  go_region_held3 (fun w' => w'.cell? ⟨P, 3, none⟩ = some (.pointer (some ⟨D, 0, none⟩)) ∧ w'.cell? ⟨w.heap.size, 2, none⟩ = some (.int .i64 (takesN k)) ∧ w'.cell? ⟨w.heap.size, 3, none⟩ = some (.int .i64 (leavesN k))) (first | exact ⟨cc3, e2, e3⟩ | exact Q1.out)
    ((go_at_call 55; refine HN.out.mono ?_; rintro e w1 ⟨rfl, G1, a1⟩; have hb1 := (a1.keep w.heap.size (Array.getElem?_eq_some_iff.1 HG.out).1 id).trans HG.out; have HB1 := Lib.hid hb1; have H1 := Lib.hid (H0.out.drew.still a1); have A1 := Lib.hid (HA.out.drew.trans a1); have Q1 := Lib.hid (And.intro H1.out.cells.2.2.2.1 (And.intro (block_cell hb1 2 _ rfl) (block_cell hb1 3 _ rfl))); clear a1 hb1))
  clear c3 cc3 e2 e3 hP
  clear HG
  go_wp2
  go_ret
  exact ⟨rfl, G1, A1.out.mono fun _ h => h.elim, H1.out⟩
set_option maxRecDepth 100000 in
set_option maxHeartbeats 1000000 in
theorem does_need_f (o : Own4 p i j q) (h : VM w G p i j q P D R M code s) (k : Nat) (h64 : k < 64) (hopd : operandB k = false) (x : Int) (hn : (needF s.d.length (takesN k) (leavesN k) != 0) = true) : Calls Tryd.prog 71 #[.pointer (some ⟨P, 0, none⟩), primV k, .int .u16 x] w (LeftV p i j q P D R M code w G s (.int .i64 (needF s.d.length (takesN k) (leavesN k)))) := by
  unfold primV
  rw [hopd]
  have HA := Lib.hid ((Adv.refl (fun _ => False) w G).alloc (.cells #[.int .i64 k, .string (nameB k), .int .i64 (takesN k), .int .i64 (leavesN k), .int .i64 (costsN k), .bool false] 25) 0)
  have H0 := Lib.hid (h.alloc (.cells #[.int .i64 k, .string (nameB k), .int .i64 (takesN k), .int .i64 (leavesN k), .int .i64 (costsN k), .bool false] 25) 0)
  have hg := heap_alloc_new w (.cells #[.int .i64 k, .string (nameB k), .int .i64 (takesN k), .int .i64 (leavesN k), .int .i64 (costsN k), .bool false] 25)
  have HG := Lib.hid hg
  have hP := h.lt
  have c3 := h.cells.2.2.2.1
  have hpc0 := h.ok.pc0
  have hpc1 := h.ok.pc1
  clear h hg
  go_enter Tryd.func71, Tryd.ntmps71
  go_upto_region 1 with fail
  have HN := Lib.hid (needV (w := (w.alloc (.cells #[.int .i64 k, .string (nameB k), .int .i64 (takesN k), .int .i64 (leavesN k), .int .i64 (costsN k), .bool false] 25)).drew) (G := own1 w G 0) (i := i) (D := D) s.d (takesN k) (leavesN k) H0.out.tr.drew.pu H0.out.ok.gd.dl (by have := takes_le k h64; omega) (by have := leaves_le k h64; omega))
  have cc3 := H0.out.drew.cells.2.2.2.1
  have e2 := block_cell HG.out 2 _ rfl
  have e3 := block_cell HG.out 3 _ rfl
  go_region_held3 (fun w' => w'.cell? ⟨P, 3, none⟩ = some (.pointer (some ⟨D, 0, none⟩)) ∧ w'.cell? ⟨w.heap.size, 2, none⟩ = some (.int .i64 (takesN k)) ∧ w'.cell? ⟨w.heap.size, 3, none⟩ = some (.int .i64 (leavesN k))) (first | exact ⟨cc3, e2, e3⟩ | exact Q1.out)
    ((go_at_call 55; refine HN.out.mono ?_; rintro e w1 ⟨rfl, G1, a1⟩; have hb1 := (a1.keep w.heap.size (Array.getElem?_eq_some_iff.1 HG.out).1 id).trans HG.out; have HB1 := Lib.hid hb1; have H1 := Lib.hid (H0.out.drew.still a1); have A1 := Lib.hid (HA.out.drew.trans a1); have Q1 := Lib.hid (And.intro H1.out.cells.2.2.2.1 (And.intro (block_cell hb1 2 _ rfl) (block_cell hb1 3 _ rfl))); clear a1 hb1))
  clear c3 cc3 e2 e3 hP
  clear HG
  go_wp2
  go_ret
  exact ⟨rfl, G1, A1.out.mono fun _ h => h.elim, H1.out⟩
set_option maxRecDepth 100000 in
set_option maxHeartbeats 1000000 in
theorem does_4 (o : Own4 p i j q) (h : VM w G p i j q P D R M code s) (x : Int) (hx0 : 0 ≤ x) (hx1 : x < 65536) (hn : needF s.d.length 0 0 = 0) : Calls Tryd.prog 71 #[.pointer (some ⟨P, 0, none⟩), primV 4, .int .u16 x] w (LeftV p i j q P D R M code w G { s with pc := x } (.int .i64 0)) := by
  have hrow : primV 4 = .agg #[.int .i64 4, .string (nameB 4), .int .i64 0, .int .i64 0, .int .i64 2, .bool true] := by kernel_rfl
  rw [hrow]
  clear hrow
  have HA := Lib.hid ((Adv.refl (fun _ => False) w G).alloc (.cells #[.int .i64 4, .string (nameB 4), .int .i64 0, .int .i64 0, .int .i64 2, .bool true] 25) 0)
  have H0 := Lib.hid (h.alloc (.cells #[.int .i64 4, .string (nameB 4), .int .i64 0, .int .i64 0, .int .i64 2, .bool true] 25) 0)
  have hg := heap_alloc_new w (.cells #[.int .i64 4, .string (nameB 4), .int .i64 0, .int .i64 0, .int .i64 2, .bool true] 25)
  have HG := Lib.hid hg
  have hP := h.lt
  have c3 := h.cells.2.2.2.1
  have hpc0 := h.ok.pc0
  have hpc1 := h.ok.pc1
  clear h hg
  go_enter Tryd.func71, Tryd.ntmps71
  go_upto_region 1 with fail
  have HN := Lib.hid (needV (w := (w.alloc (.cells #[.int .i64 4, .string (nameB 4), .int .i64 0, .int .i64 0, .int .i64 2, .bool true] 25)).drew) (G := own1 w G 0) (i := i) (D := D) s.d 0 0 H0.out.tr.drew.pu H0.out.ok.gd.dl (by decide) (by decide))
  have cc3 := H0.out.drew.cells.2.2.2.1
  have e2 := block_cell HG.out 2 _ rfl
  have e3 := block_cell HG.out 3 _ rfl
  go_region_held3 (fun w' => w'.cell? ⟨P, 3, none⟩ = some (.pointer (some ⟨D, 0, none⟩)) ∧ w'.cell? ⟨w.heap.size, 2, none⟩ = some (.int .i64 0) ∧ w'.cell? ⟨w.heap.size, 3, none⟩ = some (.int .i64 0)) (first | exact ⟨cc3, e2, e3⟩ | exact Q1.out)
    ((go_at_call 55; refine HN.out.mono ?_; rintro e w1 ⟨rfl, G1, a1⟩; have hb1 := (a1.keep w.heap.size (Array.getElem?_eq_some_iff.1 HG.out).1 id).trans HG.out; have HB1 := Lib.hid hb1; have H1 := Lib.hid (H0.out.drew.still a1); have A1 := Lib.hid (HA.out.drew.trans a1); have Q1 := Lib.hid (And.intro H1.out.cells.2.2.2.1 (And.intro (block_cell hb1 2 _ rfl) (block_cell hb1 3 _ rfl))); clear a1 hb1))
  clear c3 cc3 e2 e3 hP
  clear hn
  have b0 := block_cell HB1.out 0 _ rfl
  have b5 := block_cell HB1.out 5 _ rfl
  obtain ⟨c0, c1, c2, c3, c4, c6⟩ := H1.out.cells
  have f0 := H1.out.free 0
  have f1 := H1.out.free 1
  have hw := wrap_u16_mod (s.pc + 2)
  have hw2 := wrap_u16_mod ((s.pc + 2) % 65536 + 2)
  have hw3 := wrap_u16_mod (s.pc + 2 + 2)
  go_wp2
  go_ret
  have z := H1.out.setPc o x hx0 hx1
  exact ⟨rfl, G1, (A1.out.mono fun _ h => h.elim).trans z.1, z.2⟩
set_option maxRecDepth 100000 in
set_option maxHeartbeats 1000000 in
theorem does_10 (o : Own4 p i j q) (h : VM w G p i j q P D R M code s) (x : Int) (hx0 : 0 ≤ x) (hx1 : x < 65536) (hn : needF s.d.length 0 0 = 0) : Calls Tryd.prog 71 #[.pointer (some ⟨P, 0, none⟩), primV 10, .int .u16 x] w (LeftV p i j q P D R M code w G { s with pc := (s.pc + 2) % 65536 } (.int .i64 0)) := by
  have hrow : primV 10 = .agg #[.int .i64 10, .string (nameB 10), .int .i64 0, .int .i64 0, .int .i64 1, .bool false] := by kernel_rfl
  rw [hrow]
  clear hrow
  have HA := Lib.hid ((Adv.refl (fun _ => False) w G).alloc (.cells #[.int .i64 10, .string (nameB 10), .int .i64 0, .int .i64 0, .int .i64 1, .bool false] 25) 0)
  have H0 := Lib.hid (h.alloc (.cells #[.int .i64 10, .string (nameB 10), .int .i64 0, .int .i64 0, .int .i64 1, .bool false] 25) 0)
  have hg := heap_alloc_new w (.cells #[.int .i64 10, .string (nameB 10), .int .i64 0, .int .i64 0, .int .i64 1, .bool false] 25)
  have HG := Lib.hid hg
  have hP := h.lt
  have c3 := h.cells.2.2.2.1
  have hpc0 := h.ok.pc0
  have hpc1 := h.ok.pc1
  clear h hg
  go_enter Tryd.func71, Tryd.ntmps71
  go_upto_region 1 with fail
  have HN := Lib.hid (needV (w := (w.alloc (.cells #[.int .i64 10, .string (nameB 10), .int .i64 0, .int .i64 0, .int .i64 1, .bool false] 25)).drew) (G := own1 w G 0) (i := i) (D := D) s.d 0 0 H0.out.tr.drew.pu H0.out.ok.gd.dl (by decide) (by decide))
  have cc3 := H0.out.drew.cells.2.2.2.1
  have e2 := block_cell HG.out 2 _ rfl
  have e3 := block_cell HG.out 3 _ rfl
  go_region_held3 (fun w' => w'.cell? ⟨P, 3, none⟩ = some (.pointer (some ⟨D, 0, none⟩)) ∧ w'.cell? ⟨w.heap.size, 2, none⟩ = some (.int .i64 0) ∧ w'.cell? ⟨w.heap.size, 3, none⟩ = some (.int .i64 0)) (first | exact ⟨cc3, e2, e3⟩ | exact Q1.out)
    ((go_at_call 55; refine HN.out.mono ?_; rintro e w1 ⟨rfl, G1, a1⟩; have hb1 := (a1.keep w.heap.size (Array.getElem?_eq_some_iff.1 HG.out).1 id).trans HG.out; have HB1 := Lib.hid hb1; have H1 := Lib.hid (H0.out.drew.still a1); have A1 := Lib.hid (HA.out.drew.trans a1); have Q1 := Lib.hid (And.intro H1.out.cells.2.2.2.1 (And.intro (block_cell hb1 2 _ rfl) (block_cell hb1 3 _ rfl))); clear a1 hb1))
  clear c3 cc3 e2 e3 hP
  clear hn
  have b0 := block_cell HB1.out 0 _ rfl
  have b5 := block_cell HB1.out 5 _ rfl
  obtain ⟨c0, c1, c2, c3, c4, c6⟩ := H1.out.cells
  have f0 := H1.out.free 0
  have f1 := H1.out.free 1
  have hw := wrap_u16_mod (s.pc + 2)
  go_wp2
  go_ret
  have z := H1.out.setPc o ((s.pc + 2) % 65536) (mod16 _).1 (mod16 _).2
  exact ⟨rfl, G1, (A1.out.mono fun _ h => h.elim).trans z.1, z.2⟩
set_option maxRecDepth 100000 in
set_option maxHeartbeats 1000000 in
theorem does_11 (o : Own4 p i j q) (h : VM w G p i j q P D R M code s) (x : Int) (hx0 : 0 ≤ x) (hx1 : x < 65536) (hn : needF s.d.length 0 0 = 0) : Calls Tryd.prog 71 #[.pointer (some ⟨P, 0, none⟩), primV 11, .int .u16 x] w (LeftV p i j q P D R M code w G { s with st := 2, pc := (s.pc + 2) % 65536 } (.int .i64 0)) := by
  have hrow : primV 11 = .agg #[.int .i64 11, .string (nameB 11), .int .i64 0, .int .i64 0, .int .i64 1, .bool false] := by kernel_rfl
  rw [hrow]
  clear hrow
  have HA := Lib.hid ((Adv.refl (fun _ => False) w G).alloc (.cells #[.int .i64 11, .string (nameB 11), .int .i64 0, .int .i64 0, .int .i64 1, .bool false] 25) 0)
  have H0 := Lib.hid (h.alloc (.cells #[.int .i64 11, .string (nameB 11), .int .i64 0, .int .i64 0, .int .i64 1, .bool false] 25) 0)
  have hg := heap_alloc_new w (.cells #[.int .i64 11, .string (nameB 11), .int .i64 0, .int .i64 0, .int .i64 1, .bool false] 25)
  have HG := Lib.hid hg
  have hP := h.lt
  have c3 := h.cells.2.2.2.1
  have hpc0 := h.ok.pc0
  have hpc1 := h.ok.pc1
  clear h hg
  go_enter Tryd.func71, Tryd.ntmps71
  go_upto_region 1 with fail
  have HN := Lib.hid (needV (w := (w.alloc (.cells #[.int .i64 11, .string (nameB 11), .int .i64 0, .int .i64 0, .int .i64 1, .bool false] 25)).drew) (G := own1 w G 0) (i := i) (D := D) s.d 0 0 H0.out.tr.drew.pu H0.out.ok.gd.dl (by decide) (by decide))
  have cc3 := H0.out.drew.cells.2.2.2.1
  have e2 := block_cell HG.out 2 _ rfl
  have e3 := block_cell HG.out 3 _ rfl
  go_region_held3 (fun w' => w'.cell? ⟨P, 3, none⟩ = some (.pointer (some ⟨D, 0, none⟩)) ∧ w'.cell? ⟨w.heap.size, 2, none⟩ = some (.int .i64 0) ∧ w'.cell? ⟨w.heap.size, 3, none⟩ = some (.int .i64 0)) (first | exact ⟨cc3, e2, e3⟩ | exact Q1.out)
    ((go_at_call 55; refine HN.out.mono ?_; rintro e w1 ⟨rfl, G1, a1⟩; have hb1 := (a1.keep w.heap.size (Array.getElem?_eq_some_iff.1 HG.out).1 id).trans HG.out; have HB1 := Lib.hid hb1; have H1 := Lib.hid (H0.out.drew.still a1); have A1 := Lib.hid (HA.out.drew.trans a1); have Q1 := Lib.hid (And.intro H1.out.cells.2.2.2.1 (And.intro (block_cell hb1 2 _ rfl) (block_cell hb1 3 _ rfl))); clear a1 hb1))
  clear c3 cc3 e2 e3 hP
  clear hn
  have b0 := block_cell HB1.out 0 _ rfl
  have b5 := block_cell HB1.out 5 _ rfl
  obtain ⟨c0, c1, c2, c3, c4, c6⟩ := H1.out.cells
  have f0 := H1.out.free 0
  have f1 := H1.out.free 1
  have hw := wrap_u16_mod (s.pc + 2)
  go_wp2
  go_ret
  have y := H1.out.setSt o 2
  have z := y.2.setPc o ((s.pc + 2) % 65536) (mod16 _).1 (mod16 _).2
  exact ⟨rfl, G1, (A1.out.mono fun _ h => h.elim).trans (y.1.trans z.1), z.2⟩
set_option maxRecDepth 100000 in
set_option maxHeartbeats 1000000 in
theorem does_2 (o : Own4 p i j q) (h : VM w G p i j q P D R M code s) (x : Int) (hx0 : 0 ≤ x) (hx1 : x < 65536) (hn : needF s.d.length 0 1 = 0) (hroom : s.d.length + 1 ≤ 256) : Calls Tryd.prog 71 #[.pointer (some ⟨P, 0, none⟩), primV 2, .int .u16 x] w (LeftV p i j q P D R M code w G { s with d := s.d ++ [x], pc := ((s.pc + 2) % 65536) } (.int .i64 0)) := by
  have hrow : primV 2 = .agg #[.int .i64 2, .string (nameB 2), .int .i64 0, .int .i64 1, .int .i64 2, .bool false] := by kernel_rfl
  rw [hrow]
  clear hrow
  have HA := Lib.hid ((Adv.refl (fun _ => False) w G).alloc (.cells #[.int .i64 2, .string (nameB 2), .int .i64 0, .int .i64 1, .int .i64 2, .bool false] 25) 0)
  have H0 := Lib.hid (h.alloc (.cells #[.int .i64 2, .string (nameB 2), .int .i64 0, .int .i64 1, .int .i64 2, .bool false] 25) 0)
  have hg := heap_alloc_new w (.cells #[.int .i64 2, .string (nameB 2), .int .i64 0, .int .i64 1, .int .i64 2, .bool false] 25)
  have HG := Lib.hid hg
  have hP := h.lt
  have c3 := h.cells.2.2.2.1
  have hpc0 := h.ok.pc0
  have hpc1 := h.ok.pc1
  clear h hg
  go_enter Tryd.func71, Tryd.ntmps71
  go_upto_region 1 with fail
  have HN := Lib.hid (needV (w := (w.alloc (.cells #[.int .i64 2, .string (nameB 2), .int .i64 0, .int .i64 1, .int .i64 2, .bool false] 25)).drew) (G := own1 w G 0) (i := i) (D := D) s.d 0 1 H0.out.tr.drew.pu H0.out.ok.gd.dl (by decide) (by decide))
  have cc3 := H0.out.drew.cells.2.2.2.1
  have e2 := block_cell HG.out 2 _ rfl
  have e3 := block_cell HG.out 3 _ rfl
  go_region_held3 (fun w' => w'.cell? ⟨P, 3, none⟩ = some (.pointer (some ⟨D, 0, none⟩)) ∧ w'.cell? ⟨w.heap.size, 2, none⟩ = some (.int .i64 0) ∧ w'.cell? ⟨w.heap.size, 3, none⟩ = some (.int .i64 1)) (first | exact ⟨cc3, e2, e3⟩ | exact Q1.out)
    ((go_at_call 55; refine HN.out.mono ?_; rintro e w1 ⟨rfl, G1, a1⟩; have hb1 := (a1.keep w.heap.size (Array.getElem?_eq_some_iff.1 HG.out).1 id).trans HG.out; have HB1 := Lib.hid hb1; have H1 := Lib.hid (H0.out.drew.still a1); have A1 := Lib.hid (HA.out.drew.trans a1); have Q1 := Lib.hid (And.intro H1.out.cells.2.2.2.1 (And.intro (block_cell hb1 2 _ rfl) (block_cell hb1 3 _ rfl))); clear a1 hb1))
  clear c3 cc3 e2 e3 hP
  clear hn
  have b0 := block_cell HB1.out 0 _ rfl
  have b5 := block_cell HB1.out 5 _ rfl
  obtain ⟨c0, c1, c2, c3, c4, c6⟩ := H1.out.cells
  have f0 := H1.out.free 0
  have f1 := H1.out.free 1
  have hw := wrap_u16_mod (s.pc + 2)
  go_wp2_with fail
  refine (Trio.push (l := [x]) o.o3 (H1.out.tr.alloc (.cells #[.int .u16 x] 41) 0) (some ⟨w1.heap.size, 0, none⟩) 1 1 rfl hroom (Reads.new w1 (cellsU [x]) 41)).mono ?_
  rintro e w2 ⟨rfl, G2, a2, t2⟩
  have H2 := Lib.hid (VM.next o (H1.out.alloc (.cells #[.int .u16 x] 41) 0) a2 t2 ⟨⟨H1.out.ok.gd.d16.append (D16.one ⟨hx0, hx1⟩), H1.out.ok.gd.r16, by simp; omega, H1.out.ok.gd.rl, H1.out.ok.gd.mo, H1.out.ok.gd.mr⟩, hpc0, hpc1, H1.out.ok.cb, H1.out.ok.cl⟩)
  have A2 := Lib.hid (((A1.out.alloc (.cells #[.int .u16 x] 41) 0).mono fun _ h => h.elim).trans (a2.mono (S3_S4 (p := p))))
  clear a2 t2 c0 c1 c2 c3 c4 c6 f0 f1
  obtain ⟨c0, -⟩ := H2.out.cells
  have f0 := H2.out.free 0
  go_wp2
  go_ret
  have z := H2.out.setPc o ((s.pc + 2) % 65536) (mod16 _).1 (mod16 _).2
  exact ⟨rfl, G2, A2.out.trans z.1, z.2⟩
set_option maxRecDepth 100000 in
set_option maxHeartbeats 1000000 in
theorem does_3 (o : Own4 p i j q) (h : VM w G p i j q P D R M code s) (x : Int) (hx0 : 0 ≤ x) (hx1 : x < 65536) (hn : needF s.d.length 0 1 = 0) (hroom : s.d.length + 1 ≤ 256) : Calls Tryd.prog 71 #[.pointer (some ⟨P, 0, none⟩), primV 3, .int .u16 x] w (LeftV p i j q P D R M code w G { s with d := s.d ++ [x], pc := ((s.pc + 2 + 2) % 65536) } (.int .i64 0)) := by
  have hrow : primV 3 = .agg #[.int .i64 3, .string (nameB 3), .int .i64 0, .int .i64 1, .int .i64 2, .bool true] := by kernel_rfl
  rw [hrow]
  clear hrow
  have HA := Lib.hid ((Adv.refl (fun _ => False) w G).alloc (.cells #[.int .i64 3, .string (nameB 3), .int .i64 0, .int .i64 1, .int .i64 2, .bool true] 25) 0)
  have H0 := Lib.hid (h.alloc (.cells #[.int .i64 3, .string (nameB 3), .int .i64 0, .int .i64 1, .int .i64 2, .bool true] 25) 0)
  have hg := heap_alloc_new w (.cells #[.int .i64 3, .string (nameB 3), .int .i64 0, .int .i64 1, .int .i64 2, .bool true] 25)
  have HG := Lib.hid hg
  have hP := h.lt
  have c3 := h.cells.2.2.2.1
  have hpc0 := h.ok.pc0
  have hpc1 := h.ok.pc1
  clear h hg
  go_enter Tryd.func71, Tryd.ntmps71
  go_upto_region 1 with fail
  have HN := Lib.hid (needV (w := (w.alloc (.cells #[.int .i64 3, .string (nameB 3), .int .i64 0, .int .i64 1, .int .i64 2, .bool true] 25)).drew) (G := own1 w G 0) (i := i) (D := D) s.d 0 1 H0.out.tr.drew.pu H0.out.ok.gd.dl (by decide) (by decide))
  have cc3 := H0.out.drew.cells.2.2.2.1
  have e2 := block_cell HG.out 2 _ rfl
  have e3 := block_cell HG.out 3 _ rfl
  go_region_held3 (fun w' => w'.cell? ⟨P, 3, none⟩ = some (.pointer (some ⟨D, 0, none⟩)) ∧ w'.cell? ⟨w.heap.size, 2, none⟩ = some (.int .i64 0) ∧ w'.cell? ⟨w.heap.size, 3, none⟩ = some (.int .i64 1)) (first | exact ⟨cc3, e2, e3⟩ | exact Q1.out)
    ((go_at_call 55; refine HN.out.mono ?_; rintro e w1 ⟨rfl, G1, a1⟩; have hb1 := (a1.keep w.heap.size (Array.getElem?_eq_some_iff.1 HG.out).1 id).trans HG.out; have HB1 := Lib.hid hb1; have H1 := Lib.hid (H0.out.drew.still a1); have A1 := Lib.hid (HA.out.drew.trans a1); have Q1 := Lib.hid (And.intro H1.out.cells.2.2.2.1 (And.intro (block_cell hb1 2 _ rfl) (block_cell hb1 3 _ rfl))); clear a1 hb1))
  clear c3 cc3 e2 e3 hP
  clear hn
  have b0 := block_cell HB1.out 0 _ rfl
  have b5 := block_cell HB1.out 5 _ rfl
  obtain ⟨c0, c1, c2, c3, c4, c6⟩ := H1.out.cells
  have f0 := H1.out.free 0
  have f1 := H1.out.free 1
  have hw := wrap_u16_mod (s.pc + 2)
  have hw2 := wrap_u16_mod ((s.pc + 2) % 65536 + 2)
  have hw3 := wrap_u16_mod (s.pc + 2 + 2)
  go_wp2_with fail
  refine (Trio.push (l := [x]) o.o3 (H1.out.tr.alloc (.cells #[.int .u16 x] 41) 0) (some ⟨w1.heap.size, 0, none⟩) 1 1 rfl hroom (Reads.new w1 (cellsU [x]) 41)).mono ?_
  rintro e w2 ⟨rfl, G2, a2, t2⟩
  have H2 := Lib.hid (VM.next o (H1.out.alloc (.cells #[.int .u16 x] 41) 0) a2 t2 ⟨⟨H1.out.ok.gd.d16.append (D16.one ⟨hx0, hx1⟩), H1.out.ok.gd.r16, by simp; omega, H1.out.ok.gd.rl, H1.out.ok.gd.mo, H1.out.ok.gd.mr⟩, hpc0, hpc1, H1.out.ok.cb, H1.out.ok.cl⟩)
  have A2 := Lib.hid (((A1.out.alloc (.cells #[.int .u16 x] 41) 0).mono fun _ h => h.elim).trans (a2.mono (S3_S4 (p := p))))
  clear a2 t2 c0 c1 c2 c3 c4 c6 f0 f1
  obtain ⟨c0, -⟩ := H2.out.cells
  have f0 := H2.out.free 0
  go_wp2
  go_ret
  have z := H2.out.setPc o ((s.pc + 2 + 2) % 65536) (mod16 _).1 (mod16 _).2
  exact ⟨rfl, G2, A2.out.trans z.1, z.2⟩
set_option maxRecDepth 100000 in
set_option maxHeartbeats 1000000 in
theorem does_5a (o : Own4 p i j q) (h : VM w G p i j q P D R M code s) (x : Int) (hx0 : 0 ≤ x) (hx1 : x < 65536) (hn : needF s.d.length 1 0 = 0) (b : List Int) (y : Int) (hd : Hid (s.d = b ++ [y])) (hy : (y != 0) = true) : Calls Tryd.prog 71 #[.pointer (some ⟨P, 0, none⟩), primV 5, .int .u16 x] w (LeftV p i j q P D R M code w G { s with d := b, pc := ((s.pc + 2 + 2) % 65536) } (.int .i64 0)) := by
  have hrow : primV 5 = .agg #[.int .i64 5, .string (nameB 5), .int .i64 1, .int .i64 0, .int .i64 2, .bool true] := by kernel_rfl
  rw [hrow]
  clear hrow
  have HA := Lib.hid ((Adv.refl (fun _ => False) w G).alloc (.cells #[.int .i64 5, .string (nameB 5), .int .i64 1, .int .i64 0, .int .i64 2, .bool true] 25) 0)
  have H0 := Lib.hid (h.alloc (.cells #[.int .i64 5, .string (nameB 5), .int .i64 1, .int .i64 0, .int .i64 2, .bool true] 25) 0)
  have hg := heap_alloc_new w (.cells #[.int .i64 5, .string (nameB 5), .int .i64 1, .int .i64 0, .int .i64 2, .bool true] 25)
  have HG := Lib.hid hg
  have hP := h.lt
  have c3 := h.cells.2.2.2.1
  have hpc0 := h.ok.pc0
  have hpc1 := h.ok.pc1
  clear h hg
  go_enter Tryd.func71, Tryd.ntmps71
  go_upto_region 1 with fail
  have HN := Lib.hid (needV (w := (w.alloc (.cells #[.int .i64 5, .string (nameB 5), .int .i64 1, .int .i64 0, .int .i64 2, .bool true] 25)).drew) (G := own1 w G 0) (i := i) (D := D) s.d 1 0 H0.out.tr.drew.pu H0.out.ok.gd.dl (by decide) (by decide))
  have cc3 := H0.out.drew.cells.2.2.2.1
  have e2 := block_cell HG.out 2 _ rfl
  have e3 := block_cell HG.out 3 _ rfl
  go_region_held3 (fun w' => w'.cell? ⟨P, 3, none⟩ = some (.pointer (some ⟨D, 0, none⟩)) ∧ w'.cell? ⟨w.heap.size, 2, none⟩ = some (.int .i64 1) ∧ w'.cell? ⟨w.heap.size, 3, none⟩ = some (.int .i64 0)) (first | exact ⟨cc3, e2, e3⟩ | exact Q1.out)
    ((go_at_call 55; refine HN.out.mono ?_; rintro e w1 ⟨rfl, G1, a1⟩; have hb1 := (a1.keep w.heap.size (Array.getElem?_eq_some_iff.1 HG.out).1 id).trans HG.out; have HB1 := Lib.hid hb1; have H1 := Lib.hid (H0.out.drew.still a1); have A1 := Lib.hid (HA.out.drew.trans a1); have Q1 := Lib.hid (And.intro H1.out.cells.2.2.2.1 (And.intro (block_cell hb1 2 _ rfl) (block_cell hb1 3 _ rfl))); clear a1 hb1))
  clear c3 cc3 e2 e3 hP
  clear hn
  have b0 := block_cell HB1.out 0 _ rfl
  have b5 := block_cell HB1.out 5 _ rfl
  obtain ⟨c0, c1, c2, c3, c4, c6⟩ := H1.out.cells
  have f0 := H1.out.free 0
  have f1 := H1.out.free 1
  have hw := wrap_u16_mod (s.pc + 2)
  have hw2 := wrap_u16_mod ((s.pc + 2) % 65536 + 2)
  have hw3 := wrap_u16_mod (s.pc + 2 + 2)
  have HT := Lib.hid (show Trio w1 G1 i j q D R M (b ++ [y]) s.r s.m from hd.out ▸ H1.out.tr)
  have HDB := hd
  clear hd
  go_wp2_with fail
  refine (HT.out.pop o.o3).mono ?_
  rintro e w2 ⟨rfl, G2, a2, t2⟩
  have H2 := Lib.hid (VM.next o H1.out a2 t2 ⟨⟨(HDB.out ▸ H1.out.ok.gd.d16 : D16 (b ++ [y])).left, H1.out.ok.gd.r16, (show b.length ≤ 256 by have := H1.out.ok.gd.dl; rw [HDB.out] at this; simp at this; omega), H1.out.ok.gd.rl, H1.out.ok.gd.mo, H1.out.ok.gd.mr⟩, hpc0, hpc1, H1.out.ok.cb, H1.out.ok.cl⟩)
  have A2 := Lib.hid ((A1.out.mono fun _ h => h.elim).trans (a2.mono (S3_S4 (p := p))))
  clear a2 t2 c0 c1 c2 c3 c4 c6 f0 f1
  obtain ⟨c0, -⟩ := H2.out.cells
  have f0 := H2.out.free 0
  go_wp2
  go_ret
  have z := H2.out.setPc o ((s.pc + 2 + 2) % 65536) (mod16 _).1 (mod16 _).2
  exact ⟨rfl, G2, A2.out.trans z.1, z.2⟩
set_option maxRecDepth 100000 in
set_option maxHeartbeats 1000000 in
theorem does_5b (o : Own4 p i j q) (h : VM w G p i j q P D R M code s) (x : Int) (hx0 : 0 ≤ x) (hx1 : x < 65536) (hn : needF s.d.length 1 0 = 0) (b : List Int) (y : Int) (hd : Hid (s.d = b ++ [y])) (hy : (y != 0) = false) : Calls Tryd.prog 71 #[.pointer (some ⟨P, 0, none⟩), primV 5, .int .u16 x] w (LeftV p i j q P D R M code w G { s with d := b, pc := x } (.int .i64 0)) := by
  have hrow : primV 5 = .agg #[.int .i64 5, .string (nameB 5), .int .i64 1, .int .i64 0, .int .i64 2, .bool true] := by kernel_rfl
  rw [hrow]
  clear hrow
  have HA := Lib.hid ((Adv.refl (fun _ => False) w G).alloc (.cells #[.int .i64 5, .string (nameB 5), .int .i64 1, .int .i64 0, .int .i64 2, .bool true] 25) 0)
  have H0 := Lib.hid (h.alloc (.cells #[.int .i64 5, .string (nameB 5), .int .i64 1, .int .i64 0, .int .i64 2, .bool true] 25) 0)
  have hg := heap_alloc_new w (.cells #[.int .i64 5, .string (nameB 5), .int .i64 1, .int .i64 0, .int .i64 2, .bool true] 25)
  have HG := Lib.hid hg
  have hP := h.lt
  have c3 := h.cells.2.2.2.1
  have hpc0 := h.ok.pc0
  have hpc1 := h.ok.pc1
  clear h hg
  go_enter Tryd.func71, Tryd.ntmps71
  go_upto_region 1 with fail
  have HN := Lib.hid (needV (w := (w.alloc (.cells #[.int .i64 5, .string (nameB 5), .int .i64 1, .int .i64 0, .int .i64 2, .bool true] 25)).drew) (G := own1 w G 0) (i := i) (D := D) s.d 1 0 H0.out.tr.drew.pu H0.out.ok.gd.dl (by decide) (by decide))
  have cc3 := H0.out.drew.cells.2.2.2.1
  have e2 := block_cell HG.out 2 _ rfl
  have e3 := block_cell HG.out 3 _ rfl
  go_region_held3 (fun w' => w'.cell? ⟨P, 3, none⟩ = some (.pointer (some ⟨D, 0, none⟩)) ∧ w'.cell? ⟨w.heap.size, 2, none⟩ = some (.int .i64 1) ∧ w'.cell? ⟨w.heap.size, 3, none⟩ = some (.int .i64 0)) (first | exact ⟨cc3, e2, e3⟩ | exact Q1.out)
    ((go_at_call 55; refine HN.out.mono ?_; rintro e w1 ⟨rfl, G1, a1⟩; have hb1 := (a1.keep w.heap.size (Array.getElem?_eq_some_iff.1 HG.out).1 id).trans HG.out; have HB1 := Lib.hid hb1; have H1 := Lib.hid (H0.out.drew.still a1); have A1 := Lib.hid (HA.out.drew.trans a1); have Q1 := Lib.hid (And.intro H1.out.cells.2.2.2.1 (And.intro (block_cell hb1 2 _ rfl) (block_cell hb1 3 _ rfl))); clear a1 hb1))
  clear c3 cc3 e2 e3 hP
  clear hn
  have b0 := block_cell HB1.out 0 _ rfl
  have b5 := block_cell HB1.out 5 _ rfl
  obtain ⟨c0, c1, c2, c3, c4, c6⟩ := H1.out.cells
  have f0 := H1.out.free 0
  have f1 := H1.out.free 1
  have hw := wrap_u16_mod (s.pc + 2)
  have hw2 := wrap_u16_mod ((s.pc + 2) % 65536 + 2)
  have hw3 := wrap_u16_mod (s.pc + 2 + 2)
  have HT := Lib.hid (show Trio w1 G1 i j q D R M (b ++ [y]) s.r s.m from hd.out ▸ H1.out.tr)
  have HDB := hd
  clear hd
  go_wp2_with fail
  refine (HT.out.pop o.o3).mono ?_
  rintro e w2 ⟨rfl, G2, a2, t2⟩
  have H2 := Lib.hid (VM.next o H1.out a2 t2 ⟨⟨(HDB.out ▸ H1.out.ok.gd.d16 : D16 (b ++ [y])).left, H1.out.ok.gd.r16, (show b.length ≤ 256 by have := H1.out.ok.gd.dl; rw [HDB.out] at this; simp at this; omega), H1.out.ok.gd.rl, H1.out.ok.gd.mo, H1.out.ok.gd.mr⟩, hpc0, hpc1, H1.out.ok.cb, H1.out.ok.cl⟩)
  have A2 := Lib.hid ((A1.out.mono fun _ h => h.elim).trans (a2.mono (S3_S4 (p := p))))
  clear a2 t2 c0 c1 c2 c3 c4 c6 f0 f1
  obtain ⟨c0, -⟩ := H2.out.cells
  have f0 := H2.out.free 0
  go_wp2
  go_ret
  have z := H2.out.setPc o x hx0 hx1
  exact ⟨rfl, G2, A2.out.trans z.1, z.2⟩
set_option maxRecDepth 100000 in
set_option maxHeartbeats 1000000 in
theorem does_1 (o : Own4 p i j q) (h : VM w G p i j q P D R M code s) (x : Int) (hx0 : 0 ≤ x) (hx1 : x < 65536) (hn : needF s.d.length 0 0 = 0) (hroom : s.r.length + 1 ≤ 128) : Calls Tryd.prog 71 #[.pointer (some ⟨P, 0, none⟩), primV 1, .int .u16 x] w (LeftV p i j q P D R M code w G { s with r := s.r ++ [(1, (s.pc + 2) % 65536)], pc := x } (.int .i64 0)) := by
  have hrow : primV 1 = .agg #[.int .i64 1, .string (nameB 1), .int .i64 0, .int .i64 0, .int .i64 2, .bool false] := by kernel_rfl
  rw [hrow]
  clear hrow
  have HA := Lib.hid ((Adv.refl (fun _ => False) w G).alloc (.cells #[.int .i64 1, .string (nameB 1), .int .i64 0, .int .i64 0, .int .i64 2, .bool false] 25) 0)
  have H0 := Lib.hid (h.alloc (.cells #[.int .i64 1, .string (nameB 1), .int .i64 0, .int .i64 0, .int .i64 2, .bool false] 25) 0)
  have hg := heap_alloc_new w (.cells #[.int .i64 1, .string (nameB 1), .int .i64 0, .int .i64 0, .int .i64 2, .bool false] 25)
  have HG := Lib.hid hg
  have hP := h.lt
  have c3 := h.cells.2.2.2.1
  have hpc0 := h.ok.pc0
  have hpc1 := h.ok.pc1
  clear h hg
  go_enter Tryd.func71, Tryd.ntmps71
  go_upto_region 1 with fail
  have HN := Lib.hid (needV (w := (w.alloc (.cells #[.int .i64 1, .string (nameB 1), .int .i64 0, .int .i64 0, .int .i64 2, .bool false] 25)).drew) (G := own1 w G 0) (i := i) (D := D) s.d 0 0 H0.out.tr.drew.pu H0.out.ok.gd.dl (by decide) (by decide))
  have cc3 := H0.out.drew.cells.2.2.2.1
  have e2 := block_cell HG.out 2 _ rfl
  have e3 := block_cell HG.out 3 _ rfl
  go_region_held3 (fun w' => w'.cell? ⟨P, 3, none⟩ = some (.pointer (some ⟨D, 0, none⟩)) ∧ w'.cell? ⟨w.heap.size, 2, none⟩ = some (.int .i64 0) ∧ w'.cell? ⟨w.heap.size, 3, none⟩ = some (.int .i64 0)) (first | exact ⟨cc3, e2, e3⟩ | exact Q1.out)
    ((go_at_call 55; refine HN.out.mono ?_; rintro e w1 ⟨rfl, G1, a1⟩; have hb1 := (a1.keep w.heap.size (Array.getElem?_eq_some_iff.1 HG.out).1 id).trans HG.out; have HB1 := Lib.hid hb1; have H1 := Lib.hid (H0.out.drew.still a1); have A1 := Lib.hid (HA.out.drew.trans a1); have Q1 := Lib.hid (And.intro H1.out.cells.2.2.2.1 (And.intro (block_cell hb1 2 _ rfl) (block_cell hb1 3 _ rfl))); clear a1 hb1))
  clear c3 cc3 e2 e3 hP
  clear hn
  have b0 := block_cell HB1.out 0 _ rfl
  have b5 := block_cell HB1.out 5 _ rfl
  obtain ⟨c0, c1, c2, c3, c4, c6⟩ := H1.out.cells
  have f0 := H1.out.free 0
  have f1 := H1.out.free 1
  have hw := wrap_u16_mod (s.pc + 2)
  have n0 := (mod16 (s.pc + 2)).1
  have n1 := (mod16 (s.pc + 2)).2
  go_wp2_with fail
  refine (Trio.pushR (l := [(1, (s.pc + 2) % 65536)]) o.o3 (H1.out.tr.alloc (.cells #[.int .i64 1, .int .u16 ((s.pc + 2) % 65536)] 59) 0) (some ⟨w1.heap.size, 0, none⟩) 1 1 rfl hroom (Reads.new w1 (cellsR [(1, (s.pc + 2) % 65536)]) 59)).mono ?_
  rintro e w2 ⟨rfl, G2, a2, t2⟩
  have H2 := Lib.hid (VM.next o (H1.out.alloc (.cells #[.int .i64 1, .int .u16 ((s.pc + 2) % 65536)] 59) 0) a2 t2 ⟨⟨H1.out.ok.gd.d16, H1.out.ok.gd.r16.append (R16.one ⟨n0, n1⟩), H1.out.ok.gd.dl, by simp; omega, H1.out.ok.gd.mo, H1.out.ok.gd.mr⟩, hpc0, hpc1, H1.out.ok.cb, H1.out.ok.cl⟩)
  have A2 := Lib.hid (((A1.out.alloc (.cells #[.int .i64 1, .int .u16 ((s.pc + 2) % 65536)] 59) 0).mono fun _ h => h.elim).trans (a2.mono (S3_S4 (p := p))))
  clear a2 t2 c0 c1 c2 c3 c4 c6 f0 f1
  obtain ⟨c0, -⟩ := H2.out.cells
  have f0 := H2.out.free 0
  go_wp2
  go_ret
  have z := H2.out.setPc o x hx0 hx1
  exact ⟨rfl, G2, A2.out.trans z.1, z.2⟩
set_option maxRecDepth 100000 in
set_option maxHeartbeats 1000000 in
theorem does_1_no (o : Own4 p i j q) (h : VM w G p i j q P D R M code s) (x : Int) (hx0 : 0 ≤ x) (hx1 : x < 65536) (hn : needF s.d.length 0 0 = 0) (hroom : 128 < s.r.length + 1) : Calls Tryd.prog 71 #[.pointer (some ⟨P, 0, none⟩), primV 1, .int .u16 x] w (LeftV p i j q P D R M code w G s (.int .i64 4)) := by
  have hrow : primV 1 = .agg #[.int .i64 1, .string (nameB 1), .int .i64 0, .int .i64 0, .int .i64 2, .bool false] := by kernel_rfl
  rw [hrow]
  clear hrow
  have HA := Lib.hid ((Adv.refl (fun _ => False) w G).alloc (.cells #[.int .i64 1, .string (nameB 1), .int .i64 0, .int .i64 0, .int .i64 2, .bool false] 25) 0)
  have H0 := Lib.hid (h.alloc (.cells #[.int .i64 1, .string (nameB 1), .int .i64 0, .int .i64 0, .int .i64 2, .bool false] 25) 0)
  have hg := heap_alloc_new w (.cells #[.int .i64 1, .string (nameB 1), .int .i64 0, .int .i64 0, .int .i64 2, .bool false] 25)
  have HG := Lib.hid hg
  have hP := h.lt
  have c3 := h.cells.2.2.2.1
  have hpc0 := h.ok.pc0
  have hpc1 := h.ok.pc1
  clear h hg
  go_enter Tryd.func71, Tryd.ntmps71
  go_upto_region 1 with fail
  have HN := Lib.hid (needV (w := (w.alloc (.cells #[.int .i64 1, .string (nameB 1), .int .i64 0, .int .i64 0, .int .i64 2, .bool false] 25)).drew) (G := own1 w G 0) (i := i) (D := D) s.d 0 0 H0.out.tr.drew.pu H0.out.ok.gd.dl (by decide) (by decide))
  have cc3 := H0.out.drew.cells.2.2.2.1
  have e2 := block_cell HG.out 2 _ rfl
  have e3 := block_cell HG.out 3 _ rfl
  go_region_held3 (fun w' => w'.cell? ⟨P, 3, none⟩ = some (.pointer (some ⟨D, 0, none⟩)) ∧ w'.cell? ⟨w.heap.size, 2, none⟩ = some (.int .i64 0) ∧ w'.cell? ⟨w.heap.size, 3, none⟩ = some (.int .i64 0)) (first | exact ⟨cc3, e2, e3⟩ | exact Q1.out)
    ((go_at_call 55; refine HN.out.mono ?_; rintro e w1 ⟨rfl, G1, a1⟩; have hb1 := (a1.keep w.heap.size (Array.getElem?_eq_some_iff.1 HG.out).1 id).trans HG.out; have HB1 := Lib.hid hb1; have H1 := Lib.hid (H0.out.drew.still a1); have A1 := Lib.hid (HA.out.drew.trans a1); have Q1 := Lib.hid (And.intro H1.out.cells.2.2.2.1 (And.intro (block_cell hb1 2 _ rfl) (block_cell hb1 3 _ rfl))); clear a1 hb1))
  clear c3 cc3 e2 e3 hP
  clear hn
  have b0 := block_cell HB1.out 0 _ rfl
  have b5 := block_cell HB1.out 5 _ rfl
  obtain ⟨c0, c1, c2, c3, c4, c6⟩ := H1.out.cells
  have f0 := H1.out.free 0
  have f1 := H1.out.free 1
  have hw := wrap_u16_mod (s.pc + 2)
  go_wp2_with fail
  refine (Trio.pushR_no o.o3 (H1.out.tr.alloc (.cells #[.int .i64 1, .int .u16 ((s.pc + 2) % 65536)] 59) 0) (some ⟨w1.heap.size, 0, none⟩) 1 1 H1.out.ok.gd.rl (by decide) hroom).mono ?_
  rintro e w2 ⟨rfl, G2, a2, t2⟩
  have H2 := Lib.hid (VM.next o (H1.out.alloc (.cells #[.int .i64 1, .int .u16 ((s.pc + 2) % 65536)] 59) 0) a2 t2 ⟨H1.out.ok.gd, hpc0, hpc1, H1.out.ok.cb, H1.out.ok.cl⟩)
  have A2 := Lib.hid (((A1.out.alloc (.cells #[.int .i64 1, .int .u16 ((s.pc + 2) % 65536)] 59) 0).mono fun _ h => h.elim).trans (a2.mono (S3_S4 (p := p))))
  clear a2 t2 c0 c1 c2 c3 c4 c6 f0 f1
  go_wp2
  go_ret
  exact ⟨rfl, G2, A2.out, H2.out⟩
set_option maxRecDepth 100000 in
set_option maxHeartbeats 1000000 in
theorem does_8_end (o : Own4 p i j q) (h : VM w G p i j q P D R M code s) (x : Int) (hx0 : 0 ≤ x) (hx1 : x < 65536) (hn : needF s.d.length 0 0 = 0) (hr : s.r.length = 0) : Calls Tryd.prog 71 #[.pointer (some ⟨P, 0, none⟩), primV 8, .int .u16 x] w (LeftV p i j q P D R M code w G { s with st := 2, pc := (s.pc + 2) % 65536 } (.int .i64 0)) := by
  have hrow : primV 8 = .agg #[.int .i64 8, .string (nameB 8), .int .i64 0, .int .i64 0, .int .i64 2, .bool false] := by kernel_rfl
  rw [hrow]
  clear hrow
  have HA := Lib.hid ((Adv.refl (fun _ => False) w G).alloc (.cells #[.int .i64 8, .string (nameB 8), .int .i64 0, .int .i64 0, .int .i64 2, .bool false] 25) 0)
  have H0 := Lib.hid (h.alloc (.cells #[.int .i64 8, .string (nameB 8), .int .i64 0, .int .i64 0, .int .i64 2, .bool false] 25) 0)
  have hg := heap_alloc_new w (.cells #[.int .i64 8, .string (nameB 8), .int .i64 0, .int .i64 0, .int .i64 2, .bool false] 25)
  have HG := Lib.hid hg
  have hP := h.lt
  have c3 := h.cells.2.2.2.1
  have hpc0 := h.ok.pc0
  have hpc1 := h.ok.pc1
  clear h hg
  go_enter Tryd.func71, Tryd.ntmps71
  go_upto_region 1 with fail
  have HN := Lib.hid (needV (w := (w.alloc (.cells #[.int .i64 8, .string (nameB 8), .int .i64 0, .int .i64 0, .int .i64 2, .bool false] 25)).drew) (G := own1 w G 0) (i := i) (D := D) s.d 0 0 H0.out.tr.drew.pu H0.out.ok.gd.dl (by decide) (by decide))
  have cc3 := H0.out.drew.cells.2.2.2.1
  have e2 := block_cell HG.out 2 _ rfl
  have e3 := block_cell HG.out 3 _ rfl
  go_region_held3 (fun w' => w'.cell? ⟨P, 3, none⟩ = some (.pointer (some ⟨D, 0, none⟩)) ∧ w'.cell? ⟨w.heap.size, 2, none⟩ = some (.int .i64 0) ∧ w'.cell? ⟨w.heap.size, 3, none⟩ = some (.int .i64 0)) (first | exact ⟨cc3, e2, e3⟩ | exact Q1.out)
    ((go_at_call 55; refine HN.out.mono ?_; rintro e w1 ⟨rfl, G1, a1⟩; have hb1 := (a1.keep w.heap.size (Array.getElem?_eq_some_iff.1 HG.out).1 id).trans HG.out; have HB1 := Lib.hid hb1; have H1 := Lib.hid (H0.out.drew.still a1); have A1 := Lib.hid (HA.out.drew.trans a1); have Q1 := Lib.hid (And.intro H1.out.cells.2.2.2.1 (And.intro (block_cell hb1 2 _ rfl) (block_cell hb1 3 _ rfl))); clear a1 hb1))
  clear c3 cc3 e2 e3 hP
  clear hn
  have b0 := block_cell HB1.out 0 _ rfl
  have b5 := block_cell HB1.out 5 _ rfl
  obtain ⟨c0, c1, c2, c3, c4, c6⟩ := H1.out.cells
  have f0 := H1.out.free 0
  have f1 := H1.out.free 1
  have hw := wrap_u16_mod (s.pc + 2)
  have HL := Lib.hid hr
  clear hr
  go_wp2_with fail
  refine (lenV s.r H1.out.tr.pr).mono ?_
  rintro e w2 ⟨rfl, G2, a2⟩
  rw [HL.out]
  have H2 := Lib.hid (H1.out.still a2)
  have A2 := Lib.hid ((A1.out.trans a2).mono (T := S4 p i j q) fun _ h => h.elim)
  clear a2 c0 c1 c2 c3 c4 c6 f0 f1
  obtain ⟨c0, c1, -⟩ := H2.out.cells
  have f0 := H2.out.free 0
  have f1 := H2.out.free 1
  go_wp2
  go_ret
  have y := H2.out.setSt o 2
  have z := y.2.setPc o ((s.pc + 2) % 65536) (mod16 _).1 (mod16 _).2
  exact ⟨rfl, G2, A2.out.trans (y.1.trans z.1), z.2⟩
set_option maxRecDepth 100000 in
set_option maxHeartbeats 1000000 in
theorem does_8 (o : Own4 p i j q) (h : VM w G p i j q P D R M code s) (x : Int) (hx0 : 0 ≤ x) (hx1 : x < 65536) (hn : needF s.d.length 0 0 = 0) (rb : List (Int × Int)) (y : Int) (hr : s.r = rb ++ [(1, y)]) : Calls Tryd.prog 71 #[.pointer (some ⟨P, 0, none⟩), primV 8, .int .u16 x] w (LeftV p i j q P D R M code w G { s with r := rb, pc := y } (.int .i64 0)) := by
  have hrow : primV 8 = .agg #[.int .i64 8, .string (nameB 8), .int .i64 0, .int .i64 0, .int .i64 2, .bool false] := by kernel_rfl
  rw [hrow]
  clear hrow
  have HA := Lib.hid ((Adv.refl (fun _ => False) w G).alloc (.cells #[.int .i64 8, .string (nameB 8), .int .i64 0, .int .i64 0, .int .i64 2, .bool false] 25) 0)
  have H0 := Lib.hid (h.alloc (.cells #[.int .i64 8, .string (nameB 8), .int .i64 0, .int .i64 0, .int .i64 2, .bool false] 25) 0)
  have hg := heap_alloc_new w (.cells #[.int .i64 8, .string (nameB 8), .int .i64 0, .int .i64 0, .int .i64 2, .bool false] 25)
  have HG := Lib.hid hg
  have hP := h.lt
  have c3 := h.cells.2.2.2.1
  have hpc0 := h.ok.pc0
  have hpc1 := h.ok.pc1
  clear h hg
  go_enter Tryd.func71, Tryd.ntmps71
  go_upto_region 1 with fail
  have HN := Lib.hid (needV (w := (w.alloc (.cells #[.int .i64 8, .string (nameB 8), .int .i64 0, .int .i64 0, .int .i64 2, .bool false] 25)).drew) (G := own1 w G 0) (i := i) (D := D) s.d 0 0 H0.out.tr.drew.pu H0.out.ok.gd.dl (by decide) (by decide))
  have cc3 := H0.out.drew.cells.2.2.2.1
  have e2 := block_cell HG.out 2 _ rfl
  have e3 := block_cell HG.out 3 _ rfl
  go_region_held3 (fun w' => w'.cell? ⟨P, 3, none⟩ = some (.pointer (some ⟨D, 0, none⟩)) ∧ w'.cell? ⟨w.heap.size, 2, none⟩ = some (.int .i64 0) ∧ w'.cell? ⟨w.heap.size, 3, none⟩ = some (.int .i64 0)) (first | exact ⟨cc3, e2, e3⟩ | exact Q1.out)
    ((go_at_call 55; refine HN.out.mono ?_; rintro e w1 ⟨rfl, G1, a1⟩; have hb1 := (a1.keep w.heap.size (Array.getElem?_eq_some_iff.1 HG.out).1 id).trans HG.out; have HB1 := Lib.hid hb1; have H1 := Lib.hid (H0.out.drew.still a1); have A1 := Lib.hid (HA.out.drew.trans a1); have Q1 := Lib.hid (And.intro H1.out.cells.2.2.2.1 (And.intro (block_cell hb1 2 _ rfl) (block_cell hb1 3 _ rfl))); clear a1 hb1))
  clear c3 cc3 e2 e3 hP
  clear hn
  have b0 := block_cell HB1.out 0 _ rfl
  have b5 := block_cell HB1.out 5 _ rfl
  obtain ⟨c0, c1, c2, c3, c4, c6⟩ := H1.out.cells
  have f0 := H1.out.free 0
  have f1 := H1.out.free 1
  have hw := wrap_u16_mod (s.pc + 2)
  have HRB := Lib.hid hr
  have hlen : 0 < s.r.length := by rw [hr]; simp
  have hlenI : decide (0 < (s.r.length : Int)) = true := by simp; omega
  have hy : 0 ≤ y ∧ y < 65536 := H1.out.ok.gd.r16 (1, y) (by rw [hr]; simp)
  obtain ⟨hy0, hy1⟩ := hy
  have hrl := H1.out.ok.gd.rl
  rw [hr] at hrl
  clear hr
  go_wp2_with fail
  refine (lenV s.r H1.out.tr.pr).mono ?_
  rintro e w2 ⟨rfl, G2, a2⟩
  have H2 := Lib.hid (H1.out.still a2)
  have HT := Lib.hid (show Trio w2 G2 i j q D R M s.d (rb ++ [(1, y)]) s.m from HRB.out ▸ H2.out.tr)
  have A2 := Lib.hid ((A1.out.trans a2).mono (T := S4 p i j q) fun _ h => h.elim)
  clear a2 c0 c1 c2 c3 c4 c6 f0 f1
  obtain ⟨c0, c1, c2, c3, c4, c6⟩ := H2.out.cells
  go_wp2_with fail
  refine (Trio.popR (c := (1, y)) o.o3 HT.out (by simp at hrl; omega)).mono ?_
  rintro e w3 ⟨rfl, G3, a3, t3⟩
  have H3 := Lib.hid (VM.next o H2.out a3 t3 ⟨⟨H2.out.ok.gd.d16, (HRB.out ▸ H2.out.ok.gd.r16 : R16 (rb ++ [(1, y)])).left, H2.out.ok.gd.dl, (show rb.length ≤ 128 by simp at hrl; omega), H2.out.ok.gd.mo, H2.out.ok.gd.mr⟩, hpc0, hpc1, H2.out.ok.cb, H2.out.ok.cl⟩)
  have A3 := Lib.hid (A2.out.trans (a3.mono (S3_S4 (p := p))))
  clear a3 t3 c0 c1 c2 c3 c4 c6
  obtain ⟨c0, -⟩ := H3.out.cells
  have f0 := H3.out.free 0
  go_wp2
  go_ret
  have z := H3.out.setPc o y hy0 hy1
  exact ⟨rfl, G3, A3.out.trans z.1, z.2⟩
set_option maxRecDepth 100000 in
set_option maxHeartbeats 1000000 in
theorem does_8_no (o : Own4 p i j q) (h : VM w G p i j q P D R M code s) (x : Int) (hx0 : 0 ≤ x) (hx1 : x < 65536) (hn : needF s.d.length 0 0 = 0) (hr : 0 < s.r.length) (hrI : decide (0 < (s.r.length : Int)) = true) (he : (atE s.r 0 1 == 0) = false) : Calls Tryd.prog 71 #[.pointer (some ⟨P, 0, none⟩), primV 8, .int .u16 x] w (LeftV p i j q P D R M code w G s (.int .i64 (atE s.r 0 1))) := by
  have hrow : primV 8 = .agg #[.int .i64 8, .string (nameB 8), .int .i64 0, .int .i64 0, .int .i64 2, .bool false] := by kernel_rfl
  rw [hrow]
  clear hrow
  have HA := Lib.hid ((Adv.refl (fun _ => False) w G).alloc (.cells #[.int .i64 8, .string (nameB 8), .int .i64 0, .int .i64 0, .int .i64 2, .bool false] 25) 0)
  have H0 := Lib.hid (h.alloc (.cells #[.int .i64 8, .string (nameB 8), .int .i64 0, .int .i64 0, .int .i64 2, .bool false] 25) 0)
  have hg := heap_alloc_new w (.cells #[.int .i64 8, .string (nameB 8), .int .i64 0, .int .i64 0, .int .i64 2, .bool false] 25)
  have HG := Lib.hid hg
  have hP := h.lt
  have c3 := h.cells.2.2.2.1
  have hpc0 := h.ok.pc0
  have hpc1 := h.ok.pc1
  clear h hg
  go_enter Tryd.func71, Tryd.ntmps71
  go_upto_region 1 with fail
  have HN := Lib.hid (needV (w := (w.alloc (.cells #[.int .i64 8, .string (nameB 8), .int .i64 0, .int .i64 0, .int .i64 2, .bool false] 25)).drew) (G := own1 w G 0) (i := i) (D := D) s.d 0 0 H0.out.tr.drew.pu H0.out.ok.gd.dl (by decide) (by decide))
  have cc3 := H0.out.drew.cells.2.2.2.1
  have e2 := block_cell HG.out 2 _ rfl
  have e3 := block_cell HG.out 3 _ rfl
  go_region_held3 (fun w' => w'.cell? ⟨P, 3, none⟩ = some (.pointer (some ⟨D, 0, none⟩)) ∧ w'.cell? ⟨w.heap.size, 2, none⟩ = some (.int .i64 0) ∧ w'.cell? ⟨w.heap.size, 3, none⟩ = some (.int .i64 0)) (first | exact ⟨cc3, e2, e3⟩ | exact Q1.out)
    ((go_at_call 55; refine HN.out.mono ?_; rintro e w1 ⟨rfl, G1, a1⟩; have hb1 := (a1.keep w.heap.size (Array.getElem?_eq_some_iff.1 HG.out).1 id).trans HG.out; have HB1 := Lib.hid hb1; have H1 := Lib.hid (H0.out.drew.still a1); have A1 := Lib.hid (HA.out.drew.trans a1); have Q1 := Lib.hid (And.intro H1.out.cells.2.2.2.1 (And.intro (block_cell hb1 2 _ rfl) (block_cell hb1 3 _ rfl))); clear a1 hb1))
  clear c3 cc3 e2 e3 hP
  clear hn
  have b0 := block_cell HB1.out 0 _ rfl
  have b5 := block_cell HB1.out 5 _ rfl
  obtain ⟨c0, c1, c2, c3, c4, c6⟩ := H1.out.cells
  have f0 := H1.out.free 0
  have f1 := H1.out.free 1
  have hw := wrap_u16_mod (s.pc + 2)
  go_wp2_with fail
  refine (lenV s.r H1.out.tr.pr).mono ?_
  rintro e w2 ⟨rfl, G2, a2⟩
  have H2 := Lib.hid (H1.out.still a2)
  have A2 := Lib.hid ((A1.out.trans a2).mono (T := S4 p i j q) fun _ h => h.elim)
  clear a2 c0 c1 c2 c3 c4 c6 f0 f1
  obtain ⟨c0, c1, c2, c3, c4, c6⟩ := H2.out.cells
  go_wp2_with fail
  refine (Trio.popR_not (i := i) (j := j) (q := q) (D := D) (M := M) H2.out.tr 1 (by have := H2.out.ok.gd.rl; omega) he).mono ?_
  rintro e w3 ⟨rfl, G3, a3, t3⟩
  have H3 := Lib.hid (VM.next o H2.out a3 t3 ⟨H2.out.ok.gd, hpc0, hpc1, H2.out.ok.cb, H2.out.ok.cl⟩)
  have A3 := Lib.hid (A2.out.trans (a3.mono (S3_S4 (p := p))))
  have hv := atV_rng H2.out.ok.gd.r16 0 1
  obtain ⟨v, hv2⟩ : ∃ v, v = atV s.r 0 1 := ⟨_, rfl⟩
  rw [← hv2]
  clear a3 t3 c0 c1 c2 c3 c4 c6 hv hv2
  go_wp2
  go_ret
  exact ⟨rfl, G3, A3.out, H3.out⟩
set_option maxRecDepth 100000 in
set_option maxHeartbeats 1000000 in
theorem loops_no1 (o : Own4 p i j q) (h : VM w G p i j q P D R M code s) (he : (atE s.r 0 3 != 0) = true) : Calls Tryd.prog 83 #[.pointer (some ⟨P, 0, none⟩)] w (LeftV p i j q P D R M code w G s (.tuple #[.bool false, .int .i64 (atE s.r 0 3)])) := by
  have H0 := Lib.hid h
  have hpc0 := h.ok.pc0
  have hpc1 := h.ok.pc1
  obtain ⟨c0, c1, c2, c3, c4, c6⟩ := h.cells
  clear h
  go_enter Tryd.func83, Tryd.ntmps83
  go_wp2_with fail
  refine (atV_any (j := j) s.r 0 3 H0.out.tr.pr H0.out.ok.gd.rl).mono ?_
  rintro e w1 ⟨rfl, G1, a1⟩
  have H1 := Lib.hid (H0.out.still a1)
  have A1 := Lib.hid (a1.mono (T := S4 p i j q) fun _ h => h.elim)
  clear a1 c0 c1 c2 c3 c4 c6
  obtain ⟨c0, c1, c2, c3, c4, c6⟩ := H1.out.cells
  have hv := atV_rng H0.out.ok.gd.r16 0 3
  have v0 := hv.1
  have v1 := hv.2
  clear hv
  obtain ⟨F, hF⟩ : ∃ F, F = atE s.r 0 3 := ⟨_, rfl⟩
  rw [← hF] at he ⊢
  have HF := Lib.hid hF
  clear hF
  go_wp2
  go_ret2
  exact ⟨by rw [HF.out]; rfl, G1, A1.out, H1.out⟩
set_option maxRecDepth 100000 in
set_option maxHeartbeats 1000000 in
theorem loops_no2 (o : Own4 p i j q) (h : VM w G p i j q P D R M code s) (he : atE s.r 0 3 = 0) (he2 : (atE s.r 1 2 != 0) = true) : Calls Tryd.prog 83 #[.pointer (some ⟨P, 0, none⟩)] w (LeftV p i j q P D R M code w G s (.tuple #[.bool false, .int .i64 (atE s.r 1 2)])) := by
  have H0 := Lib.hid h
  have hpc0 := h.ok.pc0
  have hpc1 := h.ok.pc1
  obtain ⟨c0, c1, c2, c3, c4, c6⟩ := h.cells
  clear h
  go_enter Tryd.func83, Tryd.ntmps83
  go_wp2_with fail
  refine (atV_any (j := j) s.r 0 3 H0.out.tr.pr H0.out.ok.gd.rl).mono ?_
  rintro e w1 ⟨rfl, G1, a1⟩
  have H1 := Lib.hid (H0.out.still a1)
  have A1 := Lib.hid (a1.mono (T := S4 p i j q) fun _ h => h.elim)
  clear a1 c0 c1 c2 c3 c4 c6
  obtain ⟨c0, c1, c2, c3, c4, c6⟩ := H1.out.cells
  have hv := atV_rng H0.out.ok.gd.r16 0 3
  have v0 := hv.1
  have v1 := hv.2
  clear hv
  rw [he]
  clear he
  go_wp2_with fail
  refine (atV_any (j := j) s.r 1 2 H1.out.tr.pr H1.out.ok.gd.rl).mono ?_
  rintro e w2 ⟨rfl, G2, a2⟩
  have H2 := Lib.hid (H1.out.still a2)
  have A2 := Lib.hid (A1.out.trans (a2.mono (T := S4 p i j q) fun _ h => h.elim))
  clear a2 c0 c1 c2 c3 c4 c6
  obtain ⟨c0, c1, c2, c3, c4, c6⟩ := H2.out.cells
  obtain ⟨F, hF⟩ : ∃ F, F = atE s.r 1 2 := ⟨_, rfl⟩
  rw [← hF] at he2 ⊢
  have HF := Lib.hid hF
  clear hF
  go_wp2
  go_ret2
  exact ⟨by rw [HF.out]; rfl, G2, A2.out, H2.out⟩
set_option maxRecDepth 100000 in
set_option maxHeartbeats 1000000 in
theorem loops_on (o : Own4 p i j q) (h : VM w G p i j q P D R M code s) (rb : List (Int × Int)) (n : Int) (l : Int) (hr : s.r = rb ++ [(2, l), (3, n)]) (he : atE s.r 0 3 = 0) (he2 : atE s.r 1 2 = 0) (hv3 : atV s.r 0 3 = n) (hv2 : atV s.r 1 2 = l) (hon : ((n + 1) % 65536 != l) = true) : Calls Tryd.prog 83 #[.pointer (some ⟨P, 0, none⟩)] w (LeftV p i j q P D R M code w G { s with r := (rb ++ [(2, l)]) ++ [(3, (n + 1) % 65536)] } (.tuple #[.bool true, .int .i64 0])) := by
  have H0 := Lib.hid h
  have hpc0 := h.ok.pc0
  have hpc1 := h.ok.pc1
  obtain ⟨c0, c1, c2, c3, c4, c6⟩ := h.cells
  clear h
  go_enter Tryd.func83, Tryd.ntmps83
  go_wp2_with fail
  refine (atV_any (j := j) s.r 0 3 H0.out.tr.pr H0.out.ok.gd.rl).mono ?_
  rintro e w1 ⟨rfl, G1, a1⟩
  have H1 := Lib.hid (H0.out.still a1)
  have A1 := Lib.hid (a1.mono (T := S4 p i j q) fun _ h => h.elim)
  clear a1 c0 c1 c2 c3 c4 c6
  obtain ⟨c0, c1, c2, c3, c4, c6⟩ := H1.out.cells
  have hv := atV_rng H0.out.ok.gd.r16 0 3
  have v0 := hv.1
  have v1 := hv.2
  clear hv
  rw [he, hv3]
  clear he
  go_wp2_with fail
  refine (atV_any (j := j) s.r 1 2 H1.out.tr.pr H1.out.ok.gd.rl).mono ?_
  rw [hv2]
  rintro e w2 ⟨rfl, G2, a2⟩
  have H2 := Lib.hid (H1.out.still a2)
  have A2 := Lib.hid (A1.out.trans (a2.mono (T := S4 p i j q) fun _ h => h.elim))
  clear a2 c0 c1 c2 c3 c4 c6
  obtain ⟨c0, c1, c2, c3, c4, c6⟩ := H2.out.cells
  rw [he2]
  rw [hv3] at v0 v1
  have HRB := Lib.hid hr
  have hrl := H2.out.ok.gd.rl
  have hl2 : 0 ≤ l ∧ l < 65536 := H2.out.ok.gd.r16 (2, l) (by rw [hr]; simp)
  obtain ⟨l0, l1⟩ := hl2
  rw [hr] at hrl
  have hw := wrap_u16_mod (n + 1)
  have n0 := (mod16 (n + 1)).1
  have n1 := (mod16 (n + 1)).2
  have HT := Lib.hid (show Trio w2 G2 i j q D R M s.d ((rb ++ [(2, l)]) ++ [(3, n)]) s.m by have h := H2.out.tr; rw [hr] at h; simpa using h)
  have HR16 := Lib.hid (show R16 ((rb ++ [(2, l)]) ++ [(3, n)]) by have h := H2.out.ok.gd.r16; rw [hr] at h; simpa using h)
  clear hr he2
  go_wp2_with fail
  refine (Trio.setR (c := (3, n)) o.o3 HT.out ((n + 1) % 65536) (by simp at hrl ⊢; omega)).mono ?_
  rintro e w3 ⟨rfl, G3, a3, t3⟩
  have H3 := Lib.hid (VM.next o H2.out a3 t3 ⟨⟨H2.out.ok.gd.d16, HR16.out.left.append (R16.one ⟨n0, n1⟩), H2.out.ok.gd.dl, by simp at hrl ⊢; omega, H2.out.ok.gd.mo, H2.out.ok.gd.mr⟩, hpc0, hpc1, H2.out.ok.cb, H2.out.ok.cl⟩)
  have A3 := Lib.hid (A2.out.trans (a3.mono (S3_S4 (p := p))))
  clear a3 t3 c0 c1 c2 c3 c4 c6
  go_wp2
  go_ret2
  exact ⟨rfl, G3, A3.out, H3.out⟩
set_option maxRecDepth 100000 in
set_option maxHeartbeats 1000000 in
theorem loops_off (o : Own4 p i j q) (h : VM w G p i j q P D R M code s) (rb : List (Int × Int)) (n : Int) (l : Int) (hr : s.r = rb ++ [(2, l), (3, n)]) (he : atE s.r 0 3 = 0) (he2 : atE s.r 1 2 = 0) (hv3 : atV s.r 0 3 = n) (hv2 : atV s.r 1 2 = l) (hon : ((n + 1) % 65536 != l) = false) : Calls Tryd.prog 83 #[.pointer (some ⟨P, 0, none⟩)] w (LeftV p i j q P D R M code w G { s with r := rb } (.tuple #[.bool false, .int .i64 0])) := by
  have H0 := Lib.hid h
  have hpc0 := h.ok.pc0
  have hpc1 := h.ok.pc1
  obtain ⟨c0, c1, c2, c3, c4, c6⟩ := h.cells
  clear h
  go_enter Tryd.func83, Tryd.ntmps83
  go_wp2_with fail
  refine (atV_any (j := j) s.r 0 3 H0.out.tr.pr H0.out.ok.gd.rl).mono ?_
  rintro e w1 ⟨rfl, G1, a1⟩
  have H1 := Lib.hid (H0.out.still a1)
  have A1 := Lib.hid (a1.mono (T := S4 p i j q) fun _ h => h.elim)
  clear a1 c0 c1 c2 c3 c4 c6
  obtain ⟨c0, c1, c2, c3, c4, c6⟩ := H1.out.cells
  have hv := atV_rng H0.out.ok.gd.r16 0 3
  have v0 := hv.1
  have v1 := hv.2
  clear hv
  rw [he, hv3]
  clear he
  go_wp2_with fail
  refine (atV_any (j := j) s.r 1 2 H1.out.tr.pr H1.out.ok.gd.rl).mono ?_
  rw [hv2]
  rintro e w2 ⟨rfl, G2, a2⟩
  have H2 := Lib.hid (H1.out.still a2)
  have A2 := Lib.hid (A1.out.trans (a2.mono (T := S4 p i j q) fun _ h => h.elim))
  clear a2 c0 c1 c2 c3 c4 c6
  obtain ⟨c0, c1, c2, c3, c4, c6⟩ := H2.out.cells
  rw [he2]
  rw [hv3] at v0 v1
  have HRB := Lib.hid hr
  have hrl := H2.out.ok.gd.rl
  have hl2 : 0 ≤ l ∧ l < 65536 := H2.out.ok.gd.r16 (2, l) (by rw [hr]; simp)
  obtain ⟨l0, l1⟩ := hl2
  rw [hr] at hrl
  have hw := wrap_u16_mod (n + 1)
  have n0 := (mod16 (n + 1)).1
  have n1 := (mod16 (n + 1)).2
  have HT := Lib.hid (show Trio w2 G2 i j q D R M s.d ((rb ++ [(2, l)]) ++ [(3, n)]) s.m by have h := H2.out.tr; rw [hr] at h; simpa using h)
  have HR16 := Lib.hid (show R16 ((rb ++ [(2, l)]) ++ [(3, n)]) by have h := H2.out.ok.gd.r16; rw [hr] at h; simpa using h)
  clear hr he2
  go_wp2_with fail
  refine (Trio.popR (c := (3, n)) o.o3 HT.out (by simp at hrl ⊢; omega)).mono ?_
  rintro e w3 ⟨rfl, G3, a3, t3⟩
  have H3 := Lib.hid (VM.next o H2.out a3 t3 ⟨⟨H2.out.ok.gd.d16, HR16.out.left, H2.out.ok.gd.dl, by simp at hrl ⊢; omega, H2.out.ok.gd.mo, H2.out.ok.gd.mr⟩, hpc0, hpc1, H2.out.ok.cb, H2.out.ok.cl⟩)
  have A3 := Lib.hid (A2.out.trans (a3.mono (S3_S4 (p := p))))
  clear a3 t3 c0 c1 c2 c3 c4 c6
  obtain ⟨c0, c1, c2, c3, c4, c6⟩ := H3.out.cells
  have HT3 := Lib.hid H3.out.tr
  go_wp2_with fail
  refine (Trio.popR (c := (2, l)) o.o3 HT3.out (by simp at hrl ⊢; omega)).mono ?_
  rintro e w4 ⟨rfl, G4, a4, t4⟩
  have H4 := Lib.hid (VM.next o H3.out a4 t4 ⟨⟨H3.out.ok.gd.d16, HR16.out.left.left, H3.out.ok.gd.dl, by simp at hrl ⊢; omega, H3.out.ok.gd.mo, H3.out.ok.gd.mr⟩, hpc0, hpc1, H3.out.ok.cb, H3.out.ok.cl⟩)
  have A4 := Lib.hid (A3.out.trans (a4.mono (S3_S4 (p := p))))
  clear a4 t4 c0 c1 c2 c3 c4 c6
  go_wp2
  go_ret2
  exact ⟨rfl, G4, A4.out, H4.out⟩
end
end Go.Proofs.YtdnalhjdmlkbmaaDoor
namespace Go.Proofs.YtdnalhjdmlkbmaaDoor
open Go.RowKit
set_option linter.unusedVariables false

section
variable {w : World} {G : Nat → Nat} {p i j q P D R M : Nat} {code : List Int} {s : VmS}
set_option maxRecDepth 100000 in
set_option maxHeartbeats 1000000 in
theorem does_7_no1 (o : Own4 p i j q) (h : VM w G p i j q P D R M code s) (x : Int) (hx0 : 0 ≤ x) (hx1 : x < 65536) (hn : needF s.d.length 0 0 = 0) (he : (atE s.r 0 3 != 0) = true) : Calls Tryd.prog 71 #[.pointer (some ⟨P, 0, none⟩), primV 7, .int .u16 x] w (LeftV p i j q P D R M code w G s (.int .i64 (atE s.r 0 3))) := by
  have hrow : primV 7 = .agg #[.int .i64 7, .string (nameB 7), .int .i64 0, .int .i64 0, .int .i64 3, .bool true] := by kernel_rfl
  rw [hrow]
  clear hrow
  have HA := Lib.hid ((Adv.refl (fun _ => False) w G).alloc (.cells #[.int .i64 7, .string (nameB 7), .int .i64 0, .int .i64 0, .int .i64 3, .bool true] 25) 0)
  have H0 := Lib.hid (h.alloc (.cells #[.int .i64 7, .string (nameB 7), .int .i64 0, .int .i64 0, .int .i64 3, .bool true] 25) 0)
  have hg := heap_alloc_new w (.cells #[.int .i64 7, .string (nameB 7), .int .i64 0, .int .i64 0, .int .i64 3, .bool true] 25)
  have HG := Lib.hid hg
  have hP := h.lt
  have c3 := h.cells.2.2.2.1
  have hpc0 := h.ok.pc0
  have hpc1 := h.ok.pc1
  clear h hg
  go_enter Tryd.func71, Tryd.ntmps71
  go_upto_region 1 with fail
  have HN := Lib.hid (needV (w := (w.alloc (.cells #[.int .i64 7, .string (nameB 7), .int .i64 0, .int .i64 0, .int .i64 3, .bool true] 25)).drew) (G := own1 w G 0) (i := i) (D := D) s.d 0 0 H0.out.tr.drew.pu H0.out.ok.gd.dl (by decide) (by decide))
  have cc3 := H0.out.drew.cells.2.2.2.1
  have e2 := block_cell HG.out 2 _ rfl
  have e3 := block_cell HG.out 3 _ rfl
  go_region_held3 (fun w' => w'.cell? ⟨P, 3, none⟩ = some (.pointer (some ⟨D, 0, none⟩)) ∧ w'.cell? ⟨w.heap.size, 2, none⟩ = some (.int .i64 0) ∧ w'.cell? ⟨w.heap.size, 3, none⟩ = some (.int .i64 0)) (first | exact ⟨cc3, e2, e3⟩ | exact Q1.out)
    ((go_at_call 55; refine HN.out.mono ?_; rintro e w1 ⟨rfl, G1, a1⟩; have hb1 := (a1.keep w.heap.size (Array.getElem?_eq_some_iff.1 HG.out).1 id).trans HG.out; have HB1 := Lib.hid hb1; have H1 := Lib.hid (H0.out.drew.still a1); have A1 := Lib.hid (HA.out.drew.trans a1); have Q1 := Lib.hid (And.intro H1.out.cells.2.2.2.1 (And.intro (block_cell hb1 2 _ rfl) (block_cell hb1 3 _ rfl))); clear a1 hb1))
  clear c3 cc3 e2 e3 hP
  clear hn
  have b0 := block_cell HB1.out 0 _ rfl
  have b5 := block_cell HB1.out 5 _ rfl
  obtain ⟨c0, c1, c2, c3, c4, c6⟩ := H1.out.cells
  have f0 := H1.out.free 0
  have f1 := H1.out.free 1
  have hw := wrap_u16_mod (s.pc + 2)
  have hw2 := wrap_u16_mod ((s.pc + 2) % 65536 + 2)
  have hw3 := wrap_u16_mod (s.pc + 2 + 2)
  go_wp2_with fail
  refine (loops_no1 o H1.out he).mono ?_
  rintro e w2 ⟨rfl, G2, a2, h2⟩
  have H2 := Lib.hid h2
  have A2 := Lib.hid ((A1.out.mono (T := S4 p i j q) fun _ h => h.elim).trans a2)
  clear a2 h2 c0 c1 c2 c3 c4 c6 f0 f1
  obtain ⟨c0, -⟩ := H2.out.cells
  have f0 := H2.out.free 0
  obtain ⟨F, hF⟩ : ∃ F, F = atE s.r 0 3 := ⟨_, rfl⟩
  rw [← hF] at he ⊢
  have HF := Lib.hid hF
  have heq : (F == 0) = false := by simpa using he
  clear hF
  go_wp2
  go_ret
  exact ⟨by rw [HF.out]; rfl, G2, A2.out, H2.out⟩
set_option maxRecDepth 100000 in
set_option maxHeartbeats 1000000 in
theorem does_7_no2 (o : Own4 p i j q) (h : VM w G p i j q P D R M code s) (x : Int) (hx0 : 0 ≤ x) (hx1 : x < 65536) (hn : needF s.d.length 0 0 = 0) (he : Hid (atE s.r 0 3 = 0)) (he2 : (atE s.r 1 2 != 0) = true) : Calls Tryd.prog 71 #[.pointer (some ⟨P, 0, none⟩), primV 7, .int .u16 x] w (LeftV p i j q P D R M code w G s (.int .i64 (atE s.r 1 2))) := by
  have hrow : primV 7 = .agg #[.int .i64 7, .string (nameB 7), .int .i64 0, .int .i64 0, .int .i64 3, .bool true] := by kernel_rfl
  rw [hrow]
  clear hrow
  have HA := Lib.hid ((Adv.refl (fun _ => False) w G).alloc (.cells #[.int .i64 7, .string (nameB 7), .int .i64 0, .int .i64 0, .int .i64 3, .bool true] 25) 0)
  have H0 := Lib.hid (h.alloc (.cells #[.int .i64 7, .string (nameB 7), .int .i64 0, .int .i64 0, .int .i64 3, .bool true] 25) 0)
  have hg := heap_alloc_new w (.cells #[.int .i64 7, .string (nameB 7), .int .i64 0, .int .i64 0, .int .i64 3, .bool true] 25)
  have HG := Lib.hid hg
  have hP := h.lt
  have c3 := h.cells.2.2.2.1
  have hpc0 := h.ok.pc0
  have hpc1 := h.ok.pc1
  clear h hg
  go_enter Tryd.func71, Tryd.ntmps71
  go_upto_region 1 with fail
  have HN := Lib.hid (needV (w := (w.alloc (.cells #[.int .i64 7, .string (nameB 7), .int .i64 0, .int .i64 0, .int .i64 3, .bool true] 25)).drew) (G := own1 w G 0) (i := i) (D := D) s.d 0 0 H0.out.tr.drew.pu H0.out.ok.gd.dl (by decide) (by decide))
  have cc3 := H0.out.drew.cells.2.2.2.1
  have e2 := block_cell HG.out 2 _ rfl
  have e3 := block_cell HG.out 3 _ rfl
  go_region_held3 (fun w' => w'.cell? ⟨P, 3, none⟩ = some (.pointer (some ⟨D, 0, none⟩)) ∧ w'.cell? ⟨w.heap.size, 2, none⟩ = some (.int .i64 0) ∧ w'.cell? ⟨w.heap.size, 3, none⟩ = some (.int .i64 0)) (first | exact ⟨cc3, e2, e3⟩ | exact Q1.out)
    ((go_at_call 55; refine HN.out.mono ?_; rintro e w1 ⟨rfl, G1, a1⟩; have hb1 := (a1.keep w.heap.size (Array.getElem?_eq_some_iff.1 HG.out).1 id).trans HG.out; have HB1 := Lib.hid hb1; have H1 := Lib.hid (H0.out.drew.still a1); have A1 := Lib.hid (HA.out.drew.trans a1); have Q1 := Lib.hid (And.intro H1.out.cells.2.2.2.1 (And.intro (block_cell hb1 2 _ rfl) (block_cell hb1 3 _ rfl))); clear a1 hb1))
  clear c3 cc3 e2 e3 hP
  clear hn
  have b0 := block_cell HB1.out 0 _ rfl
  have b5 := block_cell HB1.out 5 _ rfl
  obtain ⟨c0, c1, c2, c3, c4, c6⟩ := H1.out.cells
  have f0 := H1.out.free 0
  have f1 := H1.out.free 1
  have hw := wrap_u16_mod (s.pc + 2)
  have hw2 := wrap_u16_mod ((s.pc + 2) % 65536 + 2)
  have hw3 := wrap_u16_mod (s.pc + 2 + 2)
  go_wp2_with fail
  refine (loops_no2 o H1.out he.out he2).mono ?_
  rintro e w2 ⟨rfl, G2, a2, h2⟩
  have H2 := Lib.hid h2
  have A2 := Lib.hid ((A1.out.mono (T := S4 p i j q) fun _ h => h.elim).trans a2)
  clear a2 h2 c0 c1 c2 c3 c4 c6 f0 f1
  obtain ⟨c0, -⟩ := H2.out.cells
  have f0 := H2.out.free 0
  obtain ⟨F, hF⟩ : ∃ F, F = atE s.r 1 2 := ⟨_, rfl⟩
  rw [← hF] at he2 ⊢
  have HF := Lib.hid hF
  have heq : (F == 0) = false := by simpa using he2
  clear hF
  go_wp2
  go_ret
  exact ⟨by rw [HF.out]; rfl, G2, A2.out, H2.out⟩
set_option maxRecDepth 100000 in
set_option maxHeartbeats 1000000 in
theorem does_7_on (o : Own4 p i j q) (h : VM w G p i j q P D R M code s) (x : Int) (hx0 : 0 ≤ x) (hx1 : x < 65536) (hn : needF s.d.length 0 0 = 0) (rb : List (Int × Int)) (n l : Int) (hh : Hid (s.r = rb ++ [(2, l), (3, n)] ∧ atE s.r 0 3 = 0 ∧ atE s.r 1 2 = 0 ∧ atV s.r 0 3 = n ∧ atV s.r 1 2 = l ∧ ((n + 1) % 65536 != l) = true)) : Calls Tryd.prog 71 #[.pointer (some ⟨P, 0, none⟩), primV 7, .int .u16 x] w (LeftV p i j q P D R M code w G { s with r := (rb ++ [(2, l)]) ++ [(3, (n + 1) % 65536)], pc := x } (.int .i64 0)) := by
  have hrow : primV 7 = .agg #[.int .i64 7, .string (nameB 7), .int .i64 0, .int .i64 0, .int .i64 3, .bool true] := by kernel_rfl
  rw [hrow]
  clear hrow
  have HA := Lib.hid ((Adv.refl (fun _ => False) w G).alloc (.cells #[.int .i64 7, .string (nameB 7), .int .i64 0, .int .i64 0, .int .i64 3, .bool true] 25) 0)
  have H0 := Lib.hid (h.alloc (.cells #[.int .i64 7, .string (nameB 7), .int .i64 0, .int .i64 0, .int .i64 3, .bool true] 25) 0)
  have hg := heap_alloc_new w (.cells #[.int .i64 7, .string (nameB 7), .int .i64 0, .int .i64 0, .int .i64 3, .bool true] 25)
  have HG := Lib.hid hg
  have hP := h.lt
  have c3 := h.cells.2.2.2.1
  have hpc0 := h.ok.pc0
  have hpc1 := h.ok.pc1
  clear h hg
  go_enter Tryd.func71, Tryd.ntmps71
  go_upto_region 1 with fail
  have HN := Lib.hid (needV (w := (w.alloc (.cells #[.int .i64 7, .string (nameB 7), .int .i64 0, .int .i64 0, .int .i64 3, .bool true] 25)).drew) (G := own1 w G 0) (i := i) (D := D) s.d 0 0 H0.out.tr.drew.pu H0.out.ok.gd.dl (by decide) (by decide))
  have cc3 := H0.out.drew.cells.2.2.2.1
  have e2 := block_cell HG.out 2 _ rfl
  have e3 := block_cell HG.out 3 _ rfl
  go_region_held3 (fun w' => w'.cell? ⟨P, 3, none⟩ = some (.pointer (some ⟨D, 0, none⟩)) ∧ w'.cell? ⟨w.heap.size, 2, none⟩ = some (.int .i64 0) ∧ w'.cell? ⟨w.heap.size, 3, none⟩ = some (.int .i64 0)) (first | exact ⟨cc3, e2, e3⟩ | exact Q1.out)
    ((go_at_call 55; refine HN.out.mono ?_; rintro e w1 ⟨rfl, G1, a1⟩; have hb1 := (a1.keep w.heap.size (Array.getElem?_eq_some_iff.1 HG.out).1 id).trans HG.out; have HB1 := Lib.hid hb1; have H1 := Lib.hid (H0.out.drew.still a1); have A1 := Lib.hid (HA.out.drew.trans a1); have Q1 := Lib.hid (And.intro H1.out.cells.2.2.2.1 (And.intro (block_cell hb1 2 _ rfl) (block_cell hb1 3 _ rfl))); clear a1 hb1))
  clear c3 cc3 e2 e3 hP
  clear hn
  have b0 := block_cell HB1.out 0 _ rfl
  have b5 := block_cell HB1.out 5 _ rfl
  obtain ⟨c0, c1, c2, c3, c4, c6⟩ := H1.out.cells
  have f0 := H1.out.free 0
  have f1 := H1.out.free 1
  have hw := wrap_u16_mod (s.pc + 2)
  have hw2 := wrap_u16_mod ((s.pc + 2) % 65536 + 2)
  have hw3 := wrap_u16_mod (s.pc + 2 + 2)
  go_wp2_with fail
  refine (loops_on o H1.out rb n l hh.out.1 hh.out.2.1 hh.out.2.2.1 hh.out.2.2.2.1 hh.out.2.2.2.2.1 hh.out.2.2.2.2.2).mono ?_
  rintro e w2 ⟨rfl, G2, a2, h2⟩
  have H2 := Lib.hid h2
  have A2 := Lib.hid ((A1.out.mono (T := S4 p i j q) fun _ h => h.elim).trans a2)
  clear a2 h2 c0 c1 c2 c3 c4 c6 f0 f1
  obtain ⟨c0, -⟩ := H2.out.cells
  have f0 := H2.out.free 0
  go_wp2
  go_ret
  have z := H2.out.setPc o x hx0 hx1
  exact ⟨rfl, G2, A2.out.trans z.1, z.2⟩
set_option maxRecDepth 100000 in
set_option maxHeartbeats 1000000 in
theorem does_7_off (o : Own4 p i j q) (h : VM w G p i j q P D R M code s) (x : Int) (hx0 : 0 ≤ x) (hx1 : x < 65536) (hn : needF s.d.length 0 0 = 0) (rb : List (Int × Int)) (n l : Int) (hh : Hid (s.r = rb ++ [(2, l), (3, n)] ∧ atE s.r 0 3 = 0 ∧ atE s.r 1 2 = 0 ∧ atV s.r 0 3 = n ∧ atV s.r 1 2 = l ∧ ((n + 1) % 65536 != l) = false)) : Calls Tryd.prog 71 #[.pointer (some ⟨P, 0, none⟩), primV 7, .int .u16 x] w (LeftV p i j q P D R M code w G { s with r := rb, pc := (s.pc + 2 + 2) % 65536 } (.int .i64 0)) := by
  have hrow : primV 7 = .agg #[.int .i64 7, .string (nameB 7), .int .i64 0, .int .i64 0, .int .i64 3, .bool true] := by kernel_rfl
  rw [hrow]
  clear hrow
  have HA := Lib.hid ((Adv.refl (fun _ => False) w G).alloc (.cells #[.int .i64 7, .string (nameB 7), .int .i64 0, .int .i64 0, .int .i64 3, .bool true] 25) 0)
  have H0 := Lib.hid (h.alloc (.cells #[.int .i64 7, .string (nameB 7), .int .i64 0, .int .i64 0, .int .i64 3, .bool true] 25) 0)
  have hg := heap_alloc_new w (.cells #[.int .i64 7, .string (nameB 7), .int .i64 0, .int .i64 0, .int .i64 3, .bool true] 25)
  have HG := Lib.hid hg
  have hP := h.lt
  have c3 := h.cells.2.2.2.1
  have hpc0 := h.ok.pc0
  have hpc1 := h.ok.pc1
  clear h hg
  go_enter Tryd.func71, Tryd.ntmps71
  go_upto_region 1 with fail
  have HN := Lib.hid (needV (w := (w.alloc (.cells #[.int .i64 7, .string (nameB 7), .int .i64 0, .int .i64 0, .int .i64 3, .bool true] 25)).drew) (G := own1 w G 0) (i := i) (D := D) s.d 0 0 H0.out.tr.drew.pu H0.out.ok.gd.dl (by decide) (by decide))
  have cc3 := H0.out.drew.cells.2.2.2.1
  have e2 := block_cell HG.out 2 _ rfl
  have e3 := block_cell HG.out 3 _ rfl
  go_region_held3 (fun w' => w'.cell? ⟨P, 3, none⟩ = some (.pointer (some ⟨D, 0, none⟩)) ∧ w'.cell? ⟨w.heap.size, 2, none⟩ = some (.int .i64 0) ∧ w'.cell? ⟨w.heap.size, 3, none⟩ = some (.int .i64 0)) (first | exact ⟨cc3, e2, e3⟩ | exact Q1.out)
    ((go_at_call 55; refine HN.out.mono ?_; rintro e w1 ⟨rfl, G1, a1⟩; have hb1 := (a1.keep w.heap.size (Array.getElem?_eq_some_iff.1 HG.out).1 id).trans HG.out; have HB1 := Lib.hid hb1; have H1 := Lib.hid (H0.out.drew.still a1); have A1 := Lib.hid (HA.out.drew.trans a1); have Q1 := Lib.hid (And.intro H1.out.cells.2.2.2.1 (And.intro (block_cell hb1 2 _ rfl) (block_cell hb1 3 _ rfl))); clear a1 hb1))
  clear c3 cc3 e2 e3 hP
  clear hn
  have b0 := block_cell HB1.out 0 _ rfl
  have b5 := block_cell HB1.out 5 _ rfl
  obtain ⟨c0, c1, c2, c3, c4, c6⟩ := H1.out.cells
  have f0 := H1.out.free 0
  have f1 := H1.out.free 1
  have hw := wrap_u16_mod (s.pc + 2)
  have hw2 := wrap_u16_mod ((s.pc + 2) % 65536 + 2)
  have hw3 := wrap_u16_mod (s.pc + 2 + 2)
  go_wp2_with fail
  refine (loops_off o H1.out rb n l hh.out.1 hh.out.2.1 hh.out.2.2.1 hh.out.2.2.2.1 hh.out.2.2.2.2.1 hh.out.2.2.2.2.2).mono ?_
  rintro e w2 ⟨rfl, G2, a2, h2⟩
  have H2 := Lib.hid h2
  have A2 := Lib.hid ((A1.out.mono (T := S4 p i j q) fun _ h => h.elim).trans a2)
  clear a2 h2 c0 c1 c2 c3 c4 c6 f0 f1
  obtain ⟨c0, -⟩ := H2.out.cells
  have f0 := H2.out.free 0
  go_wp2
  go_ret
  have z := H2.out.setPc o ((s.pc + 2 + 2) % 65536) (mod16 _).1 (mod16 _).2
  exact ⟨rfl, G2, A2.out.trans z.1, z.2⟩
set_option maxRecDepth 100000 in
set_option maxHeartbeats 1000000 in
theorem does_gen (o : Own4 p i j q) (h : VM w G p i j q P D R M code s) (k : Nat) (h64 : k < 64) (hopd : operandB k = false) (hpl : plainB k = true) (x : Int) (hn : needF s.d.length (takesN k) (leavesN k) = 0) (ht : s.m.tones.length ≤ 99999) (n5 : (((k : Nat) : Int) == 5) = false) (n4 : (((k : Nat) : Int) == 4) = false) (n2 : (((k : Nat) : Int) == 2) = false) (n3 : (((k : Nat) : Int) == 3) = false) (n1 : (((k : Nat) : Int) == 1) = false) (n7 : (((k : Nat) : Int) == 7) = false) (n8 : (((k : Nat) : Int) == 8) = false) (n11 : (((k : Nat) : Int) == 11) = false) (n10 : (((k : Nat) : Int) == 10) = false) (he : (faultF k s.d s.r == 0) = true) : Calls Tryd.prog 71 #[.pointer (some ⟨P, 0, none⟩), primV k, .int .u16 x] w (LeftV p i j q P D R M code w G { s with d := (doF k s.d s.r s.m).1, r := (doF k s.d s.r s.m).2.1, m := (doF k s.d s.r s.m).2.2, pc := (s.pc + 2) % 65536 } (.int .i64 0)) := by
  unfold primV
  rw [hopd]
  have HA := Lib.hid ((Adv.refl (fun _ => False) w G).alloc (.cells #[.int .i64 k, .string (nameB k), .int .i64 (takesN k), .int .i64 (leavesN k), .int .i64 (costsN k), .bool false] 25) 0)
  have H0 := Lib.hid (h.alloc (.cells #[.int .i64 k, .string (nameB k), .int .i64 (takesN k), .int .i64 (leavesN k), .int .i64 (costsN k), .bool false] 25) 0)
  have hg := heap_alloc_new w (.cells #[.int .i64 k, .string (nameB k), .int .i64 (takesN k), .int .i64 (leavesN k), .int .i64 (costsN k), .bool false] 25)
  have HG := Lib.hid hg
  have hP := h.lt
  have c3 := h.cells.2.2.2.1
  have hpc0 := h.ok.pc0
  have hpc1 := h.ok.pc1
  clear h hg
  go_enter Tryd.func71, Tryd.ntmps71
  go_upto_region 1 with fail
  have HN := Lib.hid (needV (w := (w.alloc (.cells #[.int .i64 k, .string (nameB k), .int .i64 (takesN k), .int .i64 (leavesN k), .int .i64 (costsN k), .bool false] 25)).drew) (G := own1 w G 0) (i := i) (D := D) s.d (takesN k) (leavesN k) H0.out.tr.drew.pu H0.out.ok.gd.dl (by have := takes_le k h64; omega) (by have := leaves_le k h64; omega))
  have cc3 := H0.out.drew.cells.2.2.2.1
  have e2 := block_cell HG.out 2 _ rfl
  have e3 := block_cell HG.out 3 _ rfl
  go_region_held3 (fun w' => w'.cell? ⟨P, 3, none⟩ = some (.pointer (some ⟨D, 0, none⟩)) ∧ w'.cell? ⟨w.heap.size, 2, none⟩ = some (.int .i64 (takesN k)) ∧ w'.cell? ⟨w.heap.size, 3, none⟩ = some (.int .i64 (leavesN k))) (first | exact ⟨cc3, e2, e3⟩ | exact Q1.out)
    ((go_at_call 55; refine HN.out.mono ?_; rintro e w1 ⟨rfl, G1, a1⟩; have hb1 := (a1.keep w.heap.size (Array.getElem?_eq_some_iff.1 HG.out).1 id).trans HG.out; have HB1 := Lib.hid hb1; have H1 := Lib.hid (H0.out.drew.still a1); have A1 := Lib.hid (HA.out.drew.trans a1); have HGB := Lib.hid (show G1 w.heap.size = 0 from (a1.own w.heap.size (Array.getElem?_eq_some_iff.1 HG.out).1).trans (own1_new w G 0)); have Q1 := Lib.hid (And.intro H1.out.cells.2.2.2.1 (And.intro (block_cell hb1 2 _ rfl) (block_cell hb1 3 _ rfl))); clear a1 hb1))
  clear c3 cc3 e2 e3 hP
  clear hn
  have b0 := block_cell HB1.out 0 _ rfl
  have b5 := block_cell HB1.out 5 _ rfl
  obtain ⟨c0, c1, c2, c3, c4, c6⟩ := H1.out.cells
  have hw := wrap_u16_mod (s.pc + 2)
  have HDO := Lib.hid (do_any k h64 hpl G1 i j q D R M s.d s.r s.m o.o3 H1.out.ok.gd ht w1.drew H1.out.drew.tb H1.out.drew.tr)
  go_upto_region 31 with fail
  go_region_held3 (fun w' => w'.cell? ⟨P, 3, none⟩ = some (.pointer (some ⟨D, 0, none⟩)) ∧ w'.cell? ⟨P, 4, none⟩ = some (.pointer (some ⟨R, 0, none⟩)) ∧ w'.cell? ⟨P, 6, none⟩ = some (.pointer (some ⟨M, 0, none⟩)) ∧ w'.cell? ⟨w.heap.size, 0, none⟩ = some (.int .i64 k)) (first | exact ⟨c3, c4, c6, b0⟩ | exact Q2.out)
    ((go_at_call 21; refine HDO.out.mono ?_; rintro e w2 ⟨rfl, G2, a2, t2⟩; have hg2 := doF_good k h64 H1.out.ok.gd; have H2 := Lib.hid (VM.next o H1.out.drew a2 t2 ⟨hg2.1, hpc0, hpc1, H1.out.ok.cb, H1.out.ok.cl⟩); have A2 := Lib.hid ((A1.out.drew.mono (T := S4 p i j q) fun _ h => h.elim).trans (a2.mono (S3_S4 (p := p)))); have hgb : G1 w.heap.size = 0 := HGB.out; have Q2 := Lib.hid (And.intro H2.out.cells.2.2.2.1 (And.intro H2.out.cells.2.2.2.2.1 (And.intro H2.out.cells.2.2.2.2.2 ((a2.cell_some (p := ⟨w.heap.size, 0, none⟩) b0 (by show ¬ S3 i j q (G1 w.heap.size); rw [hgb]; exact o.o3.zero)))))); clear a2 t2 hg2 hgb))
  clear c0 c1 c2 c3 c4 c6 b0 b5
  obtain ⟨c0, -⟩ := H2.out.cells
  have f0 := H2.out.free 0
  obtain ⟨F, hF⟩ : ∃ F, F = faultF k s.d s.r := ⟨_, rfl⟩
  rw [← hF] at he ⊢
  clear hF
  obtain rfl : F = 0 := by simpa using he
  clear he
  go_wp2
  go_ret
  have z := H2.out.setPc o ((s.pc + 2) % 65536) (mod16 _).1 (mod16 _).2
  exact ⟨rfl, G2, A2.out.trans z.1, z.2⟩
set_option maxRecDepth 100000 in
set_option maxHeartbeats 1000000 in
theorem does_gen_no (o : Own4 p i j q) (h : VM w G p i j q P D R M code s) (k : Nat) (h64 : k < 64) (hopd : operandB k = false) (hpl : plainB k = true) (x : Int) (hn : needF s.d.length (takesN k) (leavesN k) = 0) (ht : s.m.tones.length ≤ 99999) (n5 : (((k : Nat) : Int) == 5) = false) (n4 : (((k : Nat) : Int) == 4) = false) (n2 : (((k : Nat) : Int) == 2) = false) (n3 : (((k : Nat) : Int) == 3) = false) (n1 : (((k : Nat) : Int) == 1) = false) (n7 : (((k : Nat) : Int) == 7) = false) (n8 : (((k : Nat) : Int) == 8) = false) (n11 : (((k : Nat) : Int) == 11) = false) (n10 : (((k : Nat) : Int) == 10) = false) (he : (faultF k s.d s.r == 0) = false) : Calls Tryd.prog 71 #[.pointer (some ⟨P, 0, none⟩), primV k, .int .u16 x] w (LeftV p i j q P D R M code w G s (.int .i64 (faultF k s.d s.r))) := by
  unfold primV
  rw [hopd]
  have HA := Lib.hid ((Adv.refl (fun _ => False) w G).alloc (.cells #[.int .i64 k, .string (nameB k), .int .i64 (takesN k), .int .i64 (leavesN k), .int .i64 (costsN k), .bool false] 25) 0)
  have H0 := Lib.hid (h.alloc (.cells #[.int .i64 k, .string (nameB k), .int .i64 (takesN k), .int .i64 (leavesN k), .int .i64 (costsN k), .bool false] 25) 0)
  have hg := heap_alloc_new w (.cells #[.int .i64 k, .string (nameB k), .int .i64 (takesN k), .int .i64 (leavesN k), .int .i64 (costsN k), .bool false] 25)
  have HG := Lib.hid hg
  have hP := h.lt
  have c3 := h.cells.2.2.2.1
  have hpc0 := h.ok.pc0
  have hpc1 := h.ok.pc1
  clear h hg
  go_enter Tryd.func71, Tryd.ntmps71
  go_upto_region 1 with fail
  have HN := Lib.hid (needV (w := (w.alloc (.cells #[.int .i64 k, .string (nameB k), .int .i64 (takesN k), .int .i64 (leavesN k), .int .i64 (costsN k), .bool false] 25)).drew) (G := own1 w G 0) (i := i) (D := D) s.d (takesN k) (leavesN k) H0.out.tr.drew.pu H0.out.ok.gd.dl (by have := takes_le k h64; omega) (by have := leaves_le k h64; omega))
  have cc3 := H0.out.drew.cells.2.2.2.1
  have e2 := block_cell HG.out 2 _ rfl
  have e3 := block_cell HG.out 3 _ rfl
  go_region_held3 (fun w' => w'.cell? ⟨P, 3, none⟩ = some (.pointer (some ⟨D, 0, none⟩)) ∧ w'.cell? ⟨w.heap.size, 2, none⟩ = some (.int .i64 (takesN k)) ∧ w'.cell? ⟨w.heap.size, 3, none⟩ = some (.int .i64 (leavesN k))) (first | exact ⟨cc3, e2, e3⟩ | exact Q1.out)
    ((go_at_call 55; refine HN.out.mono ?_; rintro e w1 ⟨rfl, G1, a1⟩; have hb1 := (a1.keep w.heap.size (Array.getElem?_eq_some_iff.1 HG.out).1 id).trans HG.out; have HB1 := Lib.hid hb1; have H1 := Lib.hid (H0.out.drew.still a1); have A1 := Lib.hid (HA.out.drew.trans a1); have HGB := Lib.hid (show G1 w.heap.size = 0 from (a1.own w.heap.size (Array.getElem?_eq_some_iff.1 HG.out).1).trans (own1_new w G 0)); have Q1 := Lib.hid (And.intro H1.out.cells.2.2.2.1 (And.intro (block_cell hb1 2 _ rfl) (block_cell hb1 3 _ rfl))); clear a1 hb1))
  clear c3 cc3 e2 e3 hP
  clear hn
  have b0 := block_cell HB1.out 0 _ rfl
  have b5 := block_cell HB1.out 5 _ rfl
  obtain ⟨c0, c1, c2, c3, c4, c6⟩ := H1.out.cells
  have hw := wrap_u16_mod (s.pc + 2)
  have HDO := Lib.hid (do_any k h64 hpl G1 i j q D R M s.d s.r s.m o.o3 H1.out.ok.gd ht w1.drew H1.out.drew.tb H1.out.drew.tr)
  go_upto_region 31 with fail
  go_region_held3 (fun w' => w'.cell? ⟨P, 3, none⟩ = some (.pointer (some ⟨D, 0, none⟩)) ∧ w'.cell? ⟨P, 4, none⟩ = some (.pointer (some ⟨R, 0, none⟩)) ∧ w'.cell? ⟨P, 6, none⟩ = some (.pointer (some ⟨M, 0, none⟩)) ∧ w'.cell? ⟨w.heap.size, 0, none⟩ = some (.int .i64 k)) (first | exact ⟨c3, c4, c6, b0⟩ | exact Q2.out)
    ((go_at_call 21; refine HDO.out.mono ?_; rintro e w2 ⟨rfl, G2, a2, t2⟩; have hg2 := doF_good k h64 H1.out.ok.gd; have H2 := Lib.hid (VM.next o H1.out.drew a2 t2 ⟨hg2.1, hpc0, hpc1, H1.out.ok.cb, H1.out.ok.cl⟩); have A2 := Lib.hid ((A1.out.drew.mono (T := S4 p i j q) fun _ h => h.elim).trans (a2.mono (S3_S4 (p := p)))); have hgb : G1 w.heap.size = 0 := HGB.out; have Q2 := Lib.hid (And.intro H2.out.cells.2.2.2.1 (And.intro H2.out.cells.2.2.2.2.1 (And.intro H2.out.cells.2.2.2.2.2 ((a2.cell_some (p := ⟨w.heap.size, 0, none⟩) b0 (by show ¬ S3 i j q (G1 w.heap.size); rw [hgb]; exact o.o3.zero)))))); clear a2 t2 hg2 hgb))
  clear c0 c1 c2 c3 c4 c6 b0 b5
  obtain ⟨c0, -⟩ := H2.out.cells
  have f0 := H2.out.free 0
  have hsame : doF k s.d s.r s.m = (s.d, s.r, s.m) := by unfold doF; rw [if_pos (by simpa using he)]
  have H3 := Lib.hid (show VM w2 G2 p i j q P D R M code s by have h := H2.out; rw [hsame] at h; exact h)
  obtain ⟨F, hF⟩ : ∃ F, F = faultF k s.d s.r := ⟨_, rfl⟩
  rw [← hF] at he ⊢
  have HF := Lib.hid hF
  clear hF hsame
  go_wp2
  go_ret
  exact ⟨by rw [HF.out]; rfl, G2, A2.out, H3.out⟩
theorem leftV_eq {s1 s2 : VmS} {f1 f2 : Int} (h1 : s1 = s2) (h2 : f1 = f2) {e : Ending} {w' : World} (h : LeftV p i j q P D R M code w G s1 (.int .i64 f1) e w') : LeftV p i j q P D R M code w G s2 (.int .i64 f2) e w' := by subst h1; subst h2; exact h
theorem loop_top {r : List (Int × Int)} (h1 : atE r 0 3 = 0) (h2 : atE r 1 2 = 0) : ∃ rb l n, r = rb ++ [(2, l), (3, n)] ∧ atV r 0 3 = n ∧ atV r 1 2 = l := by
  obtain ⟨r0, n, rfl, hv⟩ := top_of h1
  rcases List.eq_nil_or_concat r0 with rfl | ⟨r1, c, rfl⟩
  · exact absurd h2 (by rw [(at_out (by simp)).2]; decide)
  · rw [List.concat_eq_append] at h2 hv ⊢
    have hc : ((r1 ++ [c]) ++ [((3 : Int), n)])[r1.length]? = some c := by simp
    have e1 := atE_in (l := (r1 ++ [c]) ++ [((3 : Int), n)]) (j := 1) (k := r1.length) (kind := 2) (by simp; omega) hc
    have e2 := atV_in (l := (r1 ++ [c]) ++ [((3 : Int), n)]) (j := 1) (k := r1.length) (kind := 2) (by simp; omega) hc
    rw [show ((1 : Nat) : Int) = 1 from rfl] at e1 e2
    by_cases e : c.1 = 2
    · rw [if_pos e] at e2
      refine ⟨r1, c.2, n, ?_, hv, e2⟩
      rw [show ((2 : Int), c.2) = c from by rw [← e]]; simp
    · rw [if_neg e] at e1
      rw [e1] at h2; exact absurd h2 (by decide)
theorem plain_k {k : Nat} (h1 : 1 ≤ k) (h64 : k < 64) (a1 : k ≠ 1) (a2 : k ≠ 2) (a3 : k ≠ 3) (a4 : k ≠ 4) (a5 : k ≠ 5) (a7 : k ≠ 7) (a8 : k ≠ 8) (a10 : k ≠ 10) (a11 : k ≠ 11) : plainB k = true ∧ operandB k = false := by
  have h : k = 6 ∨ k = 9 ∨ 12 ≤ k := by omega
  constructor
  · unfold plainB
    rcases h with rfl | rfl | h
    · rfl
    · rfl
    · simp; omega
  · unfold operandB; simp; omega
/-- does, of every instruction. -/
theorem does_any (o : Own4 p i j q) (k : Nat) (h1 : 1 ≤ k) (h64 : k < 64) (x : Int) (hx0 : 0 ≤ x) (hx1 : x < 65536) (ht : s.m.tones.length ≤ 99999) (h : VM w G p i j q P D R M code s) :
    Calls Tryd.prog 71 #[.pointer (some ⟨P, 0, none⟩), primV k, .int .u16 x] w (LeftV p i j q P D R M code w G (if doesE k s = 0 then doesS k x s else s) (.int .i64 (doesE k s))) := by
  by_cases hn : needF s.d.length (takesN k) (leavesN k) = 0
  · have ne : ¬ needF s.d.length (takesN k) (leavesN k) ≠ 0 := by simpa using hn
    have yes : ∀ {s2 : VmS}, doesE k s = 0 → doesS k x s = s2 → Calls Tryd.prog 71 #[.pointer (some ⟨P, 0, none⟩), primV k, .int .u16 x] w (LeftV p i j q P D R M code w G s2 (.int .i64 0)) → Calls Tryd.prog 71 #[.pointer (some ⟨P, 0, none⟩), primV k, .int .u16 x] w (LeftV p i j q P D R M code w G (if doesE k s = 0 then doesS k x s else s) (.int .i64 (doesE k s))) :=
      fun e1 e2 hh => hh.mono fun e w' hl => leftV_eq (by rw [if_pos e1, e2]) e1.symm hl
    have no : ∀ {f : Int}, doesE k s = f → f ≠ 0 → Calls Tryd.prog 71 #[.pointer (some ⟨P, 0, none⟩), primV k, .int .u16 x] w (LeftV p i j q P D R M code w G s (.int .i64 f)) → Calls Tryd.prog 71 #[.pointer (some ⟨P, 0, none⟩), primV k, .int .u16 x] w (LeftV p i j q P D R M code w G (if doesE k s = 0 then doesS k x s else s) (.int .i64 (doesE k s))) :=
      fun e1 e2 hh => hh.mono fun e w' hl => leftV_eq (by rw [if_neg (by rw [e1]; exact e2)]) e1.symm hl
    by_cases k4 : k = 4
    · subst k4; exact yes (if_neg ne) rfl (does_4 o h x hx0 hx1 hn)
    by_cases k10 : k = 10
    · subst k10; exact yes (if_neg ne) rfl (does_10 o h x hx0 hx1 hn)
    by_cases k11 : k = 11
    · subst k11; exact yes (if_neg ne) rfl (does_11 o h x hx0 hx1 hn)
    by_cases k2 : k = 2
    · subst k2; exact yes (if_neg ne) rfl (does_2 o h x hx0 hx1 hn (need1 (p := takesN 2) hn rfl))
    by_cases k3 : k = 3
    · subst k3; exact yes (if_neg ne) rfl (does_3 o h x hx0 hx1 hn (need1 (p := takesN 3) hn rfl))
    by_cases k5 : k = 5
    · subst k5
      have hl := needF_ok (p := takesN 5) (q := leavesN 5) hn (by decide) (by decide)
      obtain ⟨b, y, hb, hd1, hd2⟩ := last_of (l := s.d) (by have h5 : (1 : Int) ≤ s.d.length := hl.1; omega)
      have e : doesS 5 x s = { s with d := b, pc := if y ≠ 0 then nextF 5 s else x } := by
        show ({ s with d := s.d.dropLast, pc := if s.d.getD (s.d.length - 1) 0 ≠ 0 then nextF 5 s else x } : VmS) = _
        rw [hd1, hd2]
      by_cases hy : y = 0
      · exact yes (if_neg ne) (e.trans (by rw [if_neg (by simpa using hy)])) (does_5b o h x hx0 hx1 hn b y (Lib.hid hb) (by simpa using hy))
      · exact yes (if_neg ne) (e.trans (by rw [if_pos hy]; rfl)) (does_5a o h x hx0 hx1 hn b y (Lib.hid hb) (by simpa using hy))
    by_cases k1 : k = 1
    · subst k1
      by_cases hr : s.r.length + 1 ≤ 128
      · exact yes ((if_neg ne).trans (if_pos hr)) rfl (does_1 o h x hx0 hx1 hn hr)
      · exact no ((if_neg ne).trans (if_neg hr)) (by decide) (does_1_no o h x hx0 hx1 hn (by omega))
    by_cases k8 : k = 8
    · subst k8
      by_cases hr : s.r.length = 0
      · exact yes ((if_neg ne).trans (if_pos hr)) (if_pos hr) (does_8_end o h x hx0 hx1 hn hr)
      · by_cases he : atE s.r 0 1 = 0
        · obtain ⟨rb, y, hrb, hv⟩ := top_of he
          exact yes ((if_neg ne).trans ((if_neg hr).trans he)) ((if_neg hr).trans (by rw [hv, hrb, List.dropLast_concat])) (does_8 o h x hx0 hx1 hn rb y hrb)
        · exact no ((if_neg ne).trans (if_neg hr)) he (does_8_no o h x hx0 hx1 hn (by omega) (by simp; omega) (by simpa using he))
    by_cases k7 : k = 7
    · subst k7
      by_cases he : atE s.r 0 3 = 0
      · by_cases he2 : atE s.r 1 2 = 0
        · obtain ⟨rb, l, n, hrb, hv, hv2⟩ := loop_top he he2
          have e0 : doesE 7 s = 0 := (if_neg ne).trans ((if_neg (by simpa using he)).trans he2)
          have d1 : s.r.dropLast = rb ++ [(2, l)] := by rw [hrb, show rb ++ [((2 : Int), l), (3, n)] = (rb ++ [(2, l)]) ++ [(3, n)] from by simp, List.dropLast_concat]
          have d2 : s.r.dropLast.dropLast = rb := by rw [d1, List.dropLast_concat]
          cases hon : ((n + 1) % 65536 != l) with
          | true =>
            have hl : loopOn s.r = true := by unfold loopOn; rw [hv, hv2]; exact hon
            refine yes e0 ?_ (does_7_on o h x hx0 hx1 hn rb n l (Lib.hid ⟨hrb, he, he2, hv, hv2, hon⟩))
            show ({ s with r := loopR s.r, pc := if loopOn s.r = true then x else nextF 7 s } : VmS) = _
            rw [if_pos hl]; unfold loopR; rw [if_pos hl, d1, hv]
          | false =>
            have hl : ¬ loopOn s.r = true := by unfold loopOn; rw [hv, hv2, hon]; decide
            refine yes e0 ?_ (does_7_off o h x hx0 hx1 hn rb n l (Lib.hid ⟨hrb, he, he2, hv, hv2, hon⟩))
            show ({ s with r := loopR s.r, pc := if loopOn s.r = true then x else nextF 7 s } : VmS) = _
            rw [if_neg hl]; unfold loopR; rw [if_neg hl, d2]; rfl
        · exact no ((if_neg ne).trans (if_neg (by simpa using he))) he2 (does_7_no2 o h x hx0 hx1 hn (Lib.hid he) (by simpa using he2))
      · exact no ((if_neg ne).trans (if_pos he)) he (does_7_no1 o h x hx0 hx1 hn (by simpa using he))
    obtain ⟨hpl, hop⟩ := plain_k h1 h64 k1 k2 k3 k4 k5 k7 k8 k10 k11
    have ge : doesE k s = faultF k s.d s.r := by
      unfold doesE
      rw [if_neg ne]
      split <;> first | contradiction | (rw [if_pos hpl])
    have gs : doesS k x s = { s with d := (doF k s.d s.r s.m).1, r := (doF k s.d s.r s.m).2.1, m := (doF k s.d s.r s.m).2.2, pc := (s.pc + 2) % 65536 } := by
      have hnx : nextF k s = (s.pc + 2) % 65536 := if_neg (by rw [hop]; decide)
      unfold doesS
      split <;> first | contradiction | (rw [hnx])
    by_cases hf : faultF k s.d s.r = 0
    · exact yes (ge.trans hf) gs (does_gen o h k h64 hop hpl x hn ht (by simp; omega) (by simp; omega) (by simp; omega) (by simp; omega) (by simp; omega) (by simp; omega) (by simp; omega) (by simp; omega) (by simp; omega) (by simpa using hf))
    · exact no ge hf (does_gen_no o h k h64 hop hpl x hn ht (by simp; omega) (by simp; omega) (by simp; omega) (by simp; omega) (by simp; omega) (by simp; omega) (by simp; omega) (by simp; omega) (by simp; omega) (by simpa using hf))
  · have e : doesE k s = needF s.d.length (takesN k) (leavesN k) := if_pos hn
    rw [e, if_neg hn]
    cases hop : operandB k with
    | true => exact does_need_t o h k h64 hop x (by simpa using hn)
    | false => exact does_need_f o h k h64 hop x (by simpa using hn)
set_option maxRecDepth 100000 in
set_option maxHeartbeats 1000000 in
theorem step_e1 (o : Own4 p i j q) (hst : (s.st != 1) = false) (ht : s.m.tones.length ≤ 99999) (h : VM w G p i j q P D R M code s) (he : (lookE code s != 0) = true) : Calls Tryd.prog 39 #[.pointer (some ⟨P, 0, none⟩)] w (LeftV p i j q P D R M code w G { s with st := 3, ft := lookE code s } (.bool false)) := by
  have H0 := Lib.hid h
  have h1 : s.st = 1 := by simpa using hst
  have HS := Lib.hid h1
  obtain ⟨c0, c1, -⟩ := h.cells
  clear h h1
  go_enter Tryd.func39, Tryd.ntmps39
  go_wp2_with fail
  refine (look_any H0.out HS.out).mono ?_
  rintro e w1 ⟨rfl, G1, a1⟩
  have H1 := Lib.hid (H0.out.still a1)
  have A1 := Lib.hid (a1.mono (T := S4 p i j q) fun _ h => h.elim)
  clear a1 c0 c1
  have hn : ¬ lookE code s = 0 := by simpa using he
  rw [if_neg hn, if_neg hn]
  rw [show primW 0 = primV0 from rfl]
  unfold lookT primV0
  obtain ⟨F, hF⟩ : ∃ F, F = lookE code s := ⟨_, rfl⟩
  rw [← hF] at he ⊢
  have HF := Lib.hid hF
  have heq : (F == 0) = false := by simpa using he
  clear hF hn
  have H2 := Lib.hid (H1.out.alloc (.cells #[.int .i64 0, .string ⟨#[]⟩, .int .i64 0, .int .i64 0, .int .i64 0, .bool false] 25) 0)
  have A2 := Lib.hid (A1.out.alloc (.cells #[.int .i64 0, .string ⟨#[]⟩, .int .i64 0, .int .i64 0, .int .i64 0, .bool false] 25) 0)
  have hP1 := H1.out.lt
  obtain ⟨c0, c1, c2, -⟩ := H1.out.cells
  have f1 := H1.out.free 1
  have f2 := H1.out.free 2
  go_wp2
  go_ret
  have y := H1.out.setSt o 3
  have z := y.2.setFt o F
  have v := z.2.alloc (.cells #[.int .i64 0, .string ⟨#[]⟩, .int .i64 0, .int .i64 0, .int .i64 0, .bool false] 25) 0
  rw [← HF.out]
  exact ⟨rfl, _, (A1.out.trans (y.1.trans z.1)).alloc _ 0, v⟩
set_option maxRecDepth 100000 in
set_option maxHeartbeats 1000000 in
theorem step_e2 (o : Own4 p i j q) (hst : (s.st != 1) = false) (ht : s.m.tones.length ≤ 99999) (h : VM w G p i j q P D R M code s) (k : Nat) (hk : Hid (k = lookOp code s)) (x : Int) (hx : Hid (x = lookX code s)) (he : Hid (lookE code s = 0)) (hd : (doesE k s != 0) = true) : Calls Tryd.prog 39 #[.pointer (some ⟨P, 0, none⟩)] w (LeftV p i j q P D R M code w G { s with st := 3, ft := doesE k s } (.bool false)) := by
  have H0 := Lib.hid h
  have h1 : s.st = 1 := by simpa using hst
  have HS := Lib.hid h1
  obtain ⟨c0, c1, -⟩ := h.cells
  clear h h1
  go_enter Tryd.func39, Tryd.ntmps39
  go_wp2_with fail
  refine (look_any H0.out HS.out).mono ?_
  rintro e w1 ⟨rfl, G1, a1⟩
  have H1 := Lib.hid (H0.out.still a1)
  have A1 := Lib.hid (a1.mono (T := S4 p i j q) fun _ h => h.elim)
  clear a1 c0 c1
  rw [if_pos he.out, if_pos he.out, he.out, ← hk.out, ← hx.out]
  have hl := look_op code s he.out
  have hk1 : 1 ≤ k := by rw [hk.out]; exact hl.2.2.1
  have hk64 : k < 64 := by rw [hk.out]; exact hl.2.2.2.1
  have hxr := lookX_rng code s
  rw [← hx.out] at hxr
  obtain ⟨hx0, hx1⟩ := hxr
  rw [show primW k = primV k from if_neg (by omega)]
  have HZ := Lib.hid (does_any (w := w1.alloc (.cells #[.int .i64 k, .string (nameB k), .int .i64 (takesN k), .int .i64 (leavesN k), .int .i64 (costsN k), .bool (operandB k)] 25)) (G := own1 w1 G1 0) o k hk1 hk64 x hx0 hx1 ht (H1.out.alloc (.cells #[.int .i64 k, .string (nameB k), .int .i64 (takesN k), .int .i64 (leavesN k), .int .i64 (costsN k), .bool (operandB k)] 25) 0))
  have HB := Lib.hid (heap_alloc_new w1 (.cells #[.int .i64 k, .string (nameB k), .int .i64 (takesN k), .int .i64 (leavesN k), .int .i64 (costsN k), .bool (operandB k)] 25))
  have A2 := Lib.hid (A1.out.alloc (.cells #[.int .i64 k, .string (nameB k), .int .i64 (takesN k), .int .i64 (leavesN k), .int .i64 (costsN k), .bool (operandB k)] 25) 0)
  clear hl
  unfold lookT primV
  go_wp2_with fail
  refine HZ.out.mono ?_
  have hn : ¬ doesE k s = 0 := by simpa using hd
  rw [if_neg hn]
  obtain ⟨F, hF⟩ : ∃ F, F = doesE k s := ⟨_, rfl⟩
  rw [← hF] at hd ⊢
  rintro e w2 ⟨rfl, G2, a2, h2⟩
  have H2 := Lib.hid h2
  have A3 := Lib.hid (A2.out.trans a2)
  have HF := Lib.hid hF
  clear a2 h2 hF hn
  obtain ⟨c0, c1, c2, -⟩ := H2.out.cells
  have f1 := H2.out.free 1
  have f2 := H2.out.free 2
  go_wp2
  go_ret
  have y := H2.out.setSt o 3
  have z := y.2.setFt o F
  rw [← HF.out]
  exact ⟨rfl, _, A3.out.trans (y.1.trans z.1), z.2⟩
set_option maxRecDepth 100000 in
set_option maxHeartbeats 1000000 in
theorem step_ok' (o : Own4 p i j q) (hst : (s.st != 1) = false) (ht : s.m.tones.length ≤ 99999) (h : VM w G p i j q P D R M code s) (k : Nat) (hk : Hid (k = lookOp code s)) (x : Int) (hx : Hid (x = lookX code s)) (he : Hid (lookE code s = 0)) (hd : Hid (doesE k s = 0)) : Calls Tryd.prog 39 #[.pointer (some ⟨P, 0, none⟩)] w (LeftV p i j q P D R M code w G (doesS k x s) (.bool (((k : Nat) : Int) == 10))) := by
  have H0 := Lib.hid h
  have h1 : s.st = 1 := by simpa using hst
  have HS := Lib.hid h1
  obtain ⟨c0, c1, -⟩ := h.cells
  clear h h1
  go_enter Tryd.func39, Tryd.ntmps39
  go_wp2_with fail
  refine (look_any H0.out HS.out).mono ?_
  rintro e w1 ⟨rfl, G1, a1⟩
  have H1 := Lib.hid (H0.out.still a1)
  have A1 := Lib.hid (a1.mono (T := S4 p i j q) fun _ h => h.elim)
  clear a1 c0 c1
  rw [if_pos he.out, if_pos he.out, he.out, ← hk.out, ← hx.out]
  have hl := look_op code s he.out
  have hk1 : 1 ≤ k := by rw [hk.out]; exact hl.2.2.1
  have hk64 : k < 64 := by rw [hk.out]; exact hl.2.2.2.1
  have hxr := lookX_rng code s
  rw [← hx.out] at hxr
  obtain ⟨hx0, hx1⟩ := hxr
  rw [show primW k = primV k from if_neg (by omega)]
  have HZ := Lib.hid (does_any (w := w1.alloc (.cells #[.int .i64 k, .string (nameB k), .int .i64 (takesN k), .int .i64 (leavesN k), .int .i64 (costsN k), .bool (operandB k)] 25)) (G := own1 w1 G1 0) o k hk1 hk64 x hx0 hx1 ht (H1.out.alloc (.cells #[.int .i64 k, .string (nameB k), .int .i64 (takesN k), .int .i64 (leavesN k), .int .i64 (costsN k), .bool (operandB k)] 25) 0))
  have HB := Lib.hid (heap_alloc_new w1 (.cells #[.int .i64 k, .string (nameB k), .int .i64 (takesN k), .int .i64 (leavesN k), .int .i64 (costsN k), .bool (operandB k)] 25))
  have A2 := Lib.hid (A1.out.alloc (.cells #[.int .i64 k, .string (nameB k), .int .i64 (takesN k), .int .i64 (leavesN k), .int .i64 (costsN k), .bool (operandB k)] 25) 0)
  clear hl
  unfold lookT primV
  go_wp2_with fail
  refine HZ.out.mono ?_
  rw [if_pos hd.out, hd.out]
  rintro e w2 ⟨rfl, G2, a2, h2⟩
  have H2 := Lib.hid h2
  have A3 := Lib.hid (A2.out.trans a2)
  have b0 : w2.cell? ⟨w1.heap.size, 0, none⟩ = some (.int .i64 k) := a2.cell_some (p := ⟨w1.heap.size, 0, none⟩) (block_cell HB.out 0 _ rfl) (by show ¬ S4 p i j q (own1 w1 G1 0 w1.heap.size); rw [own1_new]; exact o.zero)
  clear a2 h2
  go_wp2
  go_ret
  exact ⟨rfl, G2, A3.out, H2.out⟩
/-- Step, of a machine that runs. -/
theorem step_any (o : Own4 p i j q) (hst : s.st = 1) (ht : s.m.tones.length ≤ 99999) (h : VM w G p i j q P D R M code s) : Calls Tryd.prog 39 #[.pointer (some ⟨P, 0, none⟩)] w (LeftV p i j q P D R M code w G (stepS code s) (.bool (stepY code s))) := by
  have hs : (s.st != 1) = false := by simp [hst]
  by_cases he : lookE code s = 0
  · by_cases hd : doesE (lookOp code s) s = 0
    · have e : stepE code s = 0 := (if_neg (by simpa using he)).trans hd
      have es : stepS code s = doesS (lookOp code s) (lookX code s) s := if_neg (by simpa using e)
      have ey : stepY code s = (((lookOp code s : Nat) : Int) == 10) := by
        unfold stepY
        rw [e]
        by_cases h10 : lookOp code s = 10
        · rw [h10]; rfl
        · have a : (lookOp code s == 10) = false := by simpa using h10
          have b : (((lookOp code s : Nat) : Int) == 10) = false := by simp; omega
          rw [a, b]; rfl
      rw [es, ey]
      exact step_ok' o hs ht h _ (Lib.hid rfl) _ (Lib.hid rfl) (Lib.hid he) (Lib.hid hd)
    · have e : stepE code s = doesE (lookOp code s) s := if_neg (by simpa using he)
      have es : stepS code s = { s with st := 3, ft := doesE (lookOp code s) s } := by unfold stepS; rw [if_pos (by rw [e]; exact hd), e]
      have ey : stepY code s = false := by
        unfold stepY
        have : (stepE code s == 0) = false := by rw [e]; simpa using hd
        rw [this]; rfl
      rw [es, ey]
      exact step_e2 o hs ht h _ (Lib.hid rfl) _ (Lib.hid rfl) (Lib.hid he) (by simpa using hd)
  · have e : stepE code s = lookE code s := if_pos he
    have es : stepS code s = { s with st := 3, ft := lookE code s } := by unfold stepS; rw [if_pos (by rw [e]; exact he), e]
    have ey : stepY code s = false := by
      unfold stepY
      have : (stepE code s == 0) = false := by rw [e]; simpa using he
      rw [this]; rfl
    rw [es, ey]
    exact step_e1 o hs ht h (by simpa using he)
theorem step_stop (hst : (s.st != 1) = true) (h : VM w G p i j q P D R M code s) : Calls Tryd.prog 39 #[.pointer (some ⟨P, 0, none⟩)] w fun e w' => e = .returned (.bool false) ∧ w = w' := by
  obtain ⟨c0, c1, -⟩ := h.cells
  clear h
  go_enter Tryd.func39, Tryd.ntmps39
  go_wp2
  go_ret
  exact ⟨rfl, rfl⟩
theorem step_nil (w : World) : Calls Tryd.prog 39 #[.pointer none] w fun e w' => e = .returned (.bool false) ∧ w = w' := by
  go_enter Tryd.func39, Tryd.ntmps39
  go_wp2
  go_ret
  exact ⟨rfl, rfl⟩
end
end Go.Proofs.YtdnalhjdmlkbmaaDoor
namespace Go.Proofs.YtdnalhjdmlkbmaaDoor
open Go.RowKit
set_option linter.unusedVariables false

/-- The tones are forgotten. -/
theorem PMx.setTones {w : World} {G : Nat → Nat} {i D B : Nat} {bs : List Nat} {tv : Value} {M : MemS} (h : PMx w G i D B bs tv M) (hm : MemOk M) : PMx (w.setCell ⟨D, 19463, none⟩ (.slice none 0 0)) G i D B bs (.slice none 0 0) { M with tones := [] } := by
  have hBD : B ≠ D := by
    intro e
    obtain ⟨es, clk, h1, _⟩ := h.map
    obtain ⟨C, h2, _⟩ := h.head
    rw [e, h2] at h1
    cases h1
  refine ⟨?_, h.hown, h.map.of_block (Below.heap_setCell _ _ _ _ hBD), h.mown, h.blen, ?_, Row.nil _ _ _ _ _, h.nodup, h.ne, (fun e => by cases e), (fun b _ e => by cases e)⟩
  · obtain ⟨C, h1, h2⟩ := h.head
    refine ⟨C.setIfInBounds 19463 (.slice none 0 0), ?_, ?_⟩
    · simp only [World.setCell, Array.getElem?_modify, h1]; simp
    · rw [Array.toList_setIfInBounds, h2]
      exact head_setTail B M tv hm 6 _
  · intro k p b hp hbk
    obtain ⟨⟨C, h1, h2⟩, h3⟩ := h.bank k p b hp hbk
    refine ⟨⟨C, (Below.heap_setCell _ _ _ _ ?_).trans h1, h2⟩, h3⟩
    intro e
    exact h.ne (by have := List.mem_of_getElem? hbk; rw [show b = D from e] at this; exact this)
theorem PM.setHead {w : World} {G : Nat → Nat} {q D : Nat} {M M' : MemS} (h : PM w G q D M) (j : Nat) (v : Value) (hh : ∀ B tv, (headC B M tv).set j v = headC B M' tv) (hb : M'.banks = M.banks) (ht : M'.tones = M.tones) :
    Adv (fun o => o = q) w G (w.setCell ⟨D, j, none⟩ v) G ∧ PM (w.setCell ⟨D, j, none⟩ v) G q D M' := by
  obtain ⟨B, bs, tv, h⟩ := h
  exact ⟨(Adv.refl (fun o => o = q) w G).setCell (p := ⟨D, j, none⟩) h.hown v, B, bs, tv, h.setHead j v (hh B tv) hb ht⟩
theorem PM.setTones {w : World} {G : Nat → Nat} {q D : Nat} {M : MemS} (h : PM w G q D M) (hm : MemOk M) : Adv (fun o => o = q) w G (w.setCell ⟨D, 19463, none⟩ (.slice none 0 0)) G ∧ PM (w.setCell ⟨D, 19463, none⟩ (.slice none 0 0)) G q D { M with tones := [] } := by
  obtain ⟨B, bs, tv, h⟩ := h
  exact ⟨(Adv.refl (fun o => o = q) w G).setCell (p := ⟨D, 19463, none⟩) h.hown _, B, bs, _, h.setTones hm⟩
theorem PM.tail {w : World} {G : Nat → Nat} {q D : Nat} {M : MemS} (h : PM w G q D M) (hm : MemOk M) : (∀ k, w.frozen? ⟨D, k, none⟩ = false) ∧ w.cell? ⟨D, 19457, none⟩ = some (.int .u8 M.chosen) ∧ w.cell? ⟨D, 19458, none⟩ = some (.int .u8 M.pad) ∧ w.cell? ⟨D, 19461, none⟩ = some (.int .u16 M.time) ∧ w.cell? ⟨D, 19462, none⟩ = some (.int .i64 M.cycle) ∧ ∃ ta n c, w.cell? ⟨D, 19463, none⟩ = some (.slice ta n c) := by
  obtain ⟨B, bs, tv, h⟩ := h
  obtain ⟨c0, c1, c2, c3, c4, c5, c6⟩ := h.ports hm
  obtain ⟨ta, c, rfl, _⟩ := h.tones.slice
  exact ⟨h.free, c0, c1, c4, c5, ta, _, c, c6⟩
set_option maxRecDepth 100000 in
theorem begin_any (G : Nat → Nat) (q D : Nat) (M : MemS) (hm : MemOk M) (hr : MemR M) (x : Int) (w : World) (hp : PM w G q D M) :
    Calls Tryd.prog 43 #[.pointer (some ⟨D, 0, none⟩), .int .u8 x] w fun e w' => e = .returned (.tuple #[]) ∧ ∃ G', Adv (fun o => o = q) w G w' G' ∧ PM w' G' q D (beginF M x) := by
  obtain ⟨f, c0, c1, c4, c5, ta, n, c, c6⟩ := hp.tail hm
  have hw := wrap_u16_mod (M.time + 1)
  have t0 := hr.time.1
  have t1 := hr.time.2
  have HP := Lib.hid hp
  clear hp
  go_enter Tryd.func43, Tryd.ntmps43
  go_wp2
  go_end0
  obtain ⟨a1, p1⟩ := HP.out.setHead (M' := { M with pad := x }) 19458 (.int .u8 x) (fun B tv => head_setTail B M tv hm 1 _) rfl rfl
  obtain ⟨a2, p2⟩ := p1.setHead (M' := { M with pad := x, time := (M.time + 1) % 65536 }) 19461 (.int .u16 ((M.time + 1) % 65536)) (fun B tv => head_setTail B { M with pad := x } tv ⟨hm.ram, hm.screen, hm.banks⟩ 4 _) rfl rfl
  obtain ⟨a3, p3⟩ := p2.setHead (M' := { M with pad := x, time := (M.time + 1) % 65536, cycle := 0 }) 19462 (.int .i64 0) (fun B tv => head_setTail B { M with pad := x, time := (M.time + 1) % 65536 } tv ⟨hm.ram, hm.screen, hm.banks⟩ 5 _) rfl rfl
  obtain ⟨a4, p4⟩ := p3.setTones ⟨hm.ram, hm.screen, hm.banks⟩
  exact ⟨rfl, G, a1.trans (a2.trans (a3.trans a4)), p4⟩
theorem memAt_any (G : Nat → Nat) (q D : Nat) (M : MemS) (hm : MemOk M) (n : Int) (w : World) (hp : PM w G q D M) :
    Calls Tryd.prog 44 #[.pointer (some ⟨D, 0, none⟩), .int .i64 n] w fun e w' => e = .returned (.tuple #[]) ∧ ∃ G', Adv (fun o => o = q) w G w' G' ∧ PM w' G' q D (atF M n) := by
  obtain ⟨f, c0, c1, c4, c5, -⟩ := hp.tail hm
  have HP := Lib.hid hp
  clear hp
  go_enter Tryd.func44, Tryd.ntmps44
  go_wp2
  go_end0
  obtain ⟨a1, p1⟩ := HP.out.setHead (M' := atF M n) 19462 (.int .i64 n) (fun B tv => head_setTail B M tv hm 5 _) rfl rfl
  exact ⟨rfl, G, a1, p1⟩
/-- A screen's bytes in new memory. -/
def NewBytes (w : World) (G : Nat → Nat) (l : List Int) (e : Ending) (w' : World) : Prop := ∃ b G', e = .returned (.slice (some ⟨b, 0, none⟩) l.length l.length) ∧ Adv (fun _ => False) w G w' G' ∧ G' b = 0 ∧ w.heap.size ≤ b ∧ Reads w' (some ⟨b, 0, none⟩) (u8s l) ∧ b < w'.heap.size
theorem pixZ_size : Tryd.zeroCells133.size = 3072 := by kernel_rfl
theorem infoPix : (Tryd.prog.info? 133).map (·.size) = some 3072 := by kernel_rfl
set_option maxRecDepth 100000 in
theorem screen_any (G : Nat → Nat) (q D : Nat) (M : MemS) (hm : MemOk M) (w : World) (hp : PM w G q D M) :
    Calls Tryd.prog 46 #[.pointer (some ⟨D, 0, none⟩)] w (NewBytes w G M.screen) := by
  obtain ⟨B, bs, tv, hp⟩ := hp
  have hl : M.screen.length = 3072 := hm.screen
  have hrange : w.rangeAt D 16385 (u8s M.screen) := by
    intro j v hv
    have hj : j < 3072 := by
      have := (List.getElem?_eq_some_iff.1 hv).1
      rwa [u8s_length, hl] at this
    have h1 := hp.screenc hm j hj
    have h2 : (u8s M.screen)[j]? = some (.int .u8 (M.screen.getD j 0)) := u8s_at _ j _ (by rw [List.getD_eq_getElem?_getD]; simp [hl, hj])
    rw [h2] at hv
    cases hv
    exact h1
  have HR := Lib.hid hrange
  clear hp hrange
  have hz := heap_alloc_new w (.cells Tryd.zeroCells133 133)
  have hi : (Tryd.prog.info? 133).map (·.size) = some (u8s M.screen).toArray.size := by rw [infoPix]; simp [u8s_length, hl]
  have hs : Tryd.zeroCells133.size = (u8s M.screen).toArray.size := by rw [pixZ_size]; simp [u8s_length, hl]
  have hi2 : (Tryd.prog.info? 133).map (·.size) = some (u8s M.screen).length := by rw [infoPix, u8s_length, hl]
  have ho : (u8s M.screen).toArray.all (·.oneCell') = true := all_oneCell_toArray (u8s_one M.screen)
  have HZ := Lib.hid (And.intro hz (And.intro hi (And.intro hs (And.intro hi2 ho))))
  have HL := Lib.hid hl
  clear hz hi hs hi2 ho hl
  go_enter Tryd.func46, Tryd.ntmps46
  go_wp2_with (first
    | (refine wpList_load_mid rfl 133 (.tmp 8) rfl D 16385 rfl (u8s M.screen) _ HR.out Tryd.underlying133 rfl HZ.out.2.2.2.1 ?_)
    | (refine wpList_store_row rfl 133 (.tmp 3) (.tmp 9) rfl w.heap.size (u8s M.screen).toArray rfl rfl 133 Tryd.zeroCells133 HZ.out.1 HZ.out.2.1 HZ.out.2.2.1 HZ.out.2.2.2.2 ?_))
  go_ret
  have hb := setRow_heap (w.alloc (.cells Tryd.zeroCells133 133)) w.heap.size _ (u8s M.screen).toArray _ _ HZ.out.1
  refine ⟨w.heap.size, own1 w G 0, by rw [HL.out]; rfl, ?_, own1_new _ _ _, Nat.le_refl _, ?_, (Array.getElem?_eq_some_iff.1 hb).1⟩
  · exact ((Adv.refl (fun _ => False) w G).alloc (.cells Tryd.zeroCells133 133) 0).newBlock w.heap.size (Nat.le_refl _) (fun k hk => setRow_other _ _ _ _ hk) (by simp [World.setRow]) rfl rfl rfl
  · exact .inr ⟨w.heap.size, 0, rfl, fun j u hu => block_cell hb (0 + j) u (by simpa using hu)⟩
end Go.Proofs.YtdnalhjdmlkbmaaDoor
namespace Go.Proofs.YtdnalhjdmlkbmaaDoor
open Go.RowKit
set_option linter.unusedVariables false

theorem reads_keep {w w' : World} {a : Option Addr} {xs : List Value} (h : Reads w a xs) (hb : ∀ ad, a = some ad → w'.heap[ad.block]? = w.heap[ad.block]?) : Reads w' a xs := by
  rcases h with h | ⟨b, o, rfl, hr⟩
  · exact .inl h
  · exact .inr ⟨b, o, rfl, fun j u hu => (World.cell?_of_block (a := ⟨b, o + j, none⟩) (hb ⟨b, o, none⟩ rfl)).trans (hr j u hu)⟩
def NewCellsR (w : World) (G : Nat → Nat) (l : List (Int × Int)) (e : Ending) (w' : World) : Prop := ∃ b c G', e = .returned (.slice b l.length c) ∧ Adv (fun _ => False) w G w' G' ∧ Reads w' b (cellsR l) ∧ (∀ ad, b = some ad → G' ad.block = 0 ∧ ad.block < w'.heap.size ∧ w.heap.size ≤ ad.block)
theorem newCellsR (G : Nat → Nat) (i D : Nat) (l : List (Int × Int)) (w : World) (hp : PR w G i D l) (h1 : l.length ≤ 256) : Calls Tryd.prog 22 #[.pointer (some ⟨D, 0, none⟩)] w (NewCellsR w G l) := by
  by_cases h0 : l = []
  · subst h0
    refine (cellsPR_nil G i D w hp).mono fun e w' k => ?_
    obtain ⟨k1, rfl⟩ := k
    exact ⟨none, 0, G, k1, Adv.refl _ _ _, .inl rfl, fun ad h => by cases h⟩
  · refine (cellsPR G i D l w hp h0 (by omega)).mono fun e w' k => ?_
    obtain ⟨k1, rfl⟩ := k
    exact ⟨_, _, own1 w G 0, k1, (Adv.refl _ w G).alloc _ 0, Reads.new w (cellsR l) 59, fun ad h => by cases h; exact ⟨own1_new _ _ _, by simp, Nat.le_refl _⟩⟩
def stateV (s : VmS) (b : Option Addr) (c : Nat) (b2 : Option Addr) (c2 : Nat) : Value := .agg #[.int .u16 s.pc, .int .i64 s.st, .int .i64 s.ft, .slice b s.d.length c, .slice b2 s.r.length c2]
/-- What State answers. -/
def StateIs (w : World) (G : Nat → Nat) (s : VmS) (e : Ending) (w' : World) : Prop := ∃ b c b2 c2 G', e = .returned (stateV s b c b2 c2) ∧ Adv (fun _ => False) w G w' G' ∧ Reads w' b (cellsU s.d) ∧ Reads w' b2 (cellsR s.r) ∧
  (∀ ad, b = some ad → G' ad.block = 0 ∧ ad.block < w'.heap.size ∧ w.heap.size < ad.block) ∧ (∀ ad, b2 = some ad → G' ad.block = 0 ∧ ad.block < w'.heap.size ∧ w.heap.size < ad.block)
theorem state_nil (w : World) (G : Nat → Nat) : Calls Tryd.prog 37 #[.pointer none] w (Looked w G (.agg #[.int .u16 0, .int .i64 0, .int .i64 0, .slice none 0 0, .slice none 0 0])) := by
  go_enter Tryd.func37, Tryd.ntmps37
  go_wp2
  exact bodyPost_ret (v := .agg #[.int .u16 0, .int .i64 0, .int .i64 0, .slice none 0 0, .slice none 0 0]) (by simp [results, Tryd.results37, go_sem]) rfl ⟨rfl, own1 w G 0, (Adv.refl _ w G).alloc _ 0⟩
set_option maxRecDepth 100000 in
set_option maxHeartbeats 1000000 in
theorem state_any {w : World} {G : Nat → Nat} {p i j q P D R M : Nat} {code : List Int} {s : VmS} (h : VM w G p i j q P D R M code s) : Calls Tryd.prog 37 #[.pointer (some ⟨P, 0, none⟩)] w (StateIs w G s) := by
  obtain ⟨Z, hZ⟩ : ∃ Z : Obj, Z = .cells #[.int .u16 0, .int .i64 0, .int .i64 0, .slice none 0 0, .slice none 0 0] 86 := ⟨_, rfl⟩
  have H0 := Lib.hid h
  have HD := Lib.hid (h.alloc (.cells #[.int .u16 0, .int .i64 0, .int .i64 0, .slice none 0 0, .slice none 0 0] 86) 0).drew
  have HA := Lib.hid ((Adv.refl (fun _ => False) w G).alloc (.cells #[.int .u16 0, .int .i64 0, .int .i64 0, .slice none 0 0, .slice none 0 0] 86) 0).drew
  have HG := Lib.hid (heap_alloc_new w (.cells #[.int .u16 0, .int .i64 0, .int .i64 0, .slice none 0 0, .slice none 0 0] 86))
  have hP := h.lt
  obtain ⟨c0, c1, c2, c3, c4, -⟩ := HD.out.cells
  clear h hZ Z
  go_enter Tryd.func37, Tryd.ntmps37
  go_upto_region 3 with fail
  go_region_held3 (fun w' => w'.cell? ⟨P, 0, none⟩ = some (.int .u16 s.pc) ∧ w'.cell? ⟨P, 1, none⟩ = some (.int .i64 s.st) ∧ w'.cell? ⟨P, 2, none⟩ = some (.int .i64 s.ft) ∧ w'.cell? ⟨P, 3, none⟩ = some (.pointer (some ⟨D, 0, none⟩)) ∧ w'.cell? ⟨P, 4, none⟩ = some (.pointer (some ⟨R, 0, none⟩))) (first | with_reducible exact ⟨c0, c1, c2, c3, c4⟩ | with_reducible exact Q1.out | with_reducible exact Q2.out | with_reducible exact Q3.out)
    (first | (go_at_call 26; refine (newCells _ i D s.d _ HD.out.tr.pu HD.out.ok.gd.dl).mono ?_; rintro e w1 ⟨b1, k1, G1, rfl, a1, r1, o1⟩; have A1 := Lib.hid (HA.out.trans a1); have R1 := Lib.hid (And.intro r1 o1); have H1 := Lib.hid (H0.out.still A1.out); have hg1 := (a1.keep w.heap.size (Array.getElem?_eq_some_iff.1 HG.out).1 id).trans HG.out; have HG1 := Lib.hid hg1; obtain ⟨d0, d1, d2, d3, d4, -⟩ := H1.out.cells; have Q1 := Lib.hid (And.intro d0 (And.intro d1 (And.intro d2 (And.intro d3 d4)))); clear a1 r1 o1 hg1 d0 d1 d2 d3 d4) | (go_at_call 22; refine (newCellsR _ j R s.r _ H1.out.tr.pr (by have := H1.out.ok.gd.rl; omega)).mono ?_; rintro e w2 ⟨b2, k2, G2, rfl, a2, r2, o2⟩; have A2 := Lib.hid (A1.out.trans a2); have R2 := Lib.hid (And.intro r2 o2); have A12 := Lib.hid a2; have H2 := Lib.hid (H0.out.still A2.out); have hg2 := (a2.keep w.heap.size (Array.getElem?_eq_some_iff.1 HG1.out).1 id).trans HG1.out; have z0 := block_cell hg2 0 _ rfl; have z1 := block_cell hg2 1 _ rfl; have z2 := block_cell hg2 2 _ rfl; have z3 := block_cell hg2 3 _ rfl; have z4 := block_cell hg2 4 _ rfl; have zf := block_free hg2; obtain ⟨d0, d1, d2, d3, d4, -⟩ := H2.out.cells; have Q2 := Lib.hid (And.intro d0 (And.intro d1 (And.intro d2 (And.intro d3 d4)))); have A3 := Lib.hid (((((A2.out.setNew (p := ⟨w.heap.size, 0, none⟩) (Nat.le_refl _) (.int .u16 s.pc)).setNew (p := ⟨w.heap.size, 1, none⟩) (Nat.le_refl _) (.int .i64 s.st)).setNew (p := ⟨w.heap.size, 2, none⟩) (Nat.le_refl _) (.int .i64 s.ft)).setNew (p := ⟨w.heap.size, 3, none⟩) (Nat.le_refl _) (.slice b1 s.d.length k1)).setNew (p := ⟨w.heap.size, 4, none⟩) (Nat.le_refl _) (.slice b2 s.r.length k2)); obtain ⟨y0, y1, y2, y3, y4, -⟩ := (H0.out.still A3.out).cells; have Q3 := Lib.hid (And.intro y0 (And.intro y1 (And.intro y2 (And.intro y3 y4)))); clear a2 r2 o2 hg2 d0 d1 d2 d3 d4 y0 y1 y2 y3 y4))
  go_wp2_with fail
  obtain ⟨r1, o1⟩ := R1.out
  obtain ⟨r2, o2⟩ := R2.out
  have hk : ∀ k, k ≠ w.heap.size → (((((w2.setCell ⟨w.heap.size, 0, none⟩ (.int .u16 s.pc)).setCell ⟨w.heap.size, 1, none⟩ (.int .i64 s.st)).setCell ⟨w.heap.size, 2, none⟩ (.int .i64 s.ft)).setCell ⟨w.heap.size, 3, none⟩ (.slice b1 s.d.length k1)).setCell ⟨w.heap.size, 4, none⟩ (.slice b2 s.r.length k2)).heap[k]? = w2.heap[k]? := fun k hk => by
    rw [Below.heap_setCell _ _ _ _ hk, Below.heap_setCell _ _ _ _ hk, Below.heap_setCell _ _ _ _ hk, Below.heap_setCell _ _ _ _ hk, Below.heap_setCell _ _ _ _ hk]
  have hsz : (((((w2.setCell ⟨w.heap.size, 0, none⟩ (.int .u16 s.pc)).setCell ⟨w.heap.size, 1, none⟩ (.int .i64 s.st)).setCell ⟨w.heap.size, 2, none⟩ (.int .i64 s.ft)).setCell ⟨w.heap.size, 3, none⟩ (.slice b1 s.d.length k1)).setCell ⟨w.heap.size, 4, none⟩ (.slice b2 s.r.length k2)).heap.size = w2.heap.size := by simp [World.setCell]
  have s1 : w.heap.size < w1.heap.size := (Array.getElem?_eq_some_iff.1 HG1.out).1
  refine bodyPost_ret (v := stateV s b1 k1 b2 k2) (by simp [results, Tryd.results37, go_sem, stateV, z0, z1, z2, z3, z4]) rfl ⟨b1, k1, b2, k2, G2, rfl, A3.out, ?_, ?_, ?_, ?_⟩
  · refine reads_keep (r1.adv A12.out (fun _ _ => id)) fun ad e => hk _ ?_
    have := (o1 ad e).2.2; simp at this; omega
  · refine reads_keep r2 fun ad e => hk _ ?_
    have := (o2 ad e).2.2; omega
  · intro ad e
    have h := o1 ad e
    refine ⟨(A12.out.own _ h.2.1).trans h.1, by rw [hsz]; exact Nat.lt_of_lt_of_le h.2.1 A12.out.size, ?_⟩
    have := h.2.2; simp at this; omega
  · intro ad e
    have h := o2 ad e
    exact ⟨h.1, by rw [hsz]; exact h.2.1, by have := h.2.2; omega⟩
end Go.Proofs.YtdnalhjdmlkbmaaDoor
namespace Go.Proofs.YtdnalhjdmlkbmaaDoor
open Go.RowKit
set_option linter.unusedVariables false

section
variable {w w' : World} {G G' : Nat → Nat} {p i j q P D R M : Nat} {code : List Int} {s s' : VmS}
/-- What others have done leaves a machine as it was. -/
theorem VM.adv {S : Nat → Prop} (h : VM w G p i j q P D R M code s) (ha : Adv S w G w' G') (h0 : ¬ S 0) (h1 : ∀ o, S4 p i j q o → ¬ S o) : VM w' G' p i j q P D R M code s := by
  have hl := h.lt
  obtain ⟨ca, c, e1, e2, e3⟩ := h.head
  exact ⟨⟨ca, c, (ha.keep P hl (by rw [h.hown]; exact h1 p (.inl rfl))).trans e1, e2.adv ha (fun ad e => by rw [(e3 ad e).1]; exact h0), fun ad e => ⟨(ha.own _ (e3 ad e).2).trans (e3 ad e).1, Nat.lt_of_lt_of_le (e3 ad e).2 ha.size⟩⟩, (ha.own P hl).trans h.hown,
    h.tr.adv ha (h1 i (.inr (.inl rfl))) (h1 j (.inr (.inr (.inl rfl)))) (h1 q (.inr (.inr (.inr rfl)))), h.tb.adv ha h0, h.ok⟩
/-- A struct of the call's own: block b, which is 1000's. -/
structure Mine (w0 w : World) (G : Nat → Nat) (b : Nat) (C : Array Value) (T : TypeId) : Prop where
  blk : w.heap[b]? = some (.cells C T (0, 0))
  own : G b = 1000
  new : w0.heap.size ≤ b
theorem Mine.adv {w0 : World} {S : Nat → Prop} {b : Nat} {C : Array Value} {T : TypeId} (h : Mine w0 w G b C T) (ha : Adv S w G w' G') (hs : ¬ S 1000) : Mine w0 w' G' b C T := by
  have hl : b < w.heap.size := (Array.getElem?_eq_some_iff.1 h.blk).1
  exact ⟨(ha.keep b hl (by rw [h.own]; exact hs)).trans h.blk, (ha.own b hl).trans h.own, h.new⟩
theorem Mine.set {w0 : World} {b : Nat} {C : Array Value} {T : TypeId} (h : Mine w0 w G b C T) (k : Nat) (v : Value) : Adv (fun o => o = 1000) w G (w.setCell ⟨b, k, none⟩ v) G ∧ Mine w0 (w.setCell ⟨b, k, none⟩ v) G b (C.setIfInBounds k v) T := by
  refine ⟨(Adv.refl _ w G).setCell (p := ⟨b, k, none⟩) h.own v, ?_, h.own, h.new⟩
  simp only [World.setCell, Array.getElem?_modify, h.blk]; simp
theorem Mine.cell {w0 : World} {b : Nat} {C : Array Value} {T : TypeId} (h : Mine w0 w G b C T) (k : Nat) (v : Value) (hv : C[k]? = some v) : w.cell? ⟨b, k, none⟩ = some v := block_cell h.blk k v hv
theorem Mine.free {w0 : World} {b : Nat} {C : Array Value} {T : TypeId} (h : Mine w0 w G b C T) (k : Nat) : w.frozen? ⟨b, k, none⟩ = false := block_free h.blk k
theorem Mine.made (w : World) (G : Nat → Nat) (w0 : World) (h : w0.heap.size ≤ w.heap.size) (C : Array Value) (T : TypeId) : Mine w0 (w.alloc (.cells C T)) (own1 w G 1000) w.heap.size C T := ⟨heap_alloc_new w _, own1_new _ _ _, h⟩
theorem Mine.other {w0 : World} {b b2 : Nat} {C : Array Value} {T : TypeId} (h : Mine w0 w G b C T) (hb : b ≠ b2) (k : Nat) (v : Value) : Mine w0 (w.setCell ⟨b2, k, none⟩ v) G b C T :=
  ⟨(Below.heap_setCell _ _ _ _ hb).trans h.blk, h.own, h.new⟩
theorem Mine.drew {w0 : World} {b : Nat} {C : Array Value} {T : TypeId} (h : Mine w0 w G b C T) : Mine w0 w.drew G b C T := ⟨h.blk, h.own, h.new⟩
theorem Mine.sett {w0 : World} {b : Nat} {C C' : Array Value} {T : TypeId} (h : Mine w0 w G b C T) (hc : C = C') : Mine w0 w G b C' T := hc ▸ h
/-- A machine's owners are not 1000. -/
def Far (p i j q : Nat) : Prop := ¬ S4 p i j q 1000
theorem VM.mine (o : Own4 p i j q) (hf : Far p i j q) (h : VM w G p i j q P D R M code s) (ha : Adv (fun o => o = 1000) w G w' G') : VM w' G' p i j q P D R M code s :=
  h.adv ha (by decide) (fun o h1 h2 => hf (h2 ▸ h1))
theorem own7 (b : Nat) (hb : G b = 1000) (v0 v1 v2 v3 v4 v5 v6 : Value) : Adv (fun o => o = 1000) w G (((((((w.setCell ⟨b, 0, none⟩ v0).setCell ⟨b, 1, none⟩ v1).setCell ⟨b, 2, none⟩ v2).setCell ⟨b, 3, none⟩ v3).setCell ⟨b, 4, none⟩ v4).setCell ⟨b, 5, none⟩ v5).setCell ⟨b, 6, none⟩ v6) G :=
  (((((((Adv.refl (fun o => o = 1000) w G).setCell (p := ⟨b, 0, none⟩) hb v0).setCell (p := ⟨b, 1, none⟩) hb v1).setCell (p := ⟨b, 2, none⟩) hb v2).setCell (p := ⟨b, 3, none⟩) hb v3).setCell (p := ⟨b, 4, none⟩) hb v4).setCell (p := ⟨b, 5, none⟩) hb v5).setCell (p := ⟨b, 6, none⟩) hb v6
/-- Begin and At of a machine's memory. -/
theorem VM.memCall {m' : MemS} (o : Own4 p i j q) (h : VM w G p i j q P D R M code s) (ha : Adv (fun o => o = q) w G w' G') (hp : PM w' G' q M m') (hok : MemOk m') (hr : MemR m') : Adv (S4 p i j q) w G w' G' ∧ VM w' G' p i j q P D R M code { s with m := m' } := by
  have t := h.tr.mem o.o3 ha hp
  exact ⟨t.1.mono fun _ e => .inr e, VM.next o h t.1 t.2 ⟨⟨h.ok.gd.d16, h.ok.gd.r16, h.ok.gd.dl, h.ok.gd.rl, hok, hr⟩, h.ok.pc0, h.ok.pc1, h.ok.cb, h.ok.cl⟩⟩
/-- Old blocks of 1000's own kind do not count: what a frame has done. -/
def S5 (p i j q : Nat) : Nat → Prop := S4 p i j q
/-- What Frame answers. -/
def FrameIs (p i j q P D R M : Nat) (code : List Int) (w : World) (G : Nat → Nat) (s : VmS) (n c budget : Int) (e : Ending) (w' : World) : Prop :=
  ∃ b ta tc G', e = .returned (.tuple #[.agg #[.int .i64 s.st, .int .i64 s.ft, .int .i64 n, .int .i64 c, .int .i64 (budget - c), .slice (some ⟨b, 0, none⟩) s.m.screen.length s.m.screen.length, .slice ta s.m.tones.length tc], .int .i64 0]) ∧
    Adv (S4 p i j q) w G w' G' ∧ VM w' G' p i j q P D R M code s ∧ (G' b = 0 ∧ Reads w' (some ⟨b, 0, none⟩) (u8s s.m.screen) ∧ b < w'.heap.size ∧ w.heap.size ≤ b) ∧ Row 68 3 w' G' 0 (.slice ta s.m.tones.length tc) s.m.tones.length (tonesC s.m.tones)
theorem frame_nil (x n : Int) (w : World) (G : Nat → Nat) : Calls Tryd.prog 36 #[.pointer none, .int .u8 x, .int .i64 n] w (Looked w G (.tuple #[.agg #[.int .i64 0, .int .i64 0, .int .i64 0, .int .i64 0, .int .i64 0, .slice none 0 0, .slice none 0 0], .int .i64 1])) := by
  go_enter Tryd.func36, Tryd.ntmps36
  go_wp2
  exact bodyPost_ret (v := .tuple #[.agg #[.int .i64 0, .int .i64 0, .int .i64 0, .int .i64 0, .int .i64 0, .slice none 0 0, .slice none 0 0], .int .i64 1]) (by simp [results, Tryd.results36, go_sem]) rfl ⟨rfl, own1 w G 0, (Adv.refl _ w G).alloc _ 0⟩
end
end Go.Proofs.YtdnalhjdmlkbmaaDoor
