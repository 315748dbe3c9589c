/- wisplaw06.does: one primitive on both sides; PrimNone: the walk; PrimEach: the walk; wispref04.Begin, and the document's cycle stored; What is known of an argument that can be read as data: by its type; The arguments of the statements on stacks, as lists; Stacks' cells that come in as arguments, with their ranges; A script's steps that come in as an argument; Push on both sides, whatever comes; both sides' parts by themselves; PrimPlays: the walk; PrimPlays, its argument opened. -/
import Derived.Deep.RegionHeld3
import Derived.ProofKit
import Derived.SizedLaws
import Derived.Deep.Slices
import Derived.StillTailTactics
import Derived.OpenShut
import Derived.ChangeMaps5
import Derived.Test.YtdnalhjdmlkbmaaGreatDoorPrimPlaysU1
import Derived.Test.YtdnalhjdmlkbmaaGreatDoorPrimPlaysU2
import Derived.Test.YtdnalhjdmlkbmaaGreatDoorPrimPlaysU3
import Derived.Test.YtdnalhjdmlkbmaaGreatDoorPrimPlaysU4
import Derived.Test.YtdnalhjdmlkbmaaGreatDoorPrimPlaysU5
import Derived.Test.YtdnalhjdmlkbmaaGreatDoorPrimPlaysU6
import Derived.Test.YtdnalhjdmlkbmaaGreatDoorPrimPlaysU7
import Derived.Test.YtdnalhjdmlkbmaaGreatDoorPrimPlaysU8
set_option linter.unusedVariables false
set_option linter.unusedSimpArgs false
set_option linter.unnecessarySimpa false
namespace Go.Proofs.YtdnalhjdmlkbmaaGreatDoor
open Go.RowKit
set_option linter.unusedVariables false
theorem wpList_max {P : Program} {w : World} {ops : Array Oper} {rest : List Oper} {o : Oper} {a : Act} {Q : Exit → Act → World → Prop} (hgd : o.guard = none) (s x : Operand) (t : TypeId)
    (ho : o.op = .call { callee := .builtin .max, args := #[s, x], argTypes := #[t, t] }) (m n k : Int) (hs : a.eval s = .int .i64 m) (hx : a.eval x = .int .i64 n) (hk : k = max m n)
    (h : wpList P ops Q rest (a.put o.dst (.int .i64 k)) w) : wpList P ops Q (o :: rest) a w := by
  refine wpList_plain hgd fun K hK => ?_
  unfold Oper.wp execOp
  have hr : (Builtin.max_ #[t, t] o.type #[.int .i64 m, .int .i64 n]).run P w = .ok (.int .i64 k) w := by
    simp only [Builtin.max_, List.foldlM, Builtin.max2]
    by_cases h1 : n ≤ m
    · have : k = m := by omega
      have h2 : ¬ m < n := by omega
      simp [this, h2]
    · have : k = n := by omega
      have h2 : m < n := by omega
      simp [this, h2]
  simp only [ho, resolve, invoke, builtin, Sem.run_bind, Sem.run_pure, Result.andThen_ok, List.map_toArray, List.map_cons, List.map_nil, hs, hx, hr]
  exact hK _ _ h
/-- The fault of whatever number; what stands behind it. -/
def fV (op : Int) (l : List Int) (r : List (Int × Int)) : Int := if plainB op = true then faultF op.toNat l r else 6
def aV (op : Int) (l : List Int) (r : List (Int × Int)) (m : MemS) : List Int × List (Int × Int) × MemS := if plainB op = true then doF op.toNat l r m else (l, r, m)
theorem plain_nat {op : Int} (h : plainB op = true) : ∃ k : Nat, op = k ∧ 1 ≤ k ∧ k < 64 := by
  refine ⟨op.toNat, ?_⟩
  simp [plainB] at h
  omega
theorem do_op (op : Int) (G : Nat → Nat) (D R M : Nat) (l : List Int) (r : List (Int × Int)) (m : MemS) (hg : Good3 l r m) (hn : m.tones.length ≤ 99999) (w : World) (ht : Tabs w G) (h : Trio w G 1 2 3 D R M l r m) :
    Calls Tryz.prog 23 #[.int .i64 op, .pointer (some ⟨D, 0, none⟩), .pointer (some ⟨R, 0, none⟩), .pointer (some ⟨M, 0, none⟩)] w (Left3 1 2 3 D R M w G (aV op l r m).1 (aV op l r m).2.1 (aV op l r m).2.2 (.int .i64 (fV op l r))) := by
  unfold aV fV
  by_cases hp : plainB op = true
  · obtain ⟨k, rfl, k1, k9⟩ := plain_nat hp
    rw [if_pos hp, if_pos hp, Int.toNat_natCast]
    exact do_any k k9 hp G 1 2 3 D R M l r m ⟨by decide, by decide, by decide, by decide, by decide, by decide⟩ hg hn w ht h
  · rw [if_neg hp, if_neg hp]
    refine (do_not op (by simpa using hp) _ _ _ w).mono ?_
    rintro e w' ⟨rfl, rfl⟩
    exact ⟨rfl, G, Adv.refl _ _ _, h⟩
theorem refDo_op (op : Int) (G : Nat → Nat) (X Y Z : Nat) (l : List Int) (r : List (Int × Int)) (m : MemS) (t : Nat) (hg : Good3 l r m) (hm : MGood m t) (ht : t ≤ 99999) (w : World) (hd : EU w G 9 X l) (hr : ER w G 8 Y r) (hz : RM w G 11 Z m) :
    Calls Tryz.prog 52 #[.int .i64 op, .pointer (some ⟨X, 0, none⟩), .pointer (some ⟨Y, 0, none⟩), .pointer (some ⟨Z, 0, none⟩)] w (DoIs9 X Y Z w G (aV op l r m).1 (aV op l r m).2.1 (aV op l r m).2.2 (fV op l r)) := by
  unfold aV fV
  by_cases hp : plainB op = true
  · obtain ⟨k, rfl, k1, k9⟩ := plain_nat hp
    rw [if_pos hp, if_pos hp, Int.toNat_natCast]
    exact refDo_k k k1 k9 hp G X Y Z l r m t w hd hr hz hg hm ht
  · rw [if_neg hp, if_neg hp]
    refine (refDo_not op (by simpa using hp) X Y Z w).mono ?_
    rintro e w' ⟨rfl, rfl⟩
    exact ⟨rfl, G, Adv.refl _ _ _, hd, hr, hz⟩
theorem aV_good {op : Int} {l : List Int} {r : List (Int × Int)} {m : MemS} {t : Nat} (hg : Good3 l r m) (hm : MGood m t) : Good3 (aV op l r m).1 (aV op l r m).2.1 (aV op l r m).2.2 ∧ MGood (aV op l r m).2.2 (t + 3) ∧ keysF (aV op l r m).2.2 = keysF m := by
  unfold aV
  by_cases hp : plainB op = true
  · obtain ⟨k, rfl, k1, k9⟩ := plain_nat hp
    rw [if_pos hp, Int.toNat_natCast]
    obtain ⟨h1, h2⟩ := doF_good k k9 hg
    have h3 := doF_keys k k9 l r m
    refine ⟨h1, ⟨h1.mo, h1.mr, ?_, by have := hm.tn; omega⟩, h3⟩
    have h4 := congrArg List.length h3
    unfold keysF at h4
    rw [List.length_map, List.length_map] at h4
    rw [h4]; exact hm.bl
  · rw [if_neg hp]
    exact ⟨hg, hm.wide (by omega), rfl⟩
def SA (o : Nat) : Prop := 1 ≤ o ∧ o < 15
theorem W6h.adv {w w' : World} {G G' : Nat → Nat} {K D R M X Y Z : Nat} {S : Nat → Prop} (h : W6h w G K D R M X Y Z) (ha : Adv S w G w' G') (h0 : ¬ S 0) : W6h w' G' K D R M X Y Z := by
  have hl : K < w.heap.size := (Array.getElem?_eq_some_iff.1 h.1).1
  exact ⟨(ha.keep K hl (by rw [h.2]; exact h0)).trans h.1, (ha.own K hl).trans h.2⟩
theorem W6h.prog {w : World} {G : Nat → Nat} {K D R M X Y Z : Nat} (h : W6h w G K D R M X Y Z) : w.cell? ⟨K, 0, none⟩ = some (.pointer (some ⟨D, 0, none⟩)) ∧ w.cell? ⟨K, 1, none⟩ = some (.pointer (some ⟨R, 0, none⟩)) ∧ w.cell? ⟨K, 2, none⟩ = some (.pointer (some ⟨M, 0, none⟩)) :=
  ⟨block_cell h.1 0 _ rfl, block_cell h.1 1 _ rfl, block_cell h.1 2 _ rfl⟩
theorem W6h.doc {w : World} {G : Nat → Nat} {K D R M X Y Z : Nat} (h : W6h w G K D R M X Y Z) : w.cell? ⟨K, 3, none⟩ = some (.pointer (some ⟨X, 0, none⟩)) ∧ w.cell? ⟨K, 4, none⟩ = some (.pointer (some ⟨Y, 0, none⟩)) ∧ w.cell? ⟨K, 5, none⟩ = some (.pointer (some ⟨Z, 0, none⟩)) :=
  ⟨block_cell h.1 3 _ rfl, block_cell h.1 4 _ rfl, block_cell h.1 5 _ rfl⟩
/-- What does leaves. -/
def DoesIs6 (K D R M X Y Z : Nat) (w : World) (G : Nat → Nat) (l : List Int) (r : List (Int × Int)) (m : MemS) (e : Ending) (w' : World) : Prop :=
  e = .returned (.bool true) ∧ ∃ G', Adv SA w G w' G' ∧ S6 w' G' K D R M X Y Z l r m
set_option maxRecDepth 100000 in
set_option maxHeartbeats 8000000 in
theorem does_w (op : Int) (G : Nat → Nat) (K D R M X Y Z : Nat) (l : List Int) (r : List (Int × Int)) (m : MemS) (t : Nat) (w : World) (ht : Tabs w G) (hs : S6 w G K D R M X Y Z l r m) (hm : MGood m t) (htt : t ≤ 99999) :
    Calls Tryz.prog 10 #[.pointer (some ⟨K, 0, none⟩), .int .i64 op] w (DoesIs6 K D R M X Y Z w G (aV op l r m).1 (aV op l r m).2.1 (aV op l r m).2.2) := by
  have HG2 := Lib.hid (aV_good (op := op) hs.gd hm)
  have PRIM := Lib.hid (fun (G : Nat → Nat) (w : World) (ht : Tabs w G) (h : Trio w G 1 2 3 D R M l r m) => do_op op G D R M l r m hs.gd (Nat.le_trans hm.tn htt) w ht h)
  have DOC := Lib.hid (fun (G : Nat → Nat) (w : World) (hd : EU w G 9 X l) (hr : ER w G 8 Y r) (hz : RM w G 11 Z m) => refDo_op op G X Y Z l r m t hs.gd hm htt w hd hr hz)
  obtain ⟨l', hl'⟩ : ∃ v, v = (aV op l r m).1 := ⟨_, rfl⟩
  obtain ⟨r', hr'⟩ : ∃ v, v = (aV op l r m).2.1 := ⟨_, rfl⟩
  obtain ⟨m', hm'⟩ : ∃ v, v = (aV op l r m).2.2 := ⟨_, rfl⟩
  obtain ⟨f, hf⟩ : ∃ v, v = fV op l r := ⟨_, rfl⟩
  rw [← hl', ← hr', ← hm'] at HG2 PRIM DOC ⊢
  rw [← hf] at PRIM DOC
  have HT := Lib.hid ht
  have HS := Lib.hid hs
  have HTT := Lib.hid htt
  have hn9 := hs.gd.dl
  obtain ⟨n, hn⟩ : ∃ n, n = l.length := ⟨_, rfl⟩
  rw [← hn] at hn9
  obtain ⟨u, hu⟩ : ∃ u : Nat, u = n - 3 := ⟨_, rfl⟩
  obtain ⟨tn, htn⟩ : ∃ v : Nat, n = u + v := ⟨n - u, by omega⟩
  have HMAX := Lib.hid (show max (0 : Int) ((n : Int) - 3) = (u : Int) from by omega)
  have hun : u ≤ n := by omega
  have htn3 : tn ≤ 3 := by omega
  have HXL := Lib.hid (show (l.drop u).length = tn from by rw [List.length_drop]; omega)
  have HX16 := Lib.hid (hs.gd.d16.drop u)
  have HU := Lib.hid htn
  have HU3 := Lib.hid hu
  have HN := Lib.hid hn
  have hw3 : IntKind.i64.wrap ((n : Int) - 3) = (n : Int) - 3 := IntWalk.i64_in _ (by omega)
  obtain ⟨xa, xc, hp, hcs⟩ := hs.eu.lies hn
  have x0 := hp.cell
  have q3 := hs.refs.1
  have hKl := World.block_lt_of_cell? w _ q3
  have hXl := World.block_lt_of_cell? w _ x0
  have HCS := Lib.hid hcs
  have HP := Lib.hid hp
  have hrd0 := Lib.hid (hp.reads.1.alloc (.cells #[] 31))
  have hA0 := (Adv.refl (fun o => o = 9) w (fun _ => 0)).alloc (.cells #[] 31) 9
  have hR0 := Row.new w (fun _ => 0) 31 1 9 0 [] (Nat.zero_le _) rfl
  obtain ⟨Gn, hGn⟩ : ∃ Gn, Gn = own1 w (fun _ => 0) 9 := ⟨_, rfl⟩
  rw [← hGn] at hA0 hR0
  have HA0 := Lib.hid hA0
  have HR0 := Lib.hid hR0
  obtain ⟨i0, hi, hz0, hz1, hz2⟩ := info_parts Tryz.info31
  clear hl' hr' hm' hf ht hs hm htt hn hu htn hp hcs hA0 hR0 hGn
  go_enter Tryz.func10, Tryz.ntmps10
  go_upto_region 2 with fail
  go_cut [6] (fun v6 wx => ∃ xb cx Gx, v6 = .slice xb tn cx ∧ Adv (fun _ => False) w G wx Gx ∧ Has wx Gx xb (cellsU (l.drop u)))
  case first =>
    rcases HCS.out with ⟨rfl, rfl, rfl⟩ | ⟨g, rfl, hc1, hc2⟩
    · obtain ⟨rfl, rfl⟩ : u = 0 ∧ tn = 0 := by have := HU.out; omega
      go_wp2_with (first | (refine wpList_max ?mng (.const (.int .i64 0)) (.tmp 26) 3 ?mno 0 ((n : Int) - 3) u ?mns ?mnx HMAX.out.symm ?mnr; (case mng => rfl); (case mno => rfl); (case mns => rfl); (case mnx => rfl)) | (at_builtin; refine wpList_append_reads rfl (.tmp 17) (.tmp 28) 22 rfl 31 i0 (.int .u16 0) 1 2 Tryz.underlying22 hi hz0 hz1 hz2 rfl (by decide) Gn 9 (some ⟨w.heap.size, 0, none⟩) 0 0 [] rfl HR0.out none 0 0 (cellsU []) rfl rfl (.inl rfl) (cellsU_one _) (by unfold maxLen; omega) (by omega) ?_; intro va vc wq Gq h1 h2; rw [Nat.zero_add, List.nil_append] at h1; rw [Nat.zero_add]))
      go_meet
      obtain ⟨f1, f2⟩ := fresh_row (HA0.out.trans h2) h1 G 0
      exact ⟨va, vc, _, rfl, f1, by rw [show l.drop 0 = [] from by rw [List.drop_zero]; exact List.eq_nil_of_length_eq_zero HN.out.symm]; exact f2.has⟩
    · have hc3 : xc ≤ 9223372036854775807 := by unfold maxLen at hc2; omega
      have hxs := Lib.hid (show Reads (w.alloc (.cells #[] 31)) (some ⟨g, u, none⟩) (cellsU (l.drop u)) from by
        have := reads_dropU hrd0.out u
        rwa [Nat.zero_add] at this)
      by_cases hx : xc = u
      · obtain rfl : tn = 0 := by have := HU.out; omega
        obtain ⟨rfl, rfl⟩ : n = 0 ∧ u = 0 := by have := HU.out; have := HU3.out; omega
        subst hx
        go_wp2_with (first | (refine wpList_max ?mng (.const (.int .i64 0)) (.tmp 26) 3 ?mno 0 ((n : Int) - 3) u ?mns ?mnx HMAX.out.symm ?mnr; (case mng => rfl); (case mno => rfl); (case mns => rfl); (case mnx => rfl)) | (at_builtin; refine wpList_append_reads rfl (.tmp 17) (.tmp 28) 22 rfl 31 i0 (.int .u16 0) 1 2 Tryz.underlying22 hi hz0 hz1 hz2 rfl (by decide) Gn 9 (some ⟨w.heap.size, 0, none⟩) 0 0 [] rfl HR0.out (some ⟨g, 0, none⟩) 0 0 (cellsU []) rfl rfl (.inl rfl) (cellsU_one _) (by unfold maxLen; omega) (by omega) ?_; intro va vc wq Gq h1 h2; rw [Nat.zero_add, List.nil_append] at h1; rw [Nat.zero_add]))
        go_meet
        obtain ⟨f1, f2⟩ := fresh_row (HA0.out.trans h2) h1 G 0
        exact ⟨va, vc, _, rfl, f1, by rw [show l.drop 0 = [] from List.eq_nil_of_length_eq_zero HXL.out]; exact f2.has⟩
      · have hsub : n - u = tn := by have := HU.out; omega
        go_wp2_with (first | (refine wpList_max ?mng (.const (.int .i64 0)) (.tmp 26) 3 ?mno 0 ((n : Int) - 3) u ?mns ?mnx HMAX.out.symm ?mnr; (case mng => rfl); (case mno => rfl); (case mns => rfl); (case mnx => rfl)) | (at_builtin; refine wpList_append_reads rfl (.tmp 17) (.tmp 28) 22 rfl 31 i0 (.int .u16 0) 1 2 Tryz.underlying22 hi hz0 hz1 hz2 rfl (by decide) Gn 9 (some ⟨w.heap.size, 0, none⟩) 0 0 [] rfl HR0.out (some ⟨g, u, none⟩) tn (xc - u) (cellsU (l.drop u)) rfl (by rw [cellsU_length, HXL.out, Nat.mul_one]) hxs.out (cellsU_one _) (by unfold maxLen; omega) (by omega) ?_; intro va vc wq Gq h1 h2; rw [Nat.zero_add, List.nil_append] at h1; rw [Nat.zero_add]))
        go_meet
        obtain ⟨f1, f2⟩ := fresh_row (HA0.out.trans h2) h1 G 0
        exact ⟨va, vc, _, by first | rfl | rw [hsub], f1, f2.has⟩
  case rest =>
    obtain ⟨xb, cx, G1, rfl, a1, hx⟩ := hcut
    have A1 := Lib.hid a1
    have hdr := (Adv.refl (fun _ => False) wc G1).drew
    have S1 := Lib.hid ((HS.out.still a1).still hdr)
    have AC := Lib.hid (a1.trans hdr)
    have HX := Lib.hid (hx.adv hdr id)
    have HT1 := Lib.hid ((HT.out.adv a1 id).adv hdr id)
    have QC := S1.out.cells
    clear a1 hx hdr
    go_upto_region 3 with fail
    go_cut [7] (fun v7 wx => v7 = .int .i64 f ∧ ∃ Gx, Adv (S3 1 2 3) w G wx Gx ∧ Has wx Gx xb (cellsU (l.drop u)) ∧ Trio wx Gx 1 2 3 D R M l' r' m' ∧ EU wx Gx 9 X l ∧ ER wx Gx 8 Y r ∧ RM wx Gx 11 Z m ∧ W6h wx Gx K D R M X Y Z)
    case first =>
      go_region_held3 (fun w' => w'.cell? ⟨K, 0, none⟩ = some (.pointer (some ⟨D, 0, none⟩)) ∧ w'.cell? ⟨K, 1, none⟩ = some (.pointer (some ⟨R, 0, none⟩)) ∧ w'.cell? ⟨K, 2, none⟩ = some (.pointer (some ⟨M, 0, none⟩))) (first | with_reducible exact QC | with_reducible assumption)
        (first | (go_at_call 23; refine (PRIM.out G1 _ HT1.out ⟨S1.out.pu, S1.out.pr, S1.out.pm⟩).mono ?_; rintro e wz ⟨rfl, Gz, az, hz⟩; have S2 := Lib.hid hz; have A2 := Lib.hid az; have hw2 := S1.out.hw.adv az (by unfold S3; omega); have W2 := Lib.hid hw2; have QC := hw2.prog; clear az hz hw2))
      all_goals
        go_wp2_with fail
        go_meet
        exact ⟨rfl, _, (AC.out.mono fun _ h => h.elim).trans A2.out, HX.out.adv A2.out (by unfold S3; omega), S2.out, S1.out.eu.adv A2.out (by unfold S3; omega), S1.out.er.adv A2.out (by unfold S3; omega), S1.out.rm.adv A2.out (by unfold S3; omega), W2.out⟩
    case rest =>
      obtain ⟨rfl, G2, a2, hx2, htr, e2, r2, z2, hw2⟩ := hcut
      obtain ⟨w2, rfl⟩ : ∃ x : World, x = wc := ⟨_, rfl⟩
      have hdr := (Adv.refl (fun _ => False) w2 G2).drew
      have A2 := Lib.hid (a2.trans (hdr.mono (T := S3 1 2 3) fun _ h => h.elim))
      have X2 := Lib.hid (hx2.adv hdr id)
      have T2 := Lib.hid (htr.still hdr)
      have D2 := Lib.hid (And.intro (e2.adv hdr id) (And.intro (r2.adv hdr id) (z2.adv hdr fun _ _ => id)))
      have hw3 := hw2.adv hdr id
      have W2 := Lib.hid hw3
      have QC := hw3.doc
      clear a2 hx2 htr e2 r2 z2 hw2 hw3 hdr S1 HX HT1 AC
      go_upto_region 4 with fail
      go_cut [8] (fun v8 wx => v8 = .int .i64 f ∧ ∃ Gx, Adv SA w G wx Gx ∧ Has wx Gx xb (cellsU (l.drop u)) ∧ S6 wx Gx K D R M X Y Z l' r' m')
      case first =>
        go_region_held3 (fun w' => w'.cell? ⟨K, 3, none⟩ = some (.pointer (some ⟨X, 0, none⟩)) ∧ w'.cell? ⟨K, 4, none⟩ = some (.pointer (some ⟨Y, 0, none⟩)) ∧ w'.cell? ⟨K, 5, none⟩ = some (.pointer (some ⟨Z, 0, none⟩))) (first | with_reducible exact QC | with_reducible assumption)
          (first | (go_at_call 52; refine (DOC.out G2 _ D2.out.1 D2.out.2.1 D2.out.2.2).mono ?_; rintro e wz ⟨rfl, Gz, az, e3, r3, z3⟩; have A3 := Lib.hid az; have D3 := Lib.hid (And.intro e3 (And.intro r3 z3)); have hw3 := W2.out.adv az (by unfold S9; omega); have W3 := Lib.hid hw3; have QC := hw3.doc; clear az e3 r3 z3 hw3))
        all_goals
          go_wp2_with fail
          go_meet
          exact ⟨rfl, _, (A2.out.mono fun o h => by unfold S3 at h; exact ⟨by omega, by omega⟩).trans (A3.out.mono fun o h => ⟨by have := h.1; omega, h.2⟩), X2.out.adv A3.out (by unfold S9; omega), W3.out, T2.out.pu.adv A3.out (by unfold S9; omega), T2.out.pr.adv A3.out (by unfold S9; omega), T2.out.pm.adv A3.out (by unfold S9; omega), D3.out.1, D3.out.2.1, D3.out.2.2, HG2.out.1⟩
      case rest =>
        obtain ⟨rfl, G3, a3, hx3, hs3⟩ := hcut
        obtain ⟨w3, rfl⟩ : ∃ x : World, x = wc := ⟨_, rfl⟩
        have A3 := Lib.hid a3
        have X3 := Lib.hid hx3
        have S3' := Lib.hid hs3
        clear a3 hx3 hs3 A2 X2 T2 D2 W2 QC
        go_wp2_with fail
        refine (stacks_any G3 K D R M X Y Z l' r' m' w3 S3'.out).mono ?_
        rintro e w4 ⟨rfl, G4, a4⟩
        have A4 := Lib.hid (A3.out.trans (a4.mono (T := SA) fun _ h => h.elim))
        have X4 := Lib.hid (X3.out.adv a4 id)
        have S4' := Lib.hid (S3'.out.still a4)
        clear a4
        go_wp2_with fail
        refine (near_any G4 K D R M X Y Z l' r' m' (t + 3) xb tn cx (l.drop u) w4 S4'.out HG2.out.2.1 (by have := HTT.out; omega) HXL.out htn3 X4.out.1 HX16.out).mono ?_
        rintro e w5 ⟨rfl, G5, a5⟩
        have A5 := Lib.hid (A4.out.trans (a5.mono (T := SA) fun _ h => h.elim))
        have S5' := Lib.hid (S4'.out.still a5)
        clear a5
        go_wp2
        go_ret
        exact ⟨rfl, G5, A5.out, S5'.out⟩
end Go.Proofs.YtdnalhjdmlkbmaaGreatDoor
namespace Go.Proofs.YtdnalhjdmlkbmaaGreatDoor
open Go.RowKit
set_option linter.unusedVariables false
theorem bornS (G : Nat → Nat) (xa : Option Addr) (m c : Nat) (l : List Int) (ya : Option Addr) (m2 c2 : Nat) (lr : List (Int × Int)) (w : World) (hl : l.length = m) (hr : Reads w xa (cellsU l)) (hcap : m ≤ c) (hc1 : c ≤ 9223372036854775807)
    (hlr : lr.length = m2) (hrr : Reads w ya (cellsR lr)) (hcap2 : m2 ≤ c2) (hc2 : c2 ≤ 9223372036854775807) (hwf : ∀ c ∈ lr, -9223372036854775808 ≤ c.1 ∧ c.1 ≤ 9223372036854775807) (hd : D16 l) (hR : R16 lr) :
    Calls Tryz.prog 9 #[.slice xa m c, .slice ya m2 c2] w fun e w' => ∃ K D R M X Y Z G', e = .returned (.pointer (some ⟨K, 0, none⟩)) ∧ Adv (fun _ => False) w G w' G' ∧ S6 w' G' K D R M X Y Z (l.take 256) ((lr.take 128).map normR) (newM banks2) := by
  refine (bornF G xa m c l ya m2 c2 lr w hl hr hcap hc1 hlr hrr hcap2 hc2 hwf).mono ?_
  rintro e w' ⟨K, D, R, M, X, Y, Z, G', rfl, ha, hw, h1, h2, h3, h4, h5, h6⟩
  refine ⟨K, D, R, M, X, Y, Z, G', rfl, ha, hw, h1, h2, h3, h4, h5, h6, ⟨hd.take _, ?_, ?_, ?_, banks2_ok, banks2_rng⟩⟩
  · intro c hc
    obtain ⟨c', hc', rfl⟩ := List.mem_map.1 hc
    exact hR c' (List.mem_of_mem_take hc')
  · rw [List.length_take]; omega
  · rw [List.length_map, List.length_take]; omega
set_option maxRecDepth 100000 in
set_option maxHeartbeats 4000000 in
theorem none_any (op : Int) (xa : Option Addr) (m c : Nat) (l : List Int) (ya : Option Addr) (m2 c2 : Nat) (lr : List (Int × Int)) (w : World) (ht : Tabs w (fun _ => 0)) (hl : l.length = m) (hr : Reads w xa (cellsU l)) (hcap : m ≤ c) (hc1 : c ≤ 9223372036854775807)
    (hlr : lr.length = m2) (hrr : Reads w ya (cellsR lr)) (hcap2 : m2 ≤ c2) (hc2 : c2 ≤ 9223372036854775807) (hwf : ∀ c ∈ lr, -9223372036854775808 ≤ c.1 ∧ c.1 ≤ 9223372036854775807) (hd : D16 l) (hR : R16 lr) :
    Calls Tryz.prog 5 #[.int .i64 op, .slice xa m c, .slice ya m2 c2] w fun e w' => e = .returned (.bool true) ∧ ∃ G', Adv (fun _ => False) w (fun _ => 0) w' G' := by
  have BORN := Lib.hid (bornS (fun _ => 0) xa m c l ya m2 c2 lr w hl hr hcap hc1 hlr hrr hcap2 hc2 hwf hd hR)
  have HT := Lib.hid ht
  obtain ⟨d0, hd0⟩ : ∃ d, d = l.take 256 := ⟨_, rfl⟩
  obtain ⟨r0, hr0⟩ : ∃ r, r = (lr.take 128).map normR := ⟨_, rfl⟩
  obtain ⟨m0, hm0⟩ : ∃ m, m = newM banks2 := ⟨_, rfl⟩
  rw [← hd0, ← hr0, ← hm0] at BORN
  have hz0 : m0.tones.length ≤ 1000000 ∧ keysF m0 = [0, 9] := by
    rw [hm0]
    refine ⟨?_, rfl⟩
    show 0 ≤ 1000000
    omega
  have Z0 := Lib.hid hz0
  clear ht hl hr hcap hc1 hlr hrr hcap2 hc2 hwf hd hR hd0 hr0 hm0 hz0
  go_enter Tryz.func5, Tryz.ntmps5
  go_wp2_with fail
  refine BORN.out.mono ?_
  rintro e w1 ⟨K, D, R, M, X, Y, Z, G1, rfl, a1, h1⟩
  have A1 := Lib.hid a1
  have H1 := Lib.hid h1
  have HT1 := Lib.hid (HT.out.adv (Zo.of a1 id) id)
  clear a1 h1
  go_wp2_with fail
  refine (fixed_any G1 w1 HT1.out).mono ?_
  rintro e w2 ⟨rfl, G2, a2⟩
  have hdr := (Adv.refl (fun _ => False) w2 G2).drew
  have AC := Lib.hid (A1.out.trans (a2.trans hdr))
  have HC := Lib.hid ((H1.out.still a2).still hdr)
  have QC := HC.out.cells
  clear a2 hdr A1 H1
  go_upto_region 4 with fail
  go_region_held3 (fun w' => w'.cell? ⟨K, 0, none⟩ = some (.pointer (some ⟨D, 0, none⟩)) ∧ w'.cell? ⟨K, 1, none⟩ = some (.pointer (some ⟨R, 0, none⟩)) ∧ w'.cell? ⟨K, 2, none⟩ = some (.pointer (some ⟨M, 0, none⟩))) (first | with_reducible exact QC | with_reducible assumption)
    (first | (go_at_call 23; refine (do_nil1 op _ _ _).mono ?_; rintro e wz ⟨rfl, rfl⟩))
  obtain ⟨w3, hw3⟩ : ∃ v, v = w2.drew := ⟨_, rfl⟩
  rw [← hw3] at AC HC QC ⊢
  clear hw3
  have hdr := (Adv.refl (fun _ => False) w3 G2).drew
  have AC := Lib.hid (AC.out.trans hdr)
  have HC := Lib.hid (HC.out.still hdr)
  have QC := HC.out.cells
  clear hdr
  go_upto_region 5 with fail
  go_region_held3 (fun w' => w'.cell? ⟨K, 0, none⟩ = some (.pointer (some ⟨D, 0, none⟩)) ∧ w'.cell? ⟨K, 1, none⟩ = some (.pointer (some ⟨R, 0, none⟩)) ∧ w'.cell? ⟨K, 2, none⟩ = some (.pointer (some ⟨M, 0, none⟩))) (first | with_reducible exact QC | with_reducible assumption)
    (first | (go_at_call 23; refine (do_nil2 op D _ _).mono ?_; rintro e wz ⟨rfl, rfl⟩))
  obtain ⟨w4, hw4⟩ : ∃ v, v = w3.drew := ⟨_, rfl⟩
  rw [← hw4] at AC HC QC ⊢
  clear hw4
  have hdr := (Adv.refl (fun _ => False) w4 G2).drew
  have AC := Lib.hid (AC.out.trans hdr)
  have HC := Lib.hid (HC.out.still hdr)
  have QC := HC.out.cells
  clear hdr
  go_upto_region 6 with fail
  go_region_held3 (fun w' => w'.cell? ⟨K, 0, none⟩ = some (.pointer (some ⟨D, 0, none⟩)) ∧ w'.cell? ⟨K, 1, none⟩ = some (.pointer (some ⟨R, 0, none⟩)) ∧ w'.cell? ⟨K, 2, none⟩ = some (.pointer (some ⟨M, 0, none⟩))) (first | with_reducible exact QC | with_reducible assumption)
    (first | (go_at_call 23; refine (do_nil3 op D R _).mono ?_; rintro e wz ⟨rfl, rfl⟩))
  obtain ⟨w5, hw5⟩ : ∃ v, v = w4.drew := ⟨_, rfl⟩
  rw [← hw5] at AC HC QC ⊢
  clear hw5 QC
  go_wp2_with fail
  refine (do_nil1 op _ _ _).mono ?_
  rintro e wz ⟨rfl, rfl⟩
  go_wp2_with fail
  go_loopw [12] (fun v wr => ∃ k : Int, -1 ≤ k ∧ k ≤ 66 ∧ v = .int .i64 k ∧ ∃ Gr, Adv (fun _ => False) w (fun _ => 0) wr Gr ∧ S6 wr Gr K D R M X Y Z d0 r0 m0) (fun v _ => (66 - intOf v).toNat)
  case atStart => exact ⟨-1, by omega, by omega, rfl, G2, AC.out, HC.out⟩
  case round =>
    obtain ⟨k, hk0, hk, rfl, Gr, ar, hs⟩ := hrel
    by_cases hlt : k < 66
    · have hdr := (Adv.refl (fun _ => False) wr Gr).drew
      have AR := Lib.hid ar
      have HR := Lib.hid hs
      have AD := Lib.hid (ar.trans hdr)
      have HD := Lib.hid (hs.still hdr)
      clear ar hs hdr
      go_wp2_with fail
      refine (plain_any k _).mono ?_
      rintro e w' ⟨rfl, rfl⟩
      by_cases hpl : plainB k = true
      · rw [hpl]
        clear hpl
        go_wp2
        go_roundw
        case rel => exact ⟨k + 1, by omega, by omega, by go_num, Gr, AR.out, HR.out⟩
        case measure => simp [intOf]; omega
      · have hpl : plainB k = false := by simpa using hpl
        rw [hpl]
        have HPL := Lib.hid hpl
        have QC := HD.out.cells
        clear hpl
        go_upto_region 15 with fail
        go_region_held3 (fun w' => w'.cell? ⟨K, 0, none⟩ = some (.pointer (some ⟨D, 0, none⟩)) ∧ w'.cell? ⟨K, 1, none⟩ = some (.pointer (some ⟨R, 0, none⟩)) ∧ w'.cell? ⟨K, 2, none⟩ = some (.pointer (some ⟨M, 0, none⟩))) (first | with_reducible exact QC | with_reducible assumption)
          (first | (go_at_call 23; refine (do_not k HPL.out _ _ _ _).mono ?_; rintro e wz ⟨rfl, rfl⟩))
        go_wp2
        go_roundw
        case rel => exact ⟨k + 1, by omega, by omega, by go_num, Gr, AD.out, HD.out⟩
        case measure => simp [intOf]; omega
    · have AR := Lib.hid ar
      have HR := Lib.hid hs
      clear ar hs
      go_wp2_with fail
      refine (stacks_any Gr K D R M X Y Z d0 r0 m0 wr HR.out).mono ?_
      rintro e w6 ⟨rfl, G6, a6⟩
      have A6 := Lib.hid (AR.out.trans a6)
      have H6 := Lib.hid (HR.out.still a6)
      clear a6
      go_wp2_with fail
      refine (memories_any G6 3 11 K D R M X Y Z m0 H6.out.gd.mo Z0.out.2 Z0.out.1 w6 H6.out.hw H6.out.pm H6.out.rm).mono ?_
      rintro e w7 ⟨rfl, G7, a7⟩
      have A7 := Lib.hid (A6.out.trans a7)
      clear a7
      go_wp2
      go_ret
      exact ⟨rfl, G7, A7.out⟩
end Go.Proofs.YtdnalhjdmlkbmaaGreatDoor
namespace Go.Proofs.YtdnalhjdmlkbmaaGreatDoor
open Go.RowKit
set_option linter.unusedVariables false
def cellsZ (l : List Int) : List Value := l.map (.int .i64)
theorem cellsZ_length (l : List Int) : (cellsZ l).length = l.length := by simp [cellsZ]
theorem cellsZ_one (l : List Int) : ∀ u ∈ cellsZ l, u.oneCell' = true := by
  intro u hu
  unfold cellsZ at hu
  obtain ⟨x, _, rfl⟩ := List.mem_map.1 hu
  rfl
theorem infoInt : (Tryz.prog.info? 3).map (fun i => (i.zero, i.size, i.bytes)) = some (some (.int .i64 0), 1, 8) := by kernel_rfl
def SW (o : Nat) : Prop := 1 ≤ o ∧ o ≤ 20
theorem sw0 : ¬ SW 0 := by unfold SW; omega
theorem banks2_good : MGood (newM banks2) 0 := ⟨banks2_ok, banks2_rng, by show 2 ≤ 1000000; omega, by show 0 ≤ 0; omega⟩
set_option maxRecDepth 100000 in
set_option maxHeartbeats 4000000 in
theorem each_any (op : Int) (xa : Option Addr) (m c : Nat) (l : List Int) (ya : Option Addr) (m2 c2 : Nat) (lr : List (Int × Int)) (w : World) (ht : Tabs w (fun _ => 0)) (hl : l.length = m) (hr : Reads w xa (cellsU l)) (hcap : m ≤ c) (hc1 : c ≤ 9223372036854775807)
    (hlr : lr.length = m2) (hrr : Reads w ya (cellsR lr)) (hcap2 : m2 ≤ c2) (hc2 : c2 ≤ 9223372036854775807) (hwf : ∀ c ∈ lr, -9223372036854775808 ≤ c.1 ∧ c.1 ≤ 9223372036854775807) (hd : D16 l) (hR : R16 lr) :
    Calls Tryz.prog 3 #[.slice xa m c, .slice ya m2 c2, .int .i64 op] w fun e w' => e = .returned (.bool true) ∧ ∃ G', Adv SW w (fun _ => 0) w' G' := by
  have BORN := Lib.hid (fun (G : Nat → Nat) (w' : World) (h : Adv SW w (fun _ => 0) w' G) => bornS G xa m c l ya m2 c2 lr w' hl (hr.adv h fun _ _ => sw0) hcap hc1 hlr (hrr.adv h fun _ _ => sw0) hcap2 hc2 hwf hd hR)
  have HT := Lib.hid ht
  obtain ⟨d0, hd0⟩ : ∃ d, d = l.take 256 := ⟨_, rfl⟩
  obtain ⟨r0, hr0⟩ : ∃ r, r = (lr.take 128).map normR := ⟨_, rfl⟩
  obtain ⟨m0, hm0⟩ : ∃ m, m = newM banks2 := ⟨_, rfl⟩
  rw [← hd0, ← hr0, ← hm0] at BORN
  have M0 := Lib.hid (show MGood m0 0 from by rw [hm0]; exact banks2_good)
  obtain ⟨i0, hi, hz0, hz1, hz2⟩ := info_parts infoInt
  clear ht hl hr hcap hc1 hlr hrr hcap2 hc2 hwf hd hR hd0 hr0 hm0
  go_enter Tryz.func3, Tryz.ntmps3
  go_wp2_with fail
  refine (fixed_any (fun _ => 0) w HT.out).mono ?_
  rintro e w1 ⟨rfl, G1, a1⟩
  have ha0 := (a1.mono (T := SW) fun _ h => h.elim).trans (((Adv.refl SW w1 G1)).alloc (.cells #[.int .i64 op] 3) 20)
  have A0 := Lib.hid ha0
  have R0 := Lib.hid (show Row 3 1 (w1.alloc (.cells #[.int .i64 op] 3)) (own1 w1 G1 20) 20 (.slice (some ⟨w1.heap.size, 0, none⟩) 1 1) 1 (cellsZ [op]) from Row.new w1 G1 3 1 20 1 (cellsZ [op]) (by unfold maxLen; omega) rfl)
  clear a1 ha0
  go_wp2_with fail
  go_loopw [7, 8] (fun v u wr => ∃ (i : Int) (n : Nat) (va : Option Addr) (vc : Nat) (L : List Int), -1 ≤ i ∧ i ≤ 66 ∧ (n : Int) ≤ i + 2 ∧ i + 2 ≤ n ∧ u = .int .i64 i ∧ v = .slice va n vc ∧ ∃ Gr, Adv SW w (fun _ => 0) wr Gr ∧ Row 3 1 wr Gr 20 (.slice va n vc) n (cellsZ L)) (fun v u _ => (66 - intOf u).toNat)
  case atStart => exact ⟨-1, 1, _, _, [op], by omega, by omega, by omega, by omega, rfl, rfl, _, A0.out, R0.out⟩
  case round =>
    obtain ⟨i, n, va, vc, L, hi0, hi9, hn1, hn2, rfl, rfl, Gr, ar, rr⟩ := hrel
    by_cases hlt : i < 66
    · have AR := Lib.hid ar
      have ha := (Adv.refl (fun _ => False) wr Gr).alloc (.cells #[.int .i64 i] 3) 0
      have hra := rr.adv ha id
      obtain ⟨Ga, hGa⟩ : ∃ g, g = own1 wr Gr 0 := ⟨_, rfl⟩
      rw [← hGa] at ha hra
      have HA := Lib.hid ha
      have RA := Lib.hid hra
      have NA := Lib.hid (show Reads (wr.alloc (.cells #[.int .i64 i] 3)) (some ⟨wr.heap.size, 0, none⟩) (cellsZ [i]) from Reads.new wr (cellsZ [i]) 3)
      clear ar rr ha hra hGa
      go_wp2_with (first | (at_builtin; refine wpList_append_reads rfl (.tmp 20) (.tmp 22) 25 rfl 3 i0 (.int .i64 0) 1 8 Tryz.underlying25 hi hz0 hz1 hz2 rfl (by decide) Ga 20 va n vc (cellsZ L) rfl RA.out (some ⟨wr.heap.size, 0, none⟩) 1 1 (cellsZ [i]) rfl rfl NA.out (cellsZ_one _) (by unfold maxLen; omega) (by omega) ?_; intro vb vd w1 G1 h1 h2; have R1 := Lib.hid h1; have A1 := Lib.hid h2; clear h1 h2))
      go_roundw
      case rel => exact ⟨i + 1, n + 1, _, _, L ++ [i], by omega, by omega, by omega, by omega, by go_num, rfl, G1, (AR.out.trans (HA.out.mono fun _ h => h.elim)).trans (A1.out.mono fun o h => by subst h; exact ⟨by omega, by omega⟩), by have h := R1.out; unfold cellsZ at h ⊢; rw [List.map_append]; exact h⟩
      case measure => simp [intOf]; omega
    · obtain rfl : n = 68 := by omega
      obtain ⟨wo, rfl⟩ : ∃ x : World, x = wr := ⟨_, rfl⟩
      have AR := Lib.hid ar
      have RR := Lib.hid rr
      clear ar rr
      go_wp2_with fail
      go_loopw [9] (fun v wr => ∃ i : Nat, i ≤ 68 ∧ v = .int .i64 i ∧ ∃ Gr, Adv SW w (fun _ => 0) wr Gr ∧ Row 3 1 wr Gr 20 (.slice va 68 vc) 68 (cellsZ L)) (fun v _ => (68 - intOf v).toNat)
      case atStart => exact ⟨0, by omega, rfl, _, AR.out, RR.out⟩
      case round =>
        obtain ⟨j, hj0, rfl, Gr, ar, rr⟩ := hrel
        by_cases hlt2 : j < 68
        · have hLl : L.length = 68 := by have := rr.nlen; rw [cellsZ_length] at this; omega
          obtain ⟨z, hz⟩ : ∃ z, L[j]? = some z := ⟨L[j]'(by omega), List.getElem?_eq_getElem _⟩
          have hget : (cellsZ L)[j]? = some (.int .i64 z) := by unfold cellsZ; rw [List.getElem?_map, hz]; rfl
          obtain ⟨g, rfl⟩ : ∃ g, va = some ⟨g, 0, none⟩ := by
            obtain ⟨a', c', e1, _, _, h6⟩ := rr.slice
            cases e1; exact h6 (by omega)
          obtain ⟨hg, hG, hf, hc⟩ := rr.at (by omega)
          have qx := hc j _ hget
          have AR := Lib.hid ar
          have RR := Lib.hid rr
          clear ar rr hz hget hc hf hG hg hLl
          go_wp2_with fail
          refine (BORN.out Gr wr AR.out).mono ?_
          rintro e w2 ⟨K, D, R, M, X, Y, Z, G2, rfl, a2, s2⟩
          have A2 := Lib.hid (AR.out.trans (a2.mono (T := SW) fun _ h => h.elim))
          have R2 := Lib.hid (RR.out.adv a2 id)
          have S2 := Lib.hid s2
          have T2 := Lib.hid (HT.out.adv A2.out sw0)
          have q2 := a2.cell_some qx id
          clear a2 s2 qx
          go_wp2_with fail
          refine (does_w z G2 K D R M X Y Z d0 r0 m0 0 w2 T2.out S2.out M0.out (by omega)).mono ?_
          rintro e w3 ⟨rfl, G3, a3, s3⟩
          have A3 := Lib.hid (A2.out.trans (a3.mono (T := SW) fun o h => ⟨h.1, by have := h.2; omega⟩))
          have R3 := Lib.hid (R2.out.adv a3 (by unfold SA; omega))
          clear a3 s3 q2
          go_wp2
          go_roundw
          case rel => exact ⟨j + 1, by omega, by go_num, G3, A3.out, R3.out⟩
          case measure => simp [intOf]; omega
        · have AR := Lib.hid ar
          clear ar rr
          go_wp2
          go_ret
          exact ⟨rfl, Gr, AR.out⟩
end Go.Proofs.YtdnalhjdmlkbmaaGreatDoor
namespace Go.Proofs.YtdnalhjdmlkbmaaGreatDoor
open Go.RowKit
set_option linter.unusedVariables false
section
variable {w : World} {G : Nat → Nat} {d D ra sa : Nat} {bs : List Nat} {bv tv : Value} {m : MemS}
theorem RMx.setPad (h : RMx w G d D ra sa bs bv tv m) (x : Int) : Adv (SD d) w G (w.setCell ⟨D, 4, none⟩ (.int .u8 x)) G ∧ RMx (w.setCell ⟨D, 4, none⟩ (.int .u8 x)) G d D ra sa bs bv tv { m with pad := x } :=
  h.setHead 4 _ { m with pad := x } rfl rfl rfl rfl (by simp only [World.setCell, Array.getElem?_modify, h.head]; simp)
theorem RMx.setTime (h : RMx w G d D ra sa bs bv tv m) (x : Int) : Adv (SD d) w G (w.setCell ⟨D, 7, none⟩ (.int .u16 x)) G ∧ RMx (w.setCell ⟨D, 7, none⟩ (.int .u16 x)) G d D ra sa bs bv tv { m with time := x } :=
  h.setHead 7 _ { m with time := x } rfl rfl rfl rfl (by simp only [World.setCell, Array.getElem?_modify, h.head]; simp)
theorem RMx.setCycle (h : RMx w G d D ra sa bs bv tv m) (x : Int) : Adv (SD d) w G (w.setCell ⟨D, 8, none⟩ (.int .i64 x)) G ∧ RMx (w.setCell ⟨D, 8, none⟩ (.int .i64 x)) G d D ra sa bs bv tv { m with cycle := x } :=
  h.setHead 8 _ { m with cycle := x } rfl rfl rfl rfl (by simp only [World.setCell, Array.getElem?_modify, h.head]; simp)
theorem RMx.setNil (h : RMx w G d D ra sa bs bv tv m) : Adv (SD d) w G (w.setCell ⟨D, 9, none⟩ (.slice none 0 0)) G ∧ RMx (w.setCell ⟨D, 9, none⟩ (.slice none 0 0)) G d D ra sa bs bv (.slice none 0 0) { m with tones := [] } := by
  have ha := (Adv.refl (fun o => o = d) w G).setCell (p := ⟨D, 9, none⟩) h.hown (.slice none 0 0)
  refine ⟨ha.mono fun o e => by subst e; exact ⟨by omega, by omega⟩, ?_, h.hown, h.row.adv ha (by omega), h.blen, h.ram.adv ha (by omega), h.scr.adv ha (by omega), fun j p b hp hb => (h.bank j p b hp hb).adv ha (by omega), Row.nil _ _ _ _ _, h.nodup⟩
  simp only [World.setCell, Array.getElem?_modify, h.head]; simp
end
set_option maxRecDepth 100000 in
theorem refBegin_any (G : Nat → Nat) (d D : Nat) (m : MemS) (hr : MemR m) (x : Int) (w : World) (hp : RM w G d D m) :
    Calls Tryz.prog 44 #[.pointer (some ⟨D, 0, none⟩), .int .u8 x] w (RStore w G d D (beginF m x)) := by
  obtain ⟨ra, sa, bs, bv, tv, hp⟩ := hp
  have c4 := block_cell hp.head 4 _ rfl
  have c7 := block_cell hp.head 7 _ rfl
  have c8 := block_cell hp.head 8 _ rfl
  have c9 := block_cell hp.head 9 _ rfl
  have f4 := block_free hp.head 4
  have f7 := block_free hp.head 7
  have f8 := block_free hp.head 8
  have f9 := block_free hp.head 9
  have hw := wrap_u16_mod (m.time + 1)
  have t0 := hr.time.1
  have t1 := hr.time.2
  obtain ⟨ta, tc, rfl, -⟩ := hp.tones.slice
  have HP := Lib.hid hp
  clear hp
  go_enter Tryz.func44, Tryz.ntmps44
  go_wp2
  go_end0
  obtain ⟨a1, p1⟩ := HP.out.setPad x
  obtain ⟨a2, p2⟩ := p1.setTime ((m.time + 1) % 65536)
  obtain ⟨a3, p3⟩ := p2.setNil
  obtain ⟨a4, p4⟩ := p3.setCycle 0
  exact ⟨rfl, G, a1.trans (a2.trans (a3.trans a4)), ra, sa, bs, bv, _, p4⟩
end Go.Proofs.YtdnalhjdmlkbmaaGreatDoor
namespace Go.Proofs.YtdnalhjdmlkbmaaGreatDoor
open Go.RowKit Go.ChangeShapes Go.WideShapes

/-- Cells that read as data of type t have the form K, and what they hold is within the reach. -/
def Opens (P : Program) (t : TypeId) {α : Type} (K : World → α → List Value → Prop) : Prop :=
  ∀ {H : Type} (enc : TypeId × Value → H) (w : World) (fuel : Nat) (cs : List Value) (x : DataW H × List MemPlace), DataW.trod enc P w 0 (fun _ => true) true fuel t cs = some x →
    (∀ n ∈ DataW.weights P t x.1, n ≤ reachBytes) → ∃ a, K w a cs

def kInt (k : IntKind) : World → Int → List Value → Prop := fun _ n cs => cs = [.int k n] ∧ (Lit.int k n).wf = true
def kBool : World → Bool → List Value → Prop := fun _ b cs => cs = [.bool b]
def kString : World → ByteArray → List Value → Prop := fun _ s cs => cs = [.string s] ∧ s.size ≤ 140737488351232
/-- A slice: its elements, each of 'size' cells; its capacity is within the reach. -/
def kSlice {α : Type} (size bytes : Nat) (K : World → α → List Value → Prop) : World → List α → List Value → Prop := fun w l cs =>
  ∃ a c, cs = [.slice a l.length c] ∧ l.length ≤ c ∧ c * bytes ≤ 140737488351232 ∧
    (l = [] ∨ ∃ b o, a = some ⟨b, o, none⟩ ∧ ∀ i x, l[i]? = some x → ∃ cs', K w x cs' ∧ cs'.length = size ∧ ∀ j u, cs'[j]? = some u → w.cell? ⟨b, o + i * size + j, none⟩ = some u)

theorem opens_int {P : Program} {t : TypeId} {k : IntKind} (ht : P.underlying t = some (.int k)) : Opens P t (kInt k) := by
  intro H enc w fuel cs x h _
  obtain ⟨n, rfl, _, hw⟩ := DataW.trod_int ht h
  exact ⟨n, rfl, hw⟩
theorem opens_bool {P : Program} {t : TypeId} (ht : P.underlying t = some .bool) : Opens P t kBool := by
  intro H enc w fuel cs x h _
  obtain ⟨n, rfl, _⟩ := DataW.trod_bool ht h
  exact ⟨n, rfl⟩
theorem opens_string {P : Program} {t : TypeId} (ht : P.underlying t = some .string) : Opens P t kString := by
  intro H enc w fuel cs x h hr
  obtain ⟨s, rfl, rfl, _⟩ := DataW.trod_string ht h
  refine ⟨s, rfl, ?_⟩
  have := hr s.data.toList.length (by simp [DataW.weights])
  simpa [reachBytes] using this

theorem weights_all {H : Type} {P : Program} {e : TypeId} : ∀ {l : List (DataW H)} {d : DataW H}, d ∈ l → ∀ n ∈ d.weights P e, n ∈ DataW.weightsAll P e l
  | [], d, hd, _, _ => by simp at hd
  | y :: l, d, hd, n, hn => by
    rcases List.mem_cons.1 hd with rfl | h
    · simp [DataW.weightsAll, hn]
    · simp [DataW.weightsAll, weights_all h n hn]

/-- From each place to a list. -/
theorem list_of {α : Type} {p : Nat → α → Prop} : ∀ (n : Nat), (∀ i, i < n → ∃ y, p i y) → ∃ l : List α, l.length = n ∧ ∀ i x, l[i]? = some x → p i x
  | 0, _ => ⟨[], rfl, fun i x hi => by simp at hi⟩
  | m + 1, each => by
    obtain ⟨l, h1, h2⟩ := list_of m (fun i hi => each i (by omega))
    obtain ⟨y, hy⟩ := each m (by omega)
    refine ⟨l ++ [y], by simp [h1], fun i x hi => ?_⟩
    by_cases him : i < l.length
    · exact h2 i x (by rwa [List.getElem?_append_left him] at hi)
    · rw [List.getElem?_append_right (by omega)] at hi
      obtain ⟨rfl, rfl⟩ : i = m ∧ x = y := by
        rw [List.getElem?_singleton] at hi
        split at hi
        · exact ⟨by omega, by simpa using hi.symm⟩
        · cases hi
      exact hy
theorem opens_slice {P : Program} {t e : TypeId} {α : Type} {K : World → α → List Value → Prop} {size bytes : Nat} (ht : P.underlying t = some (.slice e)) (hc : P.cellsOf e = size) (hs : 0 < size) (hb : P.bytesOf e = bytes) (hK : Opens P e K) :
    Opens P t (kSlice size bytes K) := by
  intro H enc w fuel cs x h hr
  rcases DataW.trod_slice ht h with ⟨rfl, rfl⟩ | ⟨a, len, cap, elems, rest, n, _, rfl, rfl, _, hl, _, hlen, hel, hsp, _⟩
  · exact ⟨[], none, 0, rfl, Nat.le_refl _, by omega, .inl rfl⟩
  · obtain ⟨hrl, _⟩ := hsp rfl
    have hcap : cap * bytes ≤ 140737488351232 := by
      have := hr ((elems.map (·.1)).length + (rest.map (·.1)).length |> (· * P.bytesOf e)) (by simp [DataW.weights, ht])
      simp only [List.length_map, hlen, hrl, hb, reachBytes] at this
      rwa [show len + (cap - len) = cap from by omega] at this
    have each : ∀ i, i < len → ∃ y, ∃ cs', K w y cs' ∧ cs'.length = size ∧ ∀ j u, cs'[j]? = some u → w.cell? (a.add (i * size + j)) = some u := by
      intro i hi
      have h1 := hel i hi
      obtain ⟨ei, hei⟩ : ∃ ei, elems[i]? = some ei := ⟨elems[i]'(by omega), by simp⟩
      rw [hei, hc] at h1
      cases hcs : w.cells? 0 (a.add (i * size)) size with
      | none => rw [hcs] at h1; simp at h1
      | some cs' =>
        rw [hcs] at h1
        simp only [Option.bind_some] at h1
        obtain ⟨_, hcl, hcell⟩ := World.cells?_some hcs
        obtain ⟨y, hy⟩ := hK enc w n cs' ei h1 (fun m hm => hr m (by
          simp only [DataW.weights, ht, List.mem_cons, List.mem_append]
          exact .inr (.inl (weights_all (List.mem_map.2 ⟨ei, List.mem_of_getElem? hei, rfl⟩) m hm))))
        refine ⟨y, cs', hy, hcl, fun j u hj => ?_⟩
        have hjl : j < size := by rw [← hcl]; exact (List.getElem?_eq_some_iff.1 hj).1
        have := hcell j hjl
        rw [Go.Deep.add_add] at this
        rw [this]; exact hj
    rcases Nat.eq_zero_or_pos len with h0 | hpos
    · exact ⟨[], some a, cap, by rw [h0]; rfl, by simp, hcap, .inl rfl⟩
    · have hsp0 : ∃ b o, a = ⟨b, o, none⟩ := by
        obtain ⟨y, cs', _, hcl, hcell⟩ := each 0 hpos
        obtain ⟨u, hu⟩ : ∃ u, cs'[0]? = some u := ⟨cs'[0]'(by omega), by simp⟩
        have h2 := hcell 0 u hu
        simp only [Nat.zero_mul, Nat.add_zero, Addr.add_zero'] at h2
        obtain ⟨b, o, sp⟩ := a
        cases sp with
        | none => exact ⟨b, o, rfl⟩
        | some _ => simp only [World.cell?] at h2; split at h2 <;> simp at h2
      obtain ⟨b, o, rfl⟩ := hsp0
      obtain ⟨l, h1, h2⟩ := list_of len each
      refine ⟨l, some ⟨b, o, none⟩, cap, by rw [h1], by omega, hcap, .inr ⟨b, o, rfl, fun i x hi => ?_⟩⟩
      obtain ⟨cs', ha, hb', hc'⟩ := h2 i x hi
      refine ⟨cs', ha, hb', fun j u hj => ?_⟩
      have := hc' j u hj
      rwa [Addr.add_lit, ← Nat.add_assoc] at this

/-- A struct of two fields; of five. -/
theorem opens_struct2 {P : Program} {t : TypeId} {f0 f1 : Field} {α β : Type} {K0 : World → α → List Value → Prop} {K1 : World → β → List Value → Prop} (ht : P.underlying t = some (.struct #[f0, f1]))
    (h0 : Opens P f0.type K0) (h1 : Opens P f1.type K1) : Opens P t (fun w (x : α × β) cs => cs.length = P.cellsOf t ∧ K0 w x.1 ((cs.drop f0.offset).take (P.cellsOf f0.type)) ∧ K1 w x.2 ((cs.drop f1.offset).take (P.cellsOf f1.type))) := by
  intro H enc w fuel cs x h hr
  obtain ⟨xs, n, _, rfl, hl, hlen, hf⟩ := DataW.trod_struct ht h
  match xs, hlen with
  | [y0, y1], _ =>
    have g0 := hf 0 f0 rfl
    have g1 := hf 1 f1 rfl
    have e : DataW.weights P t (.agg ([y0, y1].map (·.1))) = y0.1.weights P f0.type ++ (y1.1.weights P f1.type ++ []) := by simp [DataW.weights, ht, DataW.weightsEach]
    obtain ⟨a, ha⟩ := h0 enc w n _ y0 g0 (fun m hm => hr m (by rw [e]; simp [hm]))
    obtain ⟨b, hb⟩ := h1 enc w n _ y1 g1 (fun m hm => hr m (by rw [e]; simp [hm]))
    exact ⟨(a, b), hl, ha, hb⟩
theorem opens_struct5 {P : Program} {t : TypeId} {f0 f1 f2 f3 f4 : Field} {α β γ δ ε : Type} {K0 : World → α → List Value → Prop} {K1 : World → β → List Value → Prop} {K2 : World → γ → List Value → Prop} {K3 : World → δ → List Value → Prop} {K4 : World → ε → List Value → Prop}
    (ht : P.underlying t = some (.struct #[f0, f1, f2, f3, f4])) (h0 : Opens P f0.type K0) (h1 : Opens P f1.type K1) (h2 : Opens P f2.type K2) (h3 : Opens P f3.type K3) (h4 : Opens P f4.type K4) :
    Opens P t (fun w (x : α × β × γ × δ × ε) cs => cs.length = P.cellsOf t ∧ K0 w x.1 ((cs.drop f0.offset).take (P.cellsOf f0.type)) ∧ K1 w x.2.1 ((cs.drop f1.offset).take (P.cellsOf f1.type)) ∧
      K2 w x.2.2.1 ((cs.drop f2.offset).take (P.cellsOf f2.type)) ∧ K3 w x.2.2.2.1 ((cs.drop f3.offset).take (P.cellsOf f3.type)) ∧ K4 w x.2.2.2.2 ((cs.drop f4.offset).take (P.cellsOf f4.type))) := by
  intro H enc w fuel cs x h hr
  obtain ⟨xs, n, _, rfl, hl, hlen, hf⟩ := DataW.trod_struct ht h
  match xs, hlen with
  | [y0, y1, y2, y3, y4], _ =>
    have e : DataW.weights P t (.agg ([y0, y1, y2, y3, y4].map (·.1))) = y0.1.weights P f0.type ++ (y1.1.weights P f1.type ++ (y2.1.weights P f2.type ++ (y3.1.weights P f3.type ++ (y4.1.weights P f4.type ++ [])))) := by simp [DataW.weights, ht, DataW.weightsEach]
    obtain ⟨a, ha⟩ := h0 enc w n _ y0 (hf 0 f0 rfl) (fun m hm => hr m (by rw [e]; simp [hm]))
    obtain ⟨b, hb⟩ := h1 enc w n _ y1 (hf 1 f1 rfl) (fun m hm => hr m (by rw [e]; simp [hm]))
    obtain ⟨c, hc⟩ := h2 enc w n _ y2 (hf 2 f2 rfl) (fun m hm => hr m (by rw [e]; simp [hm]))
    obtain ⟨d, hd⟩ := h3 enc w n _ y3 (hf 3 f3 rfl) (fun m hm => hr m (by rw [e]; simp [hm]))
    obtain ⟨f, hf⟩ := h4 enc w n _ y4 (hf 4 f4 rfl) (fun m hm => hr m (by rw [e]; simp [hm]))
    exact ⟨(a, b, c, d, f), hl, ha, hb, hc, hd, hf⟩

/-- An argument: its value's cells have the form K. -/
theorem opens_arg {P : Program} {H : Type} {enc : TypeId × Value → H} {w : World} {ts : List TypeId} {ds : List (DataW H)} (hsz : (DataW.weightsEach P ts ds).all (· ≤ reachBytes) = true) {j : Nat} {t : TypeId} {d : DataW H} {v : Value} {p : List MemPlace}
    {α : Type} {K : World → α → List Value → Prop} (hK : Opens P t K) (h : DataW.Trod enc P w 0 (fun _ => true) true t v d p) (htj : ts[j]? = some t) (hdj : ds[j]? = some d) : ∃ a, K w a v.cells.toList := by
  obtain ⟨fuel, hf⟩ := h
  exact hK enc w fuel _ _ hf (fun n hn => by simpa using List.all_eq_true.1 hsz n (DataW.weights_mem_each htj hdj n hn))
#print axioms opens_slice
end Go.Proofs.YtdnalhjdmlkbmaaGreatDoor
namespace Go.Proofs.YtdnalhjdmlkbmaaGreatDoor
open Go.RowKit Go.ChangeShapes Go.WideShapes

theorem Tryz.cells31 : Tryz.prog.cellsOf 31 = 1 := by kernel_rfl
theorem Tryz.bytes31 : Tryz.prog.bytesOf 31 = 2 := by kernel_rfl
theorem Tryz.cells111 : Tryz.prog.cellsOf 111 = 2 := by kernel_rfl
theorem Tryz.bytes111 : Tryz.prog.bytesOf 111 = 16 := by kernel_rfl
theorem Tryz.cells3 : Tryz.prog.cellsOf 3 = 1 := by kernel_rfl

theorem opens22 : Opens Tryz.prog 22 (kSlice 1 2 (kInt .u16)) := opens_slice Tryz.underlying22 Tryz.cells31 (by omega) Tryz.bytes31 (opens_int Tryz.underlying31)
theorem kU {w : World} {l : List Int} {cs : List Value} (h : kSlice 1 2 (kInt .u16) w l cs) : ∃ a c, cs = [.slice a l.length c] ∧ l.length ≤ c ∧ c ≤ 70368744175616 ∧ Reads w a (cellsU l) := by
  obtain ⟨a, c, rfl, h1, h2, h3⟩ := h
  refine ⟨a, c, rfl, h1, by omega, ?_⟩
  rcases h3 with rfl | ⟨b, o, rfl, h3⟩
  · exact .inl rfl
  · refine .inr ⟨b, o, rfl, fun j u hu => ?_⟩
    simp only [cellsU, List.getElem?_map, Option.map_eq_some_iff] at hu
    obtain ⟨x, hx, rfl⟩ := hu
    obtain ⟨cs', ⟨rfl, _⟩, _, hc⟩ := h3 j x hx
    have := hc 0 _ rfl
    simpa using this
/-- The cells of an api.Cell. -/
def kCell : World → Int × Int → List Value → Prop := fun _ c cs => cs = [.int .i64 c.1, .int .u16 c.2]
theorem opens43 : Opens Tryz.prog 111 kCell := by
  intro H enc w fuel cs x h hr
  obtain ⟨a, h1, h2, h3⟩ := opens_struct2 Tryz.underlying111 (opens_int Tryz.underlying3) (opens_int Tryz.underlying31) enc w fuel cs x h hr
  rw [Tryz.cells111] at h1
  rw [Tryz.cells3] at h2
  rw [Tryz.cells31] at h3
  match cs, h1 with
  | [c0, c1], _ =>
    have e0 := h2.1
    have e1 := h3.1
    simp at e0 e1
    exact ⟨a, by rw [e0, e1]; rfl⟩
theorem opens36 : Opens Tryz.prog 23 (kSlice 2 16 kCell) := opens_slice Tryz.underlying23 Tryz.cells111 (by omega) Tryz.bytes111 opens43
theorem cellsR_get (l : List (Int × Int)) : ∀ (j : Nat) (u : Value), (cellsR l)[j]? = some u → ∃ (i : Nat) (d : Nat) (c : Int × Int), j = i * 2 + d ∧ l[i]? = some c ∧ [Value.int .i64 c.1, .int .u16 c.2][d]? = some u := by
  induction l with
  | nil => intro j u h; simp [cellsR] at h
  | cons c l ih =>
    intro j u h
    simp only [cellsR, List.flatMap_cons] at h ih
    match j with
    | 0 => exact ⟨0, 0, c, rfl, rfl, h⟩
    | 1 => exact ⟨0, 1, c, rfl, rfl, h⟩
    | j + 2 =>
      obtain ⟨i, d, c', h1, h2, h3⟩ := ih j u h
      exact ⟨i + 1, d, c', by omega, h2, h3⟩
theorem kR {w : World} {l : List (Int × Int)} {cs : List Value} (h : kSlice 2 16 kCell w l cs) : ∃ a c, cs = [.slice a l.length c] ∧ l.length ≤ c ∧ c ≤ 8796093021952 ∧ Reads w a (cellsR l) := by
  obtain ⟨a, c, rfl, h1, h2, h3⟩ := h
  refine ⟨a, c, rfl, h1, by omega, ?_⟩
  rcases h3 with rfl | ⟨b, o, rfl, h3⟩
  · exact .inl rfl
  · refine .inr ⟨b, o, rfl, fun j u hu => ?_⟩
    obtain ⟨i, d, x, rfl, hx, hd⟩ := cellsR_get l j u hu
    obtain ⟨cs', rfl, _, hc⟩ := h3 i x hx
    have := hc d _ hd
    rwa [← Nat.add_assoc]
theorem slice_of {a a' : Option Addr} {n n' c c' : Nat} (h : (Value.slice a n c).cells.toList = [.slice a' n' c']) : Value.slice a n c = .slice a' n' c' := by simpa [Value.cells] using h
end Go.Proofs.YtdnalhjdmlkbmaaGreatDoor
namespace Go.Proofs.YtdnalhjdmlkbmaaGreatDoor
open Go.RowKit Go.ChangeShapes Go.WideShapes
set_option linter.unusedVariables false
theorem wf_i64_of {n : Int} (h : (Lit.int .i64 n).wf = true) : -9223372036854775808 ≤ n ∧ n ≤ 9223372036854775807 := by
  simp [Lit.wf, IntKind.min, IntKind.max, IntKind.signed, IntKind.bits] at h
  omega
theorem kUW {w : World} {l : List Int} {cs : List Value} (h : kSlice 1 2 (kInt .u16) w l cs) : ∃ a c, cs = [.slice a l.length c] ∧ l.length ≤ c ∧ c ≤ 70368744175616 ∧ Reads w a (cellsU l) ∧ D16 l := by
  obtain ⟨a, c, h1, h2, h3, h4⟩ := kU h
  refine ⟨a, c, h1, h2, h3, h4, fun x hx => ?_⟩
  obtain ⟨b, d, _, _, _, h5⟩ := h
  rcases h5 with rfl | ⟨b, o, rfl, h5⟩
  · cases hx
  · obtain ⟨j, hj⟩ := List.getElem?_of_mem hx
    obtain ⟨cs', ⟨_, hw⟩, _⟩ := h5 j x hj
    exact wf_u16_of hw
/-- The cells of an api.Cell, with their ranges. -/
def kCellW : World → Int × Int → List Value → Prop := fun _ c cs => cs = [.int .i64 c.1, .int .u16 c.2] ∧ (Lit.int .i64 c.1).wf = true ∧ (Lit.int .u16 c.2).wf = true
theorem opensCellW : Opens Tryz.prog 111 kCellW := by
  intro H enc w fuel cs x h hr
  obtain ⟨a, h1, h2, h3⟩ := opens_struct2 Tryz.underlying111 (opens_int Tryz.underlying3) (opens_int Tryz.underlying31) enc w fuel cs x h hr
  have w2 := h2.2
  have w3 := h3.2
  rw [Tryz.cells111] at h1
  rw [Tryz.cells3] at h2
  rw [Tryz.cells31] at h3
  match cs, h1 with
  | [c0, c1], _ =>
    have e0 := h2.1
    have e1 := h3.1
    simp at e0 e1
    exact ⟨a, by rw [e0, e1], w2, w3⟩
theorem opensCellsW : Opens Tryz.prog 23 (kSlice 2 16 kCellW) := opens_slice Tryz.underlying23 Tryz.cells111 (by omega) Tryz.bytes111 opensCellW
theorem kRW {w : World} {l : List (Int × Int)} {cs : List Value} (h : kSlice 2 16 kCellW w l cs) : ∃ a c, cs = [.slice a l.length c] ∧ l.length ≤ c ∧ c ≤ 8796093021952 ∧ Reads w a (cellsR l) ∧ R16 l ∧ (∀ x ∈ l, -9223372036854775808 ≤ x.1 ∧ x.1 ≤ 9223372036854775807) := by
  obtain ⟨a, c, rfl, h1, h2, h3⟩ := h
  have hall : ∀ x ∈ l, (Lit.int .i64 x.1).wf = true ∧ (Lit.int .u16 x.2).wf = true := by
    intro x hx
    rcases h3 with rfl | ⟨b, o, rfl, h3⟩
    · cases hx
    · obtain ⟨j, hj⟩ := List.getElem?_of_mem hx
      obtain ⟨cs', ⟨_, hw⟩, _⟩ := h3 j x hj
      exact hw
  refine ⟨a, c, rfl, h1, by omega, ?_, fun x hx => wf_u16_of (hall x hx).2, fun x hx => wf_i64_of (hall x hx).1⟩
  rcases h3 with rfl | ⟨b, o, rfl, h3⟩
  · exact .inl rfl
  · refine .inr ⟨b, o, rfl, fun j u hu => ?_⟩
    obtain ⟨i, d, x, rfl, hx, hd⟩ := cellsR_get l j u hu
    obtain ⟨cs', ⟨rfl, _⟩, _, hc⟩ := h3 i x hx
    have := hc d _ hd
    rwa [← Nat.add_assoc]
end Go.Proofs.YtdnalhjdmlkbmaaGreatDoor
namespace Go.Proofs.YtdnalhjdmlkbmaaGreatDoor
open Go.RowKit Go.ChangeShapes Go.WideShapes
set_option linter.unusedVariables false
theorem opens_struct6 {P : Program} {t : TypeId} {f0 f1 f2 f3 f4 f5 : Field} {α β γ δ ε ζ : Type} {K0 : World → α → List Value → Prop} {K1 : World → β → List Value → Prop} {K2 : World → γ → List Value → Prop} {K3 : World → δ → List Value → Prop} {K4 : World → ε → List Value → Prop} {K5 : World → ζ → List Value → Prop}
    (ht : P.underlying t = some (.struct #[f0, f1, f2, f3, f4, f5])) (h0 : Opens P f0.type K0) (h1 : Opens P f1.type K1) (h2 : Opens P f2.type K2) (h3 : Opens P f3.type K3) (h4 : Opens P f4.type K4) (h5 : Opens P f5.type K5) :
    Opens P t (fun w (x : α × β × γ × δ × ε × ζ) cs => cs.length = P.cellsOf t ∧ K0 w x.1 ((cs.drop f0.offset).take (P.cellsOf f0.type)) ∧ K1 w x.2.1 ((cs.drop f1.offset).take (P.cellsOf f1.type)) ∧ K2 w x.2.2.1 ((cs.drop f2.offset).take (P.cellsOf f2.type)) ∧ K3 w x.2.2.2.1 ((cs.drop f3.offset).take (P.cellsOf f3.type)) ∧ K4 w x.2.2.2.2.1 ((cs.drop f4.offset).take (P.cellsOf f4.type)) ∧ K5 w x.2.2.2.2.2 ((cs.drop f5.offset).take (P.cellsOf f5.type))) := by
  intro H enc w fuel cs x h hr
  obtain ⟨xs, n, _, rfl, hl, hlen, hf⟩ := DataW.trod_struct ht h
  match xs, hlen with
  | [y0, y1, y2, y3, y4, y5], _ =>
    have e : DataW.weights P t (.agg ([y0, y1, y2, y3, y4, y5].map (·.1))) = y0.1.weights P f0.type ++ (y1.1.weights P f1.type ++ (y2.1.weights P f2.type ++ (y3.1.weights P f3.type ++ (y4.1.weights P f4.type ++ (y5.1.weights P f5.type ++ []))))) := by simp [DataW.weights, ht, DataW.weightsEach]
    obtain ⟨a0, g0⟩ := h0 enc w n _ y0 (hf 0 f0 rfl) (fun m hm => hr m (by rw [e]; simp [hm]))
    obtain ⟨a1, g1⟩ := h1 enc w n _ y1 (hf 1 f1 rfl) (fun m hm => hr m (by rw [e]; simp [hm]))
    obtain ⟨a2, g2⟩ := h2 enc w n _ y2 (hf 2 f2 rfl) (fun m hm => hr m (by rw [e]; simp [hm]))
    obtain ⟨a3, g3⟩ := h3 enc w n _ y3 (hf 3 f3 rfl) (fun m hm => hr m (by rw [e]; simp [hm]))
    obtain ⟨a4, g4⟩ := h4 enc w n _ y4 (hf 4 f4 rfl) (fun m hm => hr m (by rw [e]; simp [hm]))
    obtain ⟨a5, g5⟩ := h5 enc w n _ y5 (hf 5 f5 rfl) (fun m hm => hr m (by rw [e]; simp [hm]))
    exact ⟨(a0, a1, a2, a3, a4, a5), hl, g0, g1, g2, g3, g4, g5⟩
/-- A step: kind, op, cells for the data stack, cells for the return stack, an address, a byte. -/
structure StepS where
  kind : Int
  op : Int
  x : List Int
  c : List (Int × Int)
  at_ : Int
  b : Int
def kStep : World → StepS → List Value → Prop := fun w s cs => ∃ xa xc ya yc, cs = [.int .i64 s.kind, .int .i64 s.op, .slice xa s.x.length xc, .slice ya s.c.length yc, .int .u16 s.at_, .int .u8 s.b] ∧ s.x.length ≤ xc ∧ xc ≤ 70368744175616 ∧ Reads w xa (cellsU s.x) ∧ D16 s.x ∧
  s.c.length ≤ yc ∧ yc ≤ 8796093021952 ∧ Reads w ya (cellsR s.c) ∧ R16 s.c ∧ (0 ≤ s.at_ ∧ s.at_ < 65536) ∧ (0 ≤ s.b ∧ s.b < 256)
theorem cells_step : Tryz.prog.cellsOf 100 = 6 := by kernel_rfl
theorem bytes_step : Tryz.prog.bytesOf 100 = 72 := by kernel_rfl
theorem cells_sl16 : Tryz.prog.cellsOf 22 = 1 := by kernel_rfl
theorem cells_slC : Tryz.prog.cellsOf 23 = 1 := by kernel_rfl
theorem cells_int1 : Tryz.prog.cellsOf 3 = 1 := by kernel_rfl
theorem cells_u16 : Tryz.prog.cellsOf 31 = 1 := by kernel_rfl
theorem cells_u8 : Tryz.prog.cellsOf 5 = 1 := by kernel_rfl
theorem wf_u8_in {n : Int} (h : (Lit.int .u8 n).wf = true) : 0 ≤ n ∧ n < 256 := by
  simp [Lit.wf, IntKind.min, IntKind.max, IntKind.signed, IntKind.bits] at h
  omega
theorem opens_step : Opens Tryz.prog 100 kStep := by
  intro H enc w fuel cs x h hr
  obtain ⟨⟨a0, a1, a2, a3, a4, a5⟩, hl, g0, g1, g2, g3, g4, g5⟩ := opens_struct6 Tryz.underlying100 (opens_int Tryz.underlying3) (opens_int Tryz.underlying3) opens22 opensCellsW (opens_int Tryz.underlying31) (opens_int Tryz.underlying5) enc w fuel cs x h hr
  rw [cells_step] at hl
  rw [cells_int1] at g0 g1
  rw [cells_sl16] at g2
  rw [cells_slC] at g3
  rw [cells_u16] at g4
  rw [cells_u8] at g5
  obtain ⟨xa, xc, e2, p1, p2, p3, p4⟩ := kUW g2
  obtain ⟨ya, yc, e3, q1, q2, q3, q4, -⟩ := kRW g3
  match cs, hl with
  | [c0, c1, c2, c3, c4, c5], _ =>
    have e0 := g0.1
    have e1 := g1.1
    have e4 := g4.1
    have e5 := g5.1
    simp at e0 e1 e2 e3 e4 e5
    exact ⟨⟨a0, a1, a2, a3, a4, a5⟩, xa, xc, ya, yc, by rw [e0, e1, e2, e3, e4, e5], p1, p2, p3, p4, q1, q2, q3, q4, wf_u16_of g4.2, wf_u8_in g5.2⟩
theorem opens_steps : Opens Tryz.prog 98 (kSlice 6 72 kStep) := opens_slice Tryz.underlying98 cells_step (by omega) bytes_step opens_step
/-- A script as it lies. -/
def StepsIn (w : World) (a : Option Addr) (l : List StepS) : Prop := ∀ (k : Nat) (s : StepS), l[k]? = some s → ∃ b o xa xc ya yc, a = some ⟨b, o, none⟩ ∧ b < w.heap.size ∧
  w.cell? ⟨b, o + k * 6, none⟩ = some (.int .i64 s.kind) ∧ w.cell? ⟨b, o + k * 6 + 1, none⟩ = some (.int .i64 s.op) ∧ w.cell? ⟨b, o + k * 6 + 2, none⟩ = some (.slice xa s.x.length xc) ∧
  w.cell? ⟨b, o + k * 6 + 3, none⟩ = some (.slice ya s.c.length yc) ∧ w.cell? ⟨b, o + k * 6 + 4, none⟩ = some (.int .u16 s.at_) ∧ w.cell? ⟨b, o + k * 6 + 5, none⟩ = some (.int .u8 s.b) ∧
  s.x.length ≤ xc ∧ xc ≤ 70368744175616 ∧ Reads w xa (cellsU s.x) ∧ D16 s.x ∧ s.c.length ≤ yc ∧ yc ≤ 8796093021952 ∧ Reads w ya (cellsR s.c) ∧ R16 s.c ∧ (0 ≤ s.at_ ∧ s.at_ < 65536) ∧ (0 ≤ s.b ∧ s.b < 256)
theorem kSteps {w : World} {l : List StepS} {cs : List Value} (h : kSlice 6 72 kStep w l cs) : ∃ a c, cs = [.slice a l.length c] ∧ l.length ≤ 140737488351232 ∧ StepsIn w a l := by
  obtain ⟨a, c, rfl, h1, h2, h3⟩ := h
  refine ⟨a, c, rfl, by omega, ?_⟩
  intro k s hs
  rcases h3 with rfl | ⟨b, o, rfl, h3⟩
  · cases hs
  · obtain ⟨cs', ⟨xa, xc, ya, yc, rfl, p⟩, _, hc⟩ := h3 k s hs
    have k0 := hc 0 _ rfl
    exact ⟨b, o, xa, xc, ya, yc, rfl, World.block_lt_of_cell? w _ k0, k0, hc 1 _ rfl, hc 2 _ rfl, hc 3 _ rfl, hc 4 _ rfl, hc 5 _ rfl, p⟩
end Go.Proofs.YtdnalhjdmlkbmaaGreatDoor
namespace Go.Proofs.YtdnalhjdmlkbmaaGreatDoor
open Go.RowKit
set_option linter.unusedVariables false
def pushF (l x : List Int) : Int × List Int := if l.length + x.length ≤ 256 then (0, l ++ x) else (2, l)
def pushRF (l x : List (Int × Int)) : Int × List (Int × Int) := if l.length + x.length ≤ 128 then (0, l ++ x) else (4, l)
theorem push_v (G : Nat → Nat) (i D : Nat) (l x : List Int) (xa : Option Addr) (n c : Nat) (w : World) (hp : PU w G i D l) (hl : l.length ≤ 256) (hn : x.length = n) (hn9 : n ≤ 100000000000000) (hr : Reads w xa (cellsU x)) :
    Calls Tryz.prog 39 #[.pointer (some ⟨D, 0, none⟩), .slice xa n c] w fun e w' => e = .returned (.int .i64 (pushF l x).1) ∧ ∃ G', Adv (· = i) w G w' G' ∧ PU w' G' i D (pushF l x).2 := by
  unfold pushF
  by_cases h : l.length + x.length ≤ 256
  · rw [if_pos h]
    exact pushPU G i D l x xa n c w hp hn (by omega) hr
  · rw [if_neg h]
    refine (pushPU_no G i D l xa n c w hp hl (by omega) (by omega)).mono ?_
    rintro e w' ⟨rfl, rfl⟩
    exact ⟨rfl, G, Adv.refl _ _ _, hp⟩
theorem refPush_v (G : Nat → Nat) (i D : Nat) (l x : List Int) (xa : Option Addr) (n c : Nat) (w : World) (hp : EU w G i D l) (hl : l.length ≤ 256) (hn : x.length = n) (hn9 : n ≤ 100000000000000) (hr : Reads w xa (cellsU x)) :
    Calls Tryz.prog 40 #[.pointer (some ⟨D, 0, none⟩), .slice xa n c] w fun e w' => e = .returned (.int .i64 (pushF l x).1) ∧ ∃ G', Adv (· = i) w G w' G' ∧ EU w' G' i D (pushF l x).2 := by
  unfold pushF
  by_cases h : l.length + x.length ≤ 256
  · rw [if_pos h]
    exact refPush G i D l x xa n c w hp hn (by omega) hr
  · rw [if_neg h]
    refine (refPush_no G i D l xa n c w hp hl (by omega) (by omega)).mono ?_
    rintro e w' ⟨rfl, rfl⟩
    exact ⟨rfl, G, Adv.refl _ _ _, hp⟩
theorem pushR_v (G : Nat → Nat) (i D : Nat) (l x : List (Int × Int)) (xa : Option Addr) (n c : Nat) (w : World) (hp : PR w G i D l) (hl : l.length ≤ 128) (hn : x.length = n) (hn9 : n ≤ 100000000000000) (hr : Reads w xa (cellsR x)) :
    Calls Tryz.prog 41 #[.pointer (some ⟨D, 0, none⟩), .slice xa n c] w fun e w' => e = .returned (.int .i64 (pushRF l x).1) ∧ ∃ G', Adv (· = i) w G w' G' ∧ PR w' G' i D (pushRF l x).2 := by
  unfold pushRF
  by_cases h : l.length + x.length ≤ 128
  · rw [if_pos h]
    exact pushPR G i D l x xa n c w hp hn (by omega) hr
  · rw [if_neg h]
    refine (pushPR_no G i D l xa n c w hp hl (by omega) (by omega)).mono ?_
    rintro e w' ⟨rfl, rfl⟩
    exact ⟨rfl, G, Adv.refl _ _ _, hp⟩
theorem refPushR_v (G : Nat → Nat) (i D : Nat) (l x : List (Int × Int)) (xa : Option Addr) (n c : Nat) (w : World) (hp : ER w G i D l) (hl : l.length ≤ 128) (hn : x.length = n) (hn9 : n ≤ 100000000000000) (hr : Reads w xa (cellsR x)) :
    Calls Tryz.prog 42 #[.pointer (some ⟨D, 0, none⟩), .slice xa n c] w fun e w' => e = .returned (.int .i64 (pushRF l x).1) ∧ ∃ G', Adv (· = i) w G w' G' ∧ ER w' G' i D (pushRF l x).2 := by
  unfold pushRF
  by_cases h : l.length + x.length ≤ 128
  · rw [if_pos h]
    exact refPushR G i D l x xa n c w hp hn (by omega) hr
  · rw [if_neg h]
    refine (refPushR_no G i D l xa n c w hp hl (by omega) (by omega)).mono ?_
    rintro e w' ⟨rfl, rfl⟩
    exact ⟨rfl, G, Adv.refl _ _ _, hp⟩
theorem pushF_good {l x : List Int} {r : List (Int × Int)} {m : MemS} (h : Good3 l r m) (hx : D16 x) : Good3 (pushF l x).2 r m := by
  unfold pushF
  by_cases hh : l.length + x.length ≤ 256
  · rw [if_pos hh]
    exact ⟨h.d16.append hx, h.r16, by rw [List.length_append]; exact hh, h.rl, h.mo, h.mr⟩
  · rw [if_neg hh]; exact h
theorem pushRF_good {l : List Int} {r x : List (Int × Int)} {m : MemS} (h : Good3 l r m) (hx : R16 x) : Good3 l (pushRF r x).2 m := by
  unfold pushRF
  by_cases hh : r.length + x.length ≤ 128
  · rw [if_pos hh]
    exact ⟨h.d16, h.r16.append hx, h.dl, by rw [List.length_append]; exact hh, h.mo, h.mr⟩
  · rw [if_neg hh]; exact h
/-- Both sides' parts, each with its own state. -/
structure H6 (w : World) (G : Nat → Nat) (K D R M X Y Z : Nat) (l : List Int) (r : List (Int × Int)) (m : MemS) (l' : List Int) (r' : List (Int × Int)) (m' : MemS) : Prop where
  hw : W6h w G K D R M X Y Z
  pu : PU w G 1 D l
  pr : PR w G 2 R r
  pm : PM w G 3 M m
  eu : EU w G 9 X l'
  er : ER w G 8 Y r'
  rm : RM w G 11 Z m'
section
variable {w w' : World} {G G' : Nat → Nat} {K D R M X Y Z : Nat} {l l' l2 : List Int} {r r' r2 : List (Int × Int)} {m m' m2 : MemS}
theorem S6.half (h : S6 w G K D R M X Y Z l r m) : H6 w G K D R M X Y Z l r m l r m := ⟨h.hw, h.pu, h.pr, h.pm, h.eu, h.er, h.rm⟩
theorem H6.whole (h : H6 w G K D R M X Y Z l r m l r m) (hg : Good3 l r m) : S6 w G K D R M X Y Z l r m := ⟨h.hw, h.pu, h.pr, h.pm, h.eu, h.er, h.rm, hg⟩
theorem H6.still (h : H6 w G K D R M X Y Z l r m l' r' m') (ha : Adv (fun _ => False) w G w' G') : H6 w' G' K D R M X Y Z l r m l' r' m' :=
  ⟨h.hw.adv ha id, h.pu.adv ha id, h.pr.adv ha id, h.pm.adv ha id, h.eu.adv ha id, h.er.adv ha id, h.rm.adv ha fun _ _ => id⟩
theorem H6.onPU (h : H6 w G K D R M X Y Z l r m l' r' m') (ha : Adv (· = 1) w G w' G') (hp : PU w' G' 1 D l2) : H6 w' G' K D R M X Y Z l2 r m l' r' m' :=
  ⟨h.hw.adv ha (by decide), hp, h.pr.adv ha (by decide), h.pm.adv ha (by decide), h.eu.adv ha (by decide), h.er.adv ha (by decide), h.rm.adv ha (fun _ _ => by omega)⟩
theorem H6.onPR (h : H6 w G K D R M X Y Z l r m l' r' m') (ha : Adv (· = 2) w G w' G') (hp : PR w' G' 2 R r2) : H6 w' G' K D R M X Y Z l r2 m l' r' m' :=
  ⟨h.hw.adv ha (by decide), h.pu.adv ha (by decide), hp, h.pm.adv ha (by decide), h.eu.adv ha (by decide), h.er.adv ha (by decide), h.rm.adv ha (fun _ _ => by omega)⟩
theorem H6.onPM (h : H6 w G K D R M X Y Z l r m l' r' m') (ha : Adv (fun o => o = 3) w G w' G') (hp : PM w' G' 3 M m2) : H6 w' G' K D R M X Y Z l r m2 l' r' m' :=
  ⟨h.hw.adv ha (by decide), h.pu.adv ha (by decide), h.pr.adv ha (by decide), hp, h.eu.adv ha (by decide), h.er.adv ha (by decide), h.rm.adv ha (fun _ _ => by omega)⟩
theorem H6.onEU (h : H6 w G K D R M X Y Z l r m l' r' m') (ha : Adv (· = 9) w G w' G') (hp : EU w' G' 9 X l2) : H6 w' G' K D R M X Y Z l r m l2 r' m' :=
  ⟨h.hw.adv ha (by decide), h.pu.adv ha (by decide), h.pr.adv ha (by decide), h.pm.adv ha (by decide), hp, h.er.adv ha (by decide), h.rm.adv ha (fun _ _ => by omega)⟩
theorem H6.onER (h : H6 w G K D R M X Y Z l r m l' r' m') (ha : Adv (· = 8) w G w' G') (hp : ER w' G' 8 Y r2) : H6 w' G' K D R M X Y Z l r m l' r2 m' :=
  ⟨h.hw.adv ha (by decide), h.pu.adv ha (by decide), h.pr.adv ha (by decide), h.pm.adv ha (by decide), h.eu.adv ha (by decide), hp, h.rm.adv ha (fun _ _ => by omega)⟩
theorem H6.onRM (h : H6 w G K D R M X Y Z l r m l' r' m') (ha : Adv (SD 11) w G w' G') (hp : RM w' G' 11 Z m2) : H6 w' G' K D R M X Y Z l r m l' r' m2 :=
  ⟨h.hw.adv ha (by unfold SD; omega), h.pu.adv ha (by unfold SD; omega), h.pr.adv ha (by unfold SD; omega), h.pm.adv ha (by unfold SD; omega), h.eu.adv ha (by unfold SD; omega), h.er.adv ha (by unfold SD; omega), hp⟩
theorem H6.prog (h : H6 w G K D R M X Y Z l r m l' r' m') : w.cell? ⟨K, 0, none⟩ = some (.pointer (some ⟨D, 0, none⟩)) ∧ w.cell? ⟨K, 1, none⟩ = some (.pointer (some ⟨R, 0, none⟩)) ∧ w.cell? ⟨K, 2, none⟩ = some (.pointer (some ⟨M, 0, none⟩)) := h.hw.prog
theorem H6.doc (h : H6 w G K D R M X Y Z l r m l' r' m') : w.cell? ⟨K, 3, none⟩ = some (.pointer (some ⟨X, 0, none⟩)) ∧ w.cell? ⟨K, 4, none⟩ = some (.pointer (some ⟨Y, 0, none⟩)) ∧ w.cell? ⟨K, 5, none⟩ = some (.pointer (some ⟨Z, 0, none⟩)) := h.hw.doc
end
/-- A step's own variable. -/
structure StepAt (w : World) (G : Nat → Nat) (b : Nat) (q op : Int) (xa : Option Addr) (xn xc : Nat) (ya : Option Addr) (yn yc : Nat) (av bv : Int) : Prop where
  lab : G b = 0
  c0 : w.cell? ⟨b, 0, none⟩ = some (.int .i64 q)
  c1 : w.cell? ⟨b, 1, none⟩ = some (.int .i64 op)
  c2 : w.cell? ⟨b, 2, none⟩ = some (.slice xa xn xc)
  c3 : w.cell? ⟨b, 3, none⟩ = some (.slice ya yn yc)
  c4 : w.cell? ⟨b, 4, none⟩ = some (.int .u16 av)
  c5 : w.cell? ⟨b, 5, none⟩ = some (.int .u8 bv)
theorem StepAt.adv {S : Nat → Prop} {w w' : World} {G G' : Nat → Nat} {b : Nat} {q op : Int} {xa ya : Option Addr} {xn yn xc yc : Nat} {av bv : Int} (h : StepAt w G b q op xa xn xc ya yn yc av bv) (ha : Adv S w G w' G') (h0 : ¬ S 0) : StepAt w' G' b q op xa xn xc ya yn yc av bv := by
  have hs : ¬ S (G b) := by rw [h.lab]; exact h0
  exact ⟨(ha.own b (World.block_lt_of_cell? w _ h.c0)).trans h.lab, ha.cell_some h.c0 hs, ha.cell_some h.c1 hs, ha.cell_some h.c2 hs, ha.cell_some h.c3 hs, ha.cell_some h.c4 hs, ha.cell_some h.c5 hs⟩
theorem RM.setCycle {w : World} {G : Nat → Nat} {d D : Nat} {m : MemS} (h : RM w G d D m) (n : Int) : Adv (SD d) w G (w.setCell ⟨D, 8, none⟩ (.int .i64 n)) G ∧ RM (w.setCell ⟨D, 8, none⟩ (.int .i64 n)) G d D (atF m n) := by
  obtain ⟨ra, sa, bs, bv, tv, h⟩ := h
  obtain ⟨h1, h2⟩ := h.setCycle n
  exact ⟨h1, ra, sa, bs, bv, tv, h2⟩
theorem RM.cycle {w : World} {G : Nat → Nat} {d D : Nat} {m : MemS} (h : RM w G d D m) : w.cell? ⟨D, 8, none⟩ = some (.int .i64 m.cycle) ∧ w.frozen? ⟨D, 8, none⟩ = false := by
  obtain ⟨ra, sa, bs, bv, tv, h⟩ := h
  exact ⟨block_cell h.head 8 _ rfl, block_free h.head 8⟩
end Go.Proofs.YtdnalhjdmlkbmaaGreatDoor
namespace Go.Proofs.YtdnalhjdmlkbmaaGreatDoor
open Go.RowKit
set_option linter.unusedVariables false
set_option maxRecDepth 100000 in
set_option maxHeartbeats 8000000 in
theorem plays_any (sa : Option Addr) (n sc : Nat) (script : List StepS) (w : World) (ht : Tabs w (fun _ => 0)) (hl : script.length = n) (hn9 : n ≤ 9223372036854775807) (hin : StepsIn w sa script) :
    Calls Tryz.prog 7 #[.slice sa n sc] w fun e w' => e = .returned (.bool true) ∧ ∃ G', Adv SW w (fun _ => 0) w' G' := by
  have BORN := Lib.hid (bornS (fun _ => 0) none 0 0 [] none 0 0 [] w rfl (.inl rfl) (Nat.le_refl _) (by omega) rfl (.inl rfl) (Nat.le_refl _) (by omega) (fun c hc => by cases hc) (fun c hc => by cases hc) (fun c hc => by cases hc))
  have HT := Lib.hid ht
  have HL := Lib.hid hl
  have HIN := Lib.hid hin
  obtain ⟨d0, hd0⟩ : ∃ d : List Int, d = ([] : List Int).take 256 := ⟨_, rfl⟩
  obtain ⟨r0, hr0⟩ : ∃ r, r = (([] : List (Int × Int)).take 128).map normR := ⟨_, rfl⟩
  obtain ⟨m0, hm0⟩ : ∃ m, m = newM banks2 := ⟨_, rfl⟩
  rw [← hd0, ← hr0, ← hm0] at BORN
  have M0 := Lib.hid (show MGood m0 0 ∧ keysF m0 = [0, 9] from by rw [hm0]; exact ⟨banks2_good, rfl⟩)
  obtain ⟨i0, hi, hz0, hz1, hz2⟩ := info_parts Tryz.info31
  obtain ⟨j0, hj, hy0, hy1, hy2⟩ := info_parts Tryz.info111
  clear ht hl hin hd0 hr0 hm0
  go_enter Tryz.func7, Tryz.ntmps7
  go_wp2_with fail
  refine BORN.out.mono ?_
  rintro e wb ⟨K, D, R, M, X, Y, Z, Gb, rfl, a1, h1⟩
  have AB := Lib.hid a1
  have HB := Lib.hid h1
  have HTB := Lib.hid (HT.out.adv (Zo.of a1 id) id)
  clear a1 h1
  go_wp2_with fail
  refine (fixed_any Gb wb HTB.out).mono ?_
  rintro e wf ⟨rfl, Gf, a2⟩
  have AF := Lib.hid ((AB.out.trans a2).mono (T := SW) fun _ h => h.elim)
  have HF := Lib.hid (HB.out.still a2)
  clear a2
  go_wp2_with fail
  go_loopw [4] (fun v wr => ∃ j : Nat, j ≤ n ∧ j ≤ 300 ∧ v = .int .i64 j ∧ ∃ Gr l r m, Adv SW w (fun _ => 0) wr Gr ∧ S6 wr Gr K D R M X Y Z l r m ∧ MGood m (3 * j) ∧ keysF m = [0, 9]) (fun v _ => 300 - (intOf v).toNat)
  case atStart => exact ⟨0, Nat.zero_le _, by omega, rfl, Gf, d0, r0, m0, AF.out, HF.out, M0.out.1, M0.out.2⟩
  case round =>
    obtain ⟨j, hj0, hj3, rfl, Gr, l, r, m, ar, hs, hm, hk⟩ := hrel
    by_cases hlt : j < n ∧ j < 300
    · obtain ⟨hlt, hlt3⟩ := hlt
      obtain ⟨s, hsj⟩ : ∃ s, script[j]? = some s := ⟨script[j]'(by rw [HL.out]; exact hlt), List.getElem?_eq_getElem _⟩
      obtain ⟨g, o, xa, xc, ya, yc, rfl, hgl, c0, c1, c2, c3, c4, c5, p1, p2, p3, p4, p5, p6, p7, p8, p9, p10⟩ := HIN.out j s hsj
      obtain ⟨q, op, xs, cs, av, bv⟩ := s
      dsimp only at c0 c1 c2 c3 c4 c5 p1 p2 p3 p4 p5 p6 p7 p8 p9 p10
      have k0 := ar.cell_some c0 sw0
      have k1 := ar.cell_some c1 sw0
      have k2 := ar.cell_some c2 sw0
      have k3 := ar.cell_some c3 sw0
      have k4 := ar.cell_some c4 sw0
      have k5 := ar.cell_some c5 sw0
      have ha0 := p9.1
      have ha9 := p9.2
      have hb0 := p10.1
      have hb9 := p10.2
      have AR := Lib.hid ar
      have HS := Lib.hid hs
      have HM := Lib.hid hm
      have HK := Lib.hid hk
      have RX0 := Lib.hid p3
      have RY0 := Lib.hid p7
      have HX16 := Lib.hid p4
      have HY16 := Lib.hid p8
      have hwa : IntKind.i64.wrap av = av := IntWalk.i64_in _ (by omega)
      clear ar hs hm hk p3 p4 p7 p8 p9 p10 c0 c1 c2 c3 c4 c5 hsj hgl
      go_upto_region 7 with fail
      go_cut [5] from 18 to 138 (fun v5 wx => ∃ b Gx, v5 = .pointer (some ⟨b, 0, none⟩) ∧ Adv (fun _ => False) wr Gr wx Gx ∧ StepAt wx Gx b q op xa xs.length xc ya cs.length yc av bv)
      case first =>
        go_wp2_with fail
        go_meet
        have hb := heap_alloc_new wr (.cells #[.int .i64 q, .int .i64 op, .slice xa xs.length xc, .slice ya cs.length yc, .int .u16 av, .int .u8 bv] 100)
        exact ⟨wr.heap.size, own1 wr Gr 0, rfl, (Adv.refl (fun _ => False) wr Gr).alloc _ 0, own1_new _ _ _, block_cell hb 0 _ rfl, block_cell hb 1 _ rfl, block_cell hb 2 _ rfl, block_cell hb 3 _ rfl, block_cell hb 4 _ rfl, block_cell hb 5 _ rfl⟩
      case rest =>
      obtain ⟨b, G1, rfl, a1, st⟩ := hcut
      obtain ⟨w1, rfl⟩ : ∃ x : World, x = wc := ⟨_, rfl⟩
      have A1 := Lib.hid (AR.out.trans (a1.mono (T := SW) fun _ h => h.elim))
      have HS1 := Lib.hid (HS.out.still a1)
      have ST1 := Lib.hid st
      have RX := Lib.hid (RX0.out.adv A1.out fun _ _ => sw0)
      have RY := Lib.hid (RY0.out.adv A1.out fun _ _ => sw0)
      have s0 := st.c0
      clear a1 st k0 k1 k2 k3 k4 k5 AR HS
      have hxl : xs.length ≤ 70368744175616 := by omega
      have hyl : cs.length ≤ 8796093021952 := by omega
      rcases (show q = 1 ∨ q = 2 ∨ q = 3 ∨ q = 4 ∨ q = 5 ∨ q = 6 ∨ (q ≠ 1 ∧ q ≠ 2 ∧ q ≠ 3 ∧ q ≠ 4 ∧ q ≠ 5 ∧ q ≠ 6) by omega) with hq | hq | hq | hq | hq | hq | hq
      · -- 1
        obtain ⟨rfl⟩ := hq
        have s1 := ST1.out.c1
        have HT1 := Lib.hid (HT.out.adv A1.out sw0)
        go_wp2_with fail
        refine (does_w op G1 K D R M X Y Z l r m (3 * j) w1 HT1.out HS1.out HM.out (by omega)).mono ?_
        rintro e w3 ⟨rfl, G3, a3, s3⟩
        have A3 := Lib.hid (A1.out.trans (a3.mono (T := SW) fun o h => ⟨h.1, by have := h.2; omega⟩))
        have S3' := Lib.hid s3
        clear a3 s3 s1
        go_wp2
        go_roundw
        case rel => exact ⟨j + 1, by omega, by omega, by go_num, G3, _, _, _, A3.out, S3'.out, (aV_good (op := op) HS1.out.gd HM.out).2.1.wide (by omega), (aV_good (op := op) HS1.out.gd HM.out).2.2.trans HK.out⟩
        case measure => simp [intOf]; omega
      · -- 2
        obtain ⟨rfl⟩ := hq
        have qa := HS1.out.half.prog.1
        have qb := ST1.out.c2
        have QC : w1.drew.cell? ⟨K, 0, none⟩ = some (.pointer (some ⟨D, 0, none⟩)) ∧ w1.drew.cell? ⟨b, 2, none⟩ = some (.slice xa xs.length xc) := ⟨qa, qb⟩
        have hal := ((Adv.refl (fun _ => False) w1 G1).drew).alloc (.cells #[] 31) 0
        have QD := Lib.hid (show (w1.alloc (.cells #[] 31)).drew.cell? ⟨K, 0, none⟩ = some (.pointer (some ⟨D, 0, none⟩)) ∧ (w1.alloc (.cells #[] 31)).drew.cell? ⟨b, 2, none⟩ = some (.slice xa xs.length xc) from ⟨hal.cell_some qa id, hal.cell_some qb id⟩)
        have QE := Lib.hid (show (w1.alloc (.cells #[] 31)).cell? ⟨K, 0, none⟩ = some (.pointer (some ⟨D, 0, none⟩)) ∧ (w1.alloc (.cells #[] 31)).cell? ⟨b, 2, none⟩ = some (.slice xa xs.length xc) from ⟨hal.cell_some qa id, hal.cell_some qb id⟩)
        have A1d := Lib.hid A1.out.drew
        have H1d := Lib.hid (HS1.out.half.still (Adv.refl (fun _ => False) w1 G1).drew)
        have ST1d := Lib.hid (ST1.out.adv (Adv.refl (fun _ => False) w1 G1).drew id)
        have RXd := Lib.hid (RX.out.adv hal fun _ _ => id)
        have hA0 := (Adv.refl (fun o => o = 9) w1.drew (fun _ => 0)).alloc (.cells #[] 31) 9
        have hR0 := Row.new w1.drew (fun _ => 0) 31 1 9 0 [] (Nat.zero_le _) rfl
        obtain ⟨Gn, hGn⟩ : ∃ Gn, Gn = own1 w1.drew (fun _ => 0) 9 := ⟨_, rfl⟩
        rw [← hGn] at hA0 hR0
        have HA0 := Lib.hid hA0
        have HR0 := Lib.hid hR0
        clear hal hA0 hR0 hGn qa qb
        obtain ⟨f, hf⟩ : ∃ f, f = (pushF l xs).1 := ⟨_, rfl⟩
        obtain ⟨l2, hl2⟩ : ∃ v, v = (pushF l xs).2 := ⟨_, rfl⟩
        have HFL := Lib.hid (And.intro hf hl2)
        have HG2 := Lib.hid (pushF_good HS1.out.gd HX16.out)
        rw [← hl2] at HG2
        clear hf hl2
        go_upto_region 13 with fail
        go_region_held3 (fun w' => w'.cell? ⟨K, 0, none⟩ = some (.pointer (some ⟨D, 0, none⟩)) ∧ w'.cell? ⟨b, 2, none⟩ = some (.slice xa xs.length xc)) (first | with_reducible exact QC | with_reducible exact QD.out | with_reducible exact QE.out | with_reducible assumption)
          (first
            | (go_at_call 39; refine (push_v _ 1 D l xs va xs.length vc w4 H4.out.pu HS1.out.gd.dl rfl (by omega) F4.out).mono ?_; rintro e w5 ⟨rfl, G5, a5, p5⟩; rw [← HFL.out.1]; rw [← HFL.out.2] at p5; have A5 := Lib.hid (A4.out.trans (a5.mono (T := SW) fun o h => by subst h; exact ⟨by omega, by omega⟩)); have H5 := Lib.hid (H4.out.onPU a5 p5); have T5 := Lib.hid (T4.out.adv a5 (by decide)); have QC := And.intro H5.out.prog.1 T5.out.c2; clear a5 p5)
            | (refine step_append_any rfl (.tmp 46) (.tmp 48) 22 rfl 31 i0 (.int .u16 0) 1 2 Tryz.underlying22 hi hz0 hz1 hz2 rfl (by decide) Gn 9 (some ⟨w1.heap.size, 0, none⟩) 0 0 [] rfl HR0.out xa xs.length xc (cellsU xs) rfl (by rw [cellsU_length, Nat.mul_one]) RXd.out (cellsU_one _) (by unfold maxLen; omega) (by omega) ?_; intro va vc w4 G4 h1 h2; rw [Nat.zero_add, List.nil_append] at h1; rw [Nat.zero_add]; obtain ⟨f1, f2⟩ := fresh_row (HA0.out.trans h2) h1 G1 0; have A4 := Lib.hid (A1d.out.trans (f1.mono (T := SW) fun _ h => h.elim)); have H4 := Lib.hid (H1d.out.still f1); have T4 := Lib.hid (ST1d.out.adv f1 id); have F4 := Lib.hid f2.reads; have QC := And.intro H4.out.prog.1 T4.out.c2; clear h1 h2 f1 f2))
        have q5 := H5.out.doc.1
        have q6 := T5.out.c2
        have H5d := Lib.hid (H5.out.still (Adv.refl (fun _ => False) w5 G5).drew)
        have A5d := Lib.hid A5.out.drew
        have R5 := Lib.hid (RX0.out.adv A5d.out fun _ _ => sw0)
        go_wp2_with fail
        go_still_tail 6, (by kernel_rfl)
        change wpList _ _ _ _ _ w5.drew
        go_wp2_with fail
        refine (refPush_v G5 9 X l xs xa xs.length xc _ H5d.out.eu HS1.out.gd.dl rfl (by omega) R5.out).mono ?_
        rintro e w3 ⟨rfl, G3, a3, p3⟩
        rw [← HFL.out.1]
        rw [← HFL.out.2] at p3
        have A3 := Lib.hid (A5d.out.trans (a3.mono (T := SW) fun o h => by subst h; exact ⟨by omega, by omega⟩))
        have H3 := Lib.hid (H5d.out.onEU a3 p3)
        clear a3 p3 q5 q6 QC
        have hff : (f == f) = true := by simp
        go_wp2
        go_roundw
        case rel => exact ⟨j + 1, by omega, by omega, by go_num, G3, _, _, _, A3.out, H3.out.whole HG2.out, HM.out.wide (by omega), HK.out⟩
        case measure => simp [intOf]; omega
      · -- 3
        obtain ⟨rfl⟩ := hq
        have qa := HS1.out.half.prog.2.1
        have qb := ST1.out.c3
        have QC : w1.drew.cell? ⟨K, 1, none⟩ = some (.pointer (some ⟨R, 0, none⟩)) ∧ w1.drew.cell? ⟨b, 3, none⟩ = some (.slice ya cs.length yc) := ⟨qa, qb⟩
        have hal := ((Adv.refl (fun _ => False) w1 G1).drew).alloc (.cells #[] 111) 0
        have QD := Lib.hid (show (w1.alloc (.cells #[] 111)).drew.cell? ⟨K, 1, none⟩ = some (.pointer (some ⟨R, 0, none⟩)) ∧ (w1.alloc (.cells #[] 111)).drew.cell? ⟨b, 3, none⟩ = some (.slice ya cs.length yc) from ⟨hal.cell_some qa id, hal.cell_some qb id⟩)
        have QE := Lib.hid (show (w1.alloc (.cells #[] 111)).cell? ⟨K, 1, none⟩ = some (.pointer (some ⟨R, 0, none⟩)) ∧ (w1.alloc (.cells #[] 111)).cell? ⟨b, 3, none⟩ = some (.slice ya cs.length yc) from ⟨hal.cell_some qa id, hal.cell_some qb id⟩)
        have A1d := Lib.hid A1.out.drew
        have H1d := Lib.hid (HS1.out.half.still (Adv.refl (fun _ => False) w1 G1).drew)
        have ST1d := Lib.hid (ST1.out.adv (Adv.refl (fun _ => False) w1 G1).drew id)
        have RYd := Lib.hid (RY.out.adv hal fun _ _ => id)
        have hA0 := (Adv.refl (fun o => o = 9) w1.drew (fun _ => 0)).alloc (.cells #[] 111) 9
        have hR0 := Row.new w1.drew (fun _ => 0) 111 2 9 0 [] (Nat.zero_le _) rfl
        obtain ⟨Gn, hGn⟩ : ∃ Gn, Gn = own1 w1.drew (fun _ => 0) 9 := ⟨_, rfl⟩
        rw [← hGn] at hA0 hR0
        have HA0 := Lib.hid hA0
        have HR0 := Lib.hid hR0
        clear hal hA0 hR0 hGn qa qb
        obtain ⟨f, hf⟩ : ∃ f, f = (pushRF r cs).1 := ⟨_, rfl⟩
        obtain ⟨r2, hl2⟩ : ∃ v, v = (pushRF r cs).2 := ⟨_, rfl⟩
        have HFL := Lib.hid (And.intro hf hl2)
        have HG2 := Lib.hid (pushRF_good HS1.out.gd HY16.out)
        rw [← hl2] at HG2
        clear hf hl2
        go_upto_region 17 with fail
        go_region_held3 (fun w' => w'.cell? ⟨K, 1, none⟩ = some (.pointer (some ⟨R, 0, none⟩)) ∧ w'.cell? ⟨b, 3, none⟩ = some (.slice ya cs.length yc)) (first | with_reducible exact QC | with_reducible exact QD.out | with_reducible exact QE.out | with_reducible assumption)
          (first
            | (go_at_call 41; refine (pushR_v _ 2 R r cs va cs.length vc w4 H4.out.pr HS1.out.gd.rl rfl (by omega) F4.out).mono ?_; rintro e w5 ⟨rfl, G5, a5, p5⟩; rw [← HFL.out.1]; rw [← HFL.out.2] at p5; have A5 := Lib.hid (A4.out.trans (a5.mono (T := SW) fun o h => by subst h; exact ⟨by omega, by omega⟩)); have H5 := Lib.hid (H4.out.onPR a5 p5); have T5 := Lib.hid (T4.out.adv a5 (by decide)); have QC := And.intro H5.out.prog.2.1 T5.out.c3; clear a5 p5)
            | (refine step_append_any rfl (.tmp 67) (.tmp 69) 23 rfl 111 j0 (.agg #[.int .i64 0, .int .u16 0]) 2 16 Tryz.underlying23 hj hy0 hy1 hy2 rfl (by decide) Gn 9 (some ⟨w1.heap.size, 0, none⟩) 0 0 [] rfl HR0.out ya cs.length yc (cellsR cs) rfl (by rw [cellsR_length]) RYd.out (cellsR_one _) (by unfold maxLen; omega) (by omega) ?_; intro va vc w4 G4 h1 h2; rw [Nat.zero_add, List.nil_append] at h1; rw [Nat.zero_add]; obtain ⟨f1, f2⟩ := fresh_row (HA0.out.trans h2) h1 G1 0; have A4 := Lib.hid (A1d.out.trans (f1.mono (T := SW) fun _ h => h.elim)); have H4 := Lib.hid (H1d.out.still f1); have T4 := Lib.hid (ST1d.out.adv f1 id); have F4 := Lib.hid f2.reads; have QC := And.intro H4.out.prog.2.1 T4.out.c3; clear h1 h2 f1 f2))
        have q5 := H5.out.doc.2.1
        have q6 := T5.out.c3
        have H5d := Lib.hid (H5.out.still (Adv.refl (fun _ => False) w5 G5).drew)
        have A5d := Lib.hid A5.out.drew
        have R5 := Lib.hid (RY0.out.adv A5d.out fun _ _ => sw0)
        go_wp2_with fail
        go_still_tail 6, (by kernel_rfl)
        change wpList _ _ _ _ _ w5.drew
        go_wp2_with fail
        refine (refPushR_v G5 8 Y r cs ya cs.length yc _ H5d.out.er HS1.out.gd.rl rfl (by omega) R5.out).mono ?_
        rintro e w3 ⟨rfl, G3, a3, p3⟩
        rw [← HFL.out.1]
        rw [← HFL.out.2] at p3
        have A3 := Lib.hid (A5d.out.trans (a3.mono (T := SW) fun o h => by subst h; exact ⟨by omega, by omega⟩))
        have H3 := Lib.hid (H5d.out.onER a3 p3)
        clear a3 p3 q5 q6 QC
        have hff : (f == f) = true := by simp
        go_wp2
        go_roundw
        case rel => exact ⟨j + 1, by omega, by omega, by go_num, G3, _, _, _, A3.out, H3.out.whole HG2.out, HM.out.wide (by omega), HK.out⟩
        case measure => simp [intOf]; omega
      · -- 4
        obtain ⟨rfl⟩ := hq
        have q1 := HS1.out.half.prog.2.2
        have q4 := ST1.out.c4
        have q5 := ST1.out.c5
        have H1d := Lib.hid (HS1.out.half.still (Adv.refl (fun _ => False) w1 G1).drew)
        have ST1d := Lib.hid (ST1.out.adv (Adv.refl (fun _ => False) w1 G1).drew id)
        have A1d := Lib.hid A1.out.drew
        go_wp2_with fail
        go_still_tail 8, (by kernel_rfl)
        change wpList _ _ _ _ _ w1.drew
        go_wp2_with fail
        refine (store_any G1 3 M m HM.out.ok (by have := HM.out.tn; omega) av ha0 ha9 bv _ H1d.out.pm).mono ?_
        rintro e w2 ⟨rfl, G2, a2, p2⟩
        have A2 := Lib.hid (A1d.out.trans (a2.mono (T := SW) fun o h => by subst h; exact ⟨by omega, by omega⟩))
        have H2 := Lib.hid (H1d.out.onPM a2 p2)
        have T2 := Lib.hid (ST1d.out.adv a2 (by decide))
        clear a2 p2 q1 q4 q5
        have q1 := H2.out.doc.2.2
        have q4 := T2.out.c4
        have q5 := T2.out.c5
        have H2d := Lib.hid (H2.out.still (Adv.refl (fun _ => False) w2 G2).drew)
        have A2d := Lib.hid A2.out.drew
        go_wp2_with fail
        go_still_tail 8, (by kernel_rfl)
        change wpList _ _ _ _ _ w2.drew
        go_wp2_with fail
        refine (refStore_any G2 11 Z m HM.out.ok HM.out.rng HM.out.bl (by have := HM.out.tn; omega) av ha0 ha9 bv ⟨hb0, hb9⟩ _ H2d.out.rm).mono ?_
        rintro e w3 ⟨rfl, G3, a3, p3⟩
        have A3 := Lib.hid (A2d.out.trans (a3.mono (T := SW) fun o h => by unfold SD at h; exact ⟨by omega, by omega⟩))
        have H3 := Lib.hid (H2d.out.onRM a3 p3)
        clear a3 p3
        clear q1 q4 q5
        go_wp2
        go_roundw
        case rel => exact ⟨j + 1, by omega, by omega, by go_num, G3, l, r, (storeF m av bv), A3.out, H3.out.whole ⟨HS1.out.gd.d16, HS1.out.gd.r16, HS1.out.gd.dl, HS1.out.gd.rl, storeF_ok m HM.out.ok av bv, storeF_rng HM.out.rng av ⟨hb0, hb9⟩⟩, (HM.out.store av ⟨hb0, hb9⟩).wide (by omega), by rw [storeF_keys]; exact HK.out⟩
        case measure => simp [intOf]; omega
      · -- 5
        obtain ⟨rfl⟩ := hq
        have q1 := HS1.out.half.prog.2.2
        have q5 := ST1.out.c5
        have H1d := Lib.hid (HS1.out.half.still (Adv.refl (fun _ => False) w1 G1).drew)
        have ST1d := Lib.hid (ST1.out.adv (Adv.refl (fun _ => False) w1 G1).drew id)
        have A1d := Lib.hid A1.out.drew
        go_wp2_with fail
        go_still_tail 6, (by kernel_rfl)
        change wpList _ _ _ _ _ w1.drew
        go_wp2_with fail
        refine (begin_any G1 3 M m HM.out.ok HM.out.rng bv _ H1d.out.pm).mono ?_
        rintro e w2 ⟨rfl, G2, a2, p2⟩
        have A2 := Lib.hid (A1d.out.trans (a2.mono (T := SW) fun o h => by subst h; exact ⟨by omega, by omega⟩))
        have H2 := Lib.hid (H1d.out.onPM a2 p2)
        have T2 := Lib.hid (ST1d.out.adv a2 (by decide))
        clear a2 p2 q1 q5
        have q1 := H2.out.doc.2.2
        have q5 := T2.out.c5
        have H2d := Lib.hid (H2.out.still (Adv.refl (fun _ => False) w2 G2).drew)
        have A2d := Lib.hid A2.out.drew
        go_wp2_with fail
        go_still_tail 6, (by kernel_rfl)
        change wpList _ _ _ _ _ w2.drew
        go_wp2_with fail
        refine (refBegin_any G2 11 Z m HM.out.rng bv _ H2d.out.rm).mono ?_
        rintro e w3 ⟨rfl, G3, a3, p3⟩
        have A3 := Lib.hid (A2d.out.trans (a3.mono (T := SW) fun o h => by unfold SD at h; exact ⟨by omega, by omega⟩))
        have H3 := Lib.hid (H2d.out.onRM a3 p3)
        clear a3 p3
        clear q1 q5
        go_wp2
        go_roundw
        case rel => exact ⟨j + 1, by omega, by omega, by go_num, G3, l, r, (beginF m bv), A3.out, H3.out.whole ⟨HS1.out.gd.d16, HS1.out.gd.r16, HS1.out.gd.dl, HS1.out.gd.rl, beginF_ok HM.out.ok bv, beginF_rng HM.out.rng ⟨hb0, hb9⟩⟩, ⟨beginF_ok HM.out.ok bv, beginF_rng HM.out.rng ⟨hb0, hb9⟩, HM.out.bl, Nat.zero_le _⟩, HK.out⟩
        case measure => simp [intOf]; omega
      · -- 6
        obtain ⟨rfl⟩ := hq
        have q1 := HS1.out.half.prog.2.2
        have q4 := ST1.out.c4
        have H1d := Lib.hid (HS1.out.half.still (Adv.refl (fun _ => False) w1 G1).drew)
        have ST1d := Lib.hid (ST1.out.adv (Adv.refl (fun _ => False) w1 G1).drew id)
        have A1d := Lib.hid A1.out.drew
        go_wp2_with fail
        go_still_tail 7, (by kernel_rfl)
        change wpList _ _ _ _ _ w1.drew
        go_wp2_with fail
        refine (memAt_any G1 3 M m HM.out.ok av _ H1d.out.pm).mono ?_
        rintro e w2 ⟨rfl, G2, a2, p2⟩
        have A2 := Lib.hid (A1d.out.trans (a2.mono (T := SW) fun o h => by subst h; exact ⟨by omega, by omega⟩))
        have H2 := Lib.hid (H1d.out.onPM a2 p2)
        have T2 := Lib.hid (ST1d.out.adv a2 (by decide))
        clear a2 p2 q1 q4
        have q1 := H2.out.doc.2.2
        have q4 := T2.out.c4
        have H2d := Lib.hid (H2.out.still (Adv.refl (fun _ => False) w2 G2).drew)
        have A2d := Lib.hid A2.out.drew
        obtain ⟨k8, f8⟩ := H2.out.rm.cycle
        have HC := Lib.hid (H2d.out.rm.setCycle av)
        go_wp2_with fail
        go_still_tail 9, (by kernel_rfl)
        change wpList _ _ _ _ _ w2.drew
        have A3 := Lib.hid (A2d.out.trans (HC.out.1.mono (T := SW) fun o h => by unfold SD at h; exact ⟨by omega, by omega⟩))
        have H3 := Lib.hid (H2d.out.onRM HC.out.1 HC.out.2)
        go_wp2_with fail
        go_roundw
        case rel => exact ⟨j + 1, by omega, by omega, by go_num, G2, l, r, (atF m av), A3.out, H3.out.whole ⟨HS1.out.gd.d16, HS1.out.gd.r16, HS1.out.gd.dl, HS1.out.gd.rl, atF_ok HM.out.ok av, atF_rng HM.out.rng av⟩, ⟨atF_ok HM.out.ok av, atF_rng HM.out.rng av, HM.out.bl, Nat.le_trans HM.out.tn (by omega)⟩, HK.out⟩
        case measure => simp [intOf]; omega
      · have n1 : (q == 1) = false := by simp; omega
        have n2 : (q == 2) = false := by simp; omega
        have n3 : (q == 3) = false := by simp; omega
        have n4 : (q == 4) = false := by simp; omega
        have n5 : (q == 5) = false := by simp; omega
        have n6 : (q == 6) = false := by simp; omega
        clear hq
        go_wp2
        go_roundw
        case rel => exact ⟨j + 1, by omega, by omega, by go_num, G1, l, r, m, A1.out, HS1.out, HM.out.wide (by omega), HK.out⟩
        case measure => simp [intOf]; omega
    · have AR := Lib.hid ar
      have HS := Lib.hid hs
      have HM := Lib.hid hm
      have HK := Lib.hid hk
      have hend : n ≤ j ∨ (j < n ∧ 300 ≤ j) := by omega
      clear ar hs hm hk hlt
      rcases hend with hend | ⟨hend, hend2⟩
      all_goals
        go_wp2_with fail
        refine (stacks_any Gr K D R M X Y Z l r m wr HS.out).mono ?_
        rintro e w6 ⟨rfl, G6, a6⟩
        have A6 := Lib.hid (AR.out.trans (a6.mono (T := SW) fun _ h => h.elim))
        have H6' := Lib.hid (HS.out.still a6)
        clear a6
        go_wp2_with fail
        refine (memories_any G6 3 11 K D R M X Y Z m HM.out.ok HK.out (by have := HM.out.tn; omega) w6 H6'.out.hw H6'.out.pm H6'.out.rm).mono ?_
        rintro e w7 ⟨rfl, G7, a7⟩
        have A7 := Lib.hid (A6.out.trans (a7.mono (T := SW) fun _ h => h.elim))
        clear a7
        go_wp2
        go_ret
        exact ⟨rfl, G7, A7.out⟩
end Go.Proofs.YtdnalhjdmlkbmaaGreatDoor
namespace Go.Proofs.YtdnalhjdmlkbmaaGreatDoor.primPlays
open Go.RowKit Go.ChangeShapes Go.WideShapes
set_option linter.unusedVariables false
set_option maxRecDepth 100000 in
theorem primPlays_open {H : Type} {enc : TypeId × Value → H} (W : World) (base : Nat) (v0 : Value) (d0 : DataW H) (p0 : List MemPlace) (h0 : DataW.Trod enc Tryz.prog W 0 (fun _ => true) true 98 v0 d0 p0) (o0 : Value.okWide Tryz.prog W .any base 98 v0)
    (hsz : (DataW.weightsEach Tryz.prog ([98] ++ []) ([d0] ++ [])).all (· ≤ reachBytes) = true) (hL : laidMetH Tryz.prog laid4 W) :
    Calls Tryz.prog 7 #[v0] W fun e w' => e = .returned (.bool true) ∧ Below W.heap.size W w' := by
  obtain ⟨xs, hx⟩ := opens_arg hsz (j := 0) opens_steps h0 rfl rfl
  obtain ⟨a, n, c, rfl⟩ := okWide_slice Tryz.underlying98 o0
  obtain ⟨a', c', f1, g1, r1⟩ := kSteps hx
  rw [slice_of f1]
  refine (plays_any a' xs.length c' xs W (of_laid hL) rfl (by omega) r1).mono ?_
  rintro e w' ⟨rfl, G', ha⟩
  exact ⟨rfl, ha.below (Nat.le_refl _) fun _ _ => sw0⟩
end Go.Proofs.YtdnalhjdmlkbmaaGreatDoor.primPlays
