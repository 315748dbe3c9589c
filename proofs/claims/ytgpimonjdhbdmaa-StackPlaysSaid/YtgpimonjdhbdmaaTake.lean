/- take: lists that were handed out are written over, appended to and kept. -/
import Derived.Test.YtgpimonjdhbdmaaGave
namespace Go.Proofs.Ytgpimonjdhbdmaa
open Go.RowKit

theorem Try.info22 : (Try.prog.info? 22).map (fun i => (i.zero, i.size, i.bytes)) = some (some (.slice none 0 0), 1, 24) := by kernel_rfl
theorem Try.info36 : (Try.prog.info? 36).map (fun i => (i.zero, i.size, i.bytes)) = some (some (.slice none 0 0), 1, 24) := by kernel_rfl
theorem Try.under65 : Try.prog.underlying 65 = some (.slice 22) := by kernel_rfl
theorem Try.under66 : Try.prog.underlying 66 = some (.slice 36) := by kernel_rfl

set_option maxHeartbeats 4000000 in
set_option maxRecDepth 100000 in
theorem take_any (G : Nat → Nat) (O : Nat → Prop) (i j : Nat) (P D R E Q : Nat) (gv gr : Value) (n : Nat) (xa : Option Addr) (k c : Nat) (xs : List Value) (ya : Option Addr) (m d : Nat) (ys : List Value) (w : World)
    (hP : PairS w G P D R E Q gv gr) (hU : Gave 22 11 w G O markU gv n) (hV : Gave 36 12 w G O markR gr n) (hn : n ≤ 1000) (hx : Row 32 1 w G i (.slice xa k c) k xs) (hk : k ≤ 1000) (hy : Row 43 2 w G j (.slice ya m d) m ys) (hm : m ≤ 1000)
    (hO : ¬ O i ∧ ¬ O j ∧ ¬ O 11 ∧ ¬ O 12 ∧ ¬ O 5) (hij : i ≠ j ∧ 7 ≤ i ∧ 7 ≤ j ∧ i ≤ 10 ∧ j ≤ 10) :
    Calls Try.prog 48 #[.pointer (some ⟨P, 0, none⟩), .slice xa k c, .slice ya m d] w fun e w' => e = .returned (.tuple #[]) ∧ ∃ G' gv' gr', Adv (fun o => o = 5 ∨ o = 11 ∨ o = 12 ∨ o = i ∨ o = j) w G w' G' ∧ PairS w' G' P D R E Q gv' gr' ∧
      Gave 22 11 w' G' (fun o => O o ∨ o = i ∨ o = j) markU gv' (n + 1) ∧ Gave 36 12 w' G' (fun o => O o ∨ o = i ∨ o = j) markR gr' (n + 1) := by
  obtain ⟨a1, c1, e1⟩ := hU.slice
  obtain ⟨a2, c2, e2⟩ := hV.slice
  rw [e1] at hP hU
  rw [e2] at hP hV
  clear e1 e2
  obtain ⟨i0, hi, hz0, hz1, hz2⟩ := info_parts Try.info32
  obtain ⟨i1, hi1, hy0, hy1, hy2⟩ := info_parts Try.info43
  obtain ⟨hi7, hj7, hi10, hj10⟩ := hij.2
  have hne := hij.1
  obtain ⟨cA, cB, cC, cD, cE, cF, cfr⟩ := hP.cells
  have HO := Lib.hid hO
  have HP := Lib.hid hP
  have HU := Lib.hid hU
  have HV := Lib.hid hV
  have HX := Lib.hid hx
  have HY := Lib.hid hy
  have hw1 : IntKind.u16.wrap (9000 + (n : Int)) = 9000 + (n : Int) := by unfold IntKind.wrap; simp [IntKind.bits, IntKind.signed]; omega
  have hw2 : IntKind.i64.wrap (9000 + (n : Int)) = 9000 + (n : Int) := IntWalk.i64_in _ (by omega)
  clear hO hP hU hV hx hy hij cfr cA cB cC cD cF
  go_enter Try.func48, Try.ntmps48
  go_upto_block 0 with fail
  go_cut [] (fun wx => Adv (fun o => o = i) w G wx G ∧ Row 32 1 wx G i (.slice xa k c) k (markU n k))
  case first =>
    go_wp2_with fail
    go_loopw [7] (fun s7 wr => ∃ q : Nat, q ≤ k ∧ s7 = .int .i64 q ∧ Adv (fun o => o = i) w G wr G ∧ ∃ zs, Row 32 1 wr G i (.slice xa k c) k zs ∧ ∀ t, t < q → zs[t]? = some (.int .u16 (9000 + (n : Int)))) (fun s7 _ => k - (intOf s7).toNat)
    case atStart => exact ⟨0, by omega, rfl, Adv.refl _ _ _, xs, HX.out, by omega⟩
    case round =>
      obtain ⟨q, hq, rfl, ha, zs, hz, hall⟩ := hrel
      have HA := Lib.hid ha
      have HZ := Lib.hid hz
      have HALL := Lib.hid hall
      by_cases hlt : q < k
      · obtain ⟨g, rfl, hc1, hc2⟩ := hz.addr (by omega)
        obtain ⟨_, _, hf, hcell⟩ := hz.at (by omega)
        have hlen := hz.nlen
        have hc3 := hcell q _ (List.getElem?_eq_getElem (by omega))
        have hf3 := hf q
        clear ha hz hall hf hcell
        go_wp2_with fail
        go_roundw
        case rel =>
          obtain ⟨s1, s2⟩ := HZ.out.store q (by omega) (.int .u16 (9000 + (n : Int)))
          refine ⟨q + 1, by omega, by go_num, HA.out.trans s1, _, s2, fun t ht => ?_⟩
          rcases Nat.lt_or_ge t q with h | h
          · rw [List.getElem?_set_ne (by omega)]; exact HALL.out t h
          · rw [show t = q from by omega, List.getElem?_set_self (by omega)]
        case measure => simp [intOf]; omega
      · clear ha hz hall
        go_wp2_with fail
        go_meet
        refine ⟨HA.out, ?_⟩
        have hlen := HZ.out.nlen
        have e := markU_of (i := n) (k := k) (by omega) (fun t ht => HALL.out t (by omega))
        rw [← e]; exact HZ.out
  case rest =>
  obtain ⟨h1, h2⟩ := hcut
  obtain ⟨wA, rfl⟩ : ∃ x : World, x = wc := ⟨_, rfl⟩
  have HA1 := Lib.hid h1
  have HR1 := Lib.hid h2
  have HY1 := Lib.hid (HY.out.adv h1 (by omega))
  clear h1 h2 HX HY
  go_upto_block 2 with fail
  go_cut [] (fun wx => Adv (fun o => o = j) wA G wx G ∧ Row 43 2 wx G j (.slice ya m d) m (markR n m))
  case first =>
    go_wp2_with fail
    go_loopw [8] (fun s8 wr => ∃ q : Nat, q ≤ m ∧ s8 = .int .i64 q ∧ Adv (fun o => o = j) wA G wr G ∧ ∃ zs, Row 43 2 wr G j (.slice ya m d) m zs ∧ ∀ t, t < q → zs[t * 2]? = some (.int .i64 (9000 + (n : Int))) ∧ zs[t * 2 + 1]? = some (.int .u16 0)) (fun s8 _ => m - (intOf s8).toNat)
    case atStart => exact ⟨0, by omega, rfl, Adv.refl _ _ _, ys, HY1.out, by omega⟩
    case round =>
      obtain ⟨q, hq, rfl, ha, zs, hz, hall⟩ := hrel
      have HA := Lib.hid ha
      have HZ := Lib.hid hz
      have HALL := Lib.hid hall
      by_cases hlt : q < m
      · obtain ⟨g, rfl, hc1, hc2⟩ := hz.addr (by omega)
        obtain ⟨_, _, hf, hcell⟩ := hz.at (by omega)
        have hlen := hz.nlen
        have hc3 := hcell (q * 2) _ (List.getElem?_eq_getElem (by omega))
        have hc4 := hcell (q * 2 + 1) _ (List.getElem?_eq_getElem (by omega))
        have hf3 := hf (q * 2)
        have hf4 := hf (q * 2 + 1)
        clear ha hz hall hf hcell
        go_wp2_with fail
        go_roundw
        case rel =>
          obtain ⟨s1, s2⟩ := HZ.out.store (q * 2) (by omega) (.int .i64 (9000 + (n : Int)))
          obtain ⟨s3, s4⟩ := s2.store (q * 2 + 1) (by simp; omega) (.int .u16 0)
          refine ⟨q + 1, by omega, by go_num, HA.out.trans (s1.trans s3), _, s4, fun t ht => ?_⟩
          rcases Nat.lt_or_ge t q with h | h
          · rw [List.getElem?_set_ne (by omega), List.getElem?_set_ne (by omega), List.getElem?_set_ne (by omega), List.getElem?_set_ne (by omega)]; exact HALL.out t h
          · obtain rfl : t = q := by omega
            rw [List.getElem?_set_ne (by omega), List.getElem?_set_self (by omega), List.getElem?_set_self (by simp; omega)]; exact ⟨rfl, rfl⟩
        case measure => simp [intOf]; omega
      · clear ha hz hall
        go_wp2_with fail
        go_meet
        refine ⟨HA.out, ?_⟩
        have hlen := HZ.out.nlen
        have e := markR_of (i := n) (k := m) (by omega) (fun t ht => HALL.out t (by omega))
        rw [← e]; exact HZ.out
  case rest =>
  obtain ⟨h1, h2⟩ := hcut
  have HA2 := Lib.hid ((HA1.out.mono (T := fun o => o = i ∨ o = j) fun _ h => .inl h).trans (h1.mono fun _ h => .inr h))
  have HR2 := Lib.hid (HR1.out.adv h1 (by omega))
  have HY2 := Lib.hid h2
  clear h1 h2 HA1 HR1 HY1
  go_upto_block 4 with fail
  go_cut [1, 2] (fun s1 s2 wx => ∃ a c b d H, s1 = .slice a (k + 80) c ∧ s2 = .slice b (m + 80) d ∧ Adv (fun o => o = i ∨ o = j) w G wx H ∧ Row 32 1 wx H i (.slice a (k + 80) c) (k + 80) (markU n (k + 80)) ∧ Row 43 2 wx H j (.slice b (m + 80) d) (m + 80) (markR n (m + 80)))
  case first =>
    go_wp2_with fail
    go_loopw [1, 2, 9] (fun s1 s2 s9 wr => ∃ q : Nat, q ≤ 80 ∧ s9 = .int .i64 q ∧ ∃ a c b d H, s1 = .slice a (k + q) c ∧ s2 = .slice b (m + q) d ∧ Adv (fun o => o = i ∨ o = j) w G wr H ∧ Row 32 1 wr H i (.slice a (k + q) c) (k + q) (markU n (k + q)) ∧ Row 43 2 wr H j (.slice b (m + q) d) (m + q) (markR n (m + q))) (fun _ _ s9 _ => 80 - (intOf s9).toNat)
    case atStart => exact ⟨0, by omega, rfl, xa, c, ya, d, G, rfl, rfl, HA2.out, HR2.out, HY2.out⟩
    case round =>
      obtain ⟨q, hq, rfl, a, c, b, d, H, rfl, rfl, h1, h2, h3⟩ := hrel
      have HA := Lib.hid h1
      have HX := Lib.hid h2
      have HY := Lib.hid h3
      clear h1 h2 h3
      by_cases hlt : q < 80
      · have HX1 := Lib.hid (HX.out.alloc (.cells #[.int .u16 (9000 + (n : Int))] 32) 0)
        have HY1 := Lib.hid (HY.out.alloc (.cells #[.int .u16 (9000 + (n : Int))] 32) 0)
        have HA1 := Lib.hid (HA.out.alloc (.cells #[.int .u16 (9000 + (n : Int))] 32) 0)
        have HN1 := Lib.hid (Reads.new wr [.int .u16 (9000 + (n : Int))] 32)
        go_wp2_with (first
          | (at_builtin; refine wpList_append_reads rfl (.tmp 42) (.tmp 45) 22 rfl 32 i0 (.int .u16 0) 1 2 Try.underlying22 hi hz0 hz1 hz2 rfl (by decide) (own1 wr H 0) i a (k + q) c (markU n (k + q)) rfl HX1.out (some ⟨wr.heap.size, 0, none⟩) 1 1 [.int .u16 (9000 + (n : Int))] rfl rfl HN1.out (cellsU_one [9000 + (n : Int)]) (by unfold maxLen; omega) (by omega) ?_; intro va1 vc1 w1 G2 h1 h2; rw [markU_snoc] at h1; have HX2 := Lib.hid (h1.alloc (.cells #[.int .i64 (9000 + (n : Int)), .int .u16 0] 43) 0); have HY2 := Lib.hid ((HY1.out.adv h2 (by omega)).alloc (.cells #[.int .i64 (9000 + (n : Int)), .int .u16 0] 43) 0); have HA2 := Lib.hid ((HA1.out.trans (h2.mono fun _ h => .inl h)).alloc (.cells #[.int .i64 (9000 + (n : Int)), .int .u16 0] 43) 0); have HN2 := Lib.hid (Reads.new w1 [.int .i64 (9000 + (n : Int)), .int .u16 0] 43); clear h1 h2)
          | (at_builtin; refine wpList_append_reads rfl (.tmp 47) (.tmp 50) 36 rfl 43 i1 (.agg #[.int .i64 0, .int .u16 0]) 2 16 Try.underlying36 hi1 hy0 hy1 hy2 rfl (by decide) (own1 w1 G2 0) j b (m + q) d (markR n (m + q)) rfl HY2.out (some ⟨w1.heap.size, 0, none⟩) 1 1 [.int .i64 (9000 + (n : Int)), .int .u16 0] rfl rfl HN2.out (cellsR_one [(9000 + (n : Int), 0)]) (by unfold maxLen; omega) (by omega) ?_; intro va2 vc2 w2 G3 h1 h2; rw [markR_snoc] at h1; have HX3 := Lib.hid (HX2.out.adv h2 (by omega)); have HY3 := Lib.hid h1; have HA3 := Lib.hid (HA2.out.trans (h2.mono fun _ h => .inr h)); clear h1 h2))
        go_roundw
        case rel =>
          exact ⟨q + 1, by omega, by go_num, va1, vc1, va2, vc2, G3, rfl, rfl, HA3.out, HX3.out, HY3.out⟩
        case measure => simp [intOf]; omega
      · obtain rfl : q = 80 := by omega
        go_wp2_with fail
        go_meet
        exact ⟨a, c, b, d, H, rfl, rfl, HA.out, HX.out, HY.out⟩
  case rest =>
  obtain ⟨a, c0, b, d0, H, rfl, rfl, h1, h2, h3⟩ := hcut
  obtain ⟨wB, rfl⟩ : ∃ x : World, x = wc := ⟨_, rfl⟩
  have hp := HP.out.adv h1 (by omega)
  have hOS : ∀ o, O o → ¬ (o = i ∨ o = j) := fun o ho h => by
    rcases h with rfl | rfl
    · exact HO.out.1 ho
    · exact HO.out.2.1 ho
  have hu := HU.out.adv h1 (by omega) hOS
  have hv := HV.out.adv h1 (by omega) hOS
  obtain ⟨vs, hu1, hu2⟩ := hu
  obtain ⟨us, hv1, hv2⟩ := hv
  obtain ⟨cA, cB, cC, cD, cE', cF, cfr⟩ := hp.cells
  have hal := (Adv.refl (fun _ => False) wB H).alloc (.cells #[.slice a (k + 80) c0] 22) 0
  have HP1 := Lib.hid (hp.adv hal id)
  have HA1 := Lib.hid ((h1.trans (hal.mono fun _ h => h.elim)).mono (T := fun o => o = 5 ∨ o = 11 ∨ o = 12 ∨ o = i ∨ o = j) (fun _ h => by omega))
  have HX1 := Lib.hid (h2.adv hal id)
  have HY1 := Lib.hid (h3.adv hal id)
  have HU1 := Lib.hid (hu1.adv hal id)
  have HUh := Lib.hid (fun q v hq => (hu2 q v hq).adv hal (fun _ _ => id))
  have HV1 := Lib.hid (hv1.adv hal id)
  have HVh := Lib.hid (fun q v hq => (hv2 q v hq).adv hal (fun _ _ => id))
  have HN1 := Lib.hid (Reads.new wB [.slice a (k + 80) c0] 22)
  obtain ⟨H1, hH1⟩ : ∃ H1, H1 = own1 wB H 0 := ⟨_, rfl⟩
  rw [← hH1] at HP1 HA1 HX1 HY1 HU1 HUh HV1 HVh
  obtain ⟨j0, hj, hv0, hv1', hv2'⟩ := info_parts Try.info22
  obtain ⟨j1, hj1, hu0, hu1', hu2'⟩ := info_parts Try.info36
  clear hp hu1 hu2 hv1 hv2 cfr cA cB cC cD cF hal hH1 h1 h2 h3
  go_upto_region 14 with fail
  go_cut [] (fun wx => ∃ gv' K, Adv (fun o => o = 5 ∨ o = 11) (wB.alloc (.cells #[.slice a (k + 80) c0] 22)) H1 wx K ∧ PairS wx K P D R E Q gv' (.slice a2 n c2) ∧ Row 22 1 wx K 11 gv' (n + 1) (vs ++ [.slice a (k + 80) c0]))
  case first =>
    go_wp2_with (at_builtin; refine wpList_append_reads rfl (.tmp 56) (.tmp 58) 65 rfl 22 j0 (.slice none 0 0) 1 24 Try.under65 hj hv0 hv1' hv2' rfl (by decide) H1 11 a1 n c1 vs rfl HU1.out (some ⟨wB.heap.size, 0, none⟩) 1 1 [.slice a (k + 80) c0] rfl rfl HN1.out (by intro u hu; simp at hu; rw [hu]; rfl) (by unfold maxLen; omega) (by omega) ?_; intro va1 vc1 w1 G2 h1 h2; have hp := HP1.out.adv h2 (by omega); obtain ⟨_, _, _, _, cE1, _, cfr⟩ := hp.cells; have cf4 := cfr 4; have HPa := Lib.hid hp; have HRa := Lib.hid h1; have HAa := Lib.hid h2; clear h1 h2 hp cfr)
    go_meet
    obtain ⟨s1, s2⟩ := HPa.out.set4 (.slice va1 (n + 1) vc1)
    exact ⟨_, _, (HAa.out.mono fun _ h => .inr h).trans (s1.mono fun _ h => .inl h), s2, HRa.out.adv s1 (by omega)⟩
  case rest =>
  obtain ⟨gv', K, h1, h2, h3⟩ := hcut
  obtain ⟨wC, rfl⟩ : ∃ x : World, x = wc := ⟨_, rfl⟩
  have hOS' : ∀ o, O o → ¬ (o = 5 ∨ o = 11) := fun o ho h => by
    rcases h with rfl | rfl
    · exact HO.out.2.2.2.2 ho
    · exact HO.out.2.2.1 ho
  obtain ⟨_, _, _, _, _, cF1, _⟩ := h2.cells
  have hal := (Adv.refl (fun _ => False) wC K).alloc (.cells #[.slice b (m + 80) d0] 36) 0
  have HA2 := Lib.hid ((HA1.out.trans (h1.mono fun _ h => by omega)).trans (hal.mono fun _ h => h.elim))
  have HP2 := Lib.hid (h2.adv hal id)
  have HX2 := Lib.hid ((HX1.out.adv h1 (by omega)).adv hal id)
  have HY2 := Lib.hid ((HY1.out.adv h1 (by omega)).adv hal id)
  have HU2 := Lib.hid (h3.adv hal id)
  have HUh2 := Lib.hid (fun q v hq => ((HUh.out q v hq).adv h1 hOS').adv hal (fun _ _ => id))
  have HV2 := Lib.hid ((HV1.out.adv h1 (by omega)).adv hal id)
  have HVh2 := Lib.hid (fun q v hq => ((HVh.out q v hq).adv h1 hOS').adv hal (fun _ _ => id))
  have HN2 := Lib.hid (Reads.new wC [.slice b (m + 80) d0] 36)
  obtain ⟨K1, hK1⟩ : ∃ K1, K1 = own1 wC K 0 := ⟨_, rfl⟩
  rw [← hK1] at HP2 HA2 HX2 HY2 HU2 HUh2 HV2 HVh2
  clear h1 h2 h3 hal hK1
  go_wp2_with (at_builtin; refine wpList_append_reads rfl (.tmp 66) (.tmp 68) 66 rfl 36 j1 (.slice none 0 0) 1 24 Try.under66 hj1 hu0 hu1' hu2' rfl (by decide) K1 12 a2 n c2 us rfl HV2.out (some ⟨wC.heap.size, 0, none⟩) 1 1 [.slice b (m + 80) d0] rfl rfl HN2.out (by intro u hu; simp at hu; rw [hu]; rfl) (by unfold maxLen; omega) (by omega) ?_; intro va1 vc1 w1 G2 h1 h2; have hp := HP2.out.adv h2 (by omega); obtain ⟨_, _, _, _, _, cE1, cfr⟩ := hp.cells; have cf5 := cfr 5; have HPa := Lib.hid hp; have HRa := Lib.hid h1; have HAa := Lib.hid h2; clear h1 h2 hp cfr)
  go_end0
  obtain ⟨s1, s2⟩ := HPa.out.set5 (.slice va1 (n + 1) vc1)
  have hO5 : ∀ o, O o → ¬ (o = 12) := fun o ho e => HO.out.2.2.2.1 (e ▸ ho)
  have hO6 : ∀ o, O o → ¬ (o = 5) := fun o ho e => HO.out.2.2.2.2 (e ▸ ho)
  refine ⟨rfl, G2, _, _, (HA2.out.trans (HAa.out.mono fun _ h => by omega)).trans (s1.mono fun _ h => by omega), s2, ⟨_, (HU2.out.adv HAa.out (by omega)).adv s1 (by omega), fun q v hq => ?_⟩, ⟨_, HRa.out.adv s1 (by omega), fun q v hq => ?_⟩⟩
  · rw [List.getElem?_append] at hq
    split at hq
    · exact (((HUh2.out q v hq).adv HAa.out hO5).adv s1 hO6).mono fun _ _ h => .inl h
    · have hlen := HU2.out.nlen
      simp at hlen
      have hq0 : q = n := by
        rcases Nat.eq_zero_or_pos (q - vs.length) with h | h
        · omega
        · rw [List.getElem?_eq_none (by simp; omega)] at hq; cases hq
      rw [show q - vs.length = 0 from by omega] at hq
      obtain rfl : Value.slice a (k + 80) c0 = v := by simpa using hq
      rw [hq0]
      exact Held.row ((HX2.out.adv HAa.out (by omega)).adv s1 (by omega)) (.inr (.inl rfl))
  · rw [List.getElem?_append] at hq
    split at hq
    · exact (((HVh2.out q v hq).adv HAa.out hO5).adv s1 hO6).mono fun _ _ h => .inl h
    · have hlen := HV2.out.nlen
      have hq0 : q = n := by
        rcases Nat.eq_zero_or_pos (q - us.length) with h | h
        · omega
        · rw [List.getElem?_eq_none (by simp; omega)] at hq; cases hq
      rw [show q - us.length = 0 from by omega] at hq
      obtain rfl : Value.slice b (m + 80) d0 = v := by simpa using hq
      rw [hq0]
      exact Held.row ((HY2.out.adv HAa.out (by omega)).adv s1 (by omega)) (.inr (.inr rfl))
end Go.Proofs.Ytgpimonjdhbdmaa
