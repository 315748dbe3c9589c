/- What does hands back. -/
import Derived.Test.YtdnalhjdmlkbmaaDoorNumNo
import Derived.Test.YtdnalhjdmlkbmaaDoorDesk
namespace Go.Proofs.YtdnalhjdmlkbmaaDoor
open Go.RowKit

/-- What a shuffle's closure holds. -/
def ShufCl (n : Nat) (ps : List Nat) (w : World) (G : Nat → Nat) (c : Array Value) : Prop :=
  ∃ B1 B2 la lc, c = #[.pointer (some ⟨B1, 0, none⟩), .pointer (some ⟨B2, 0, none⟩)] ∧ w.cell? ⟨B1, 0, none⟩ = some (.int .i64 n) ∧ G B1 = 0 ∧ w.cell? ⟨B2, 0, none⟩ = some (.slice la ps.length lc) ∧ G B2 = 0 ∧
    Reads w la (cellsI ps) ∧ ∀ ad, la = some ad → G ad.block = 0 ∧ ad.block < w.heap.size
theorem ShufCl.adv {n : Nat} {ps : List Nat} {S : Nat → Prop} {w w' : World} {G G' : Nat → Nat} {c : Array Value} (h : ShufCl n ps w G c) (ha : Adv S w G w' G') (hs : ¬ S 0) : ShufCl n ps w' G' c := by
  obtain ⟨B1, B2, la, lc, h1, h2, h3, h4, h5, h6, h7⟩ := h
  exact ⟨B1, B2, la, lc, h1, ha.cell_some h2 (by rw [h3]; exact hs), (ha.own _ (World.block_lt_of_cell? w _ h2)).trans h3, ha.cell_some h4 (by rw [h5]; exact hs), (ha.own _ (World.block_lt_of_cell? w _ h4)).trans h5,
    h6.adv ha (fun ad e => by rw [(h7 ad e).1]; exact hs), fun ad e => ⟨(ha.own _ (h7 ad e).2).trans (h7 ad e).1, Nat.lt_of_lt_of_le (h7 ad e).2 ha.size⟩⟩
theorem shufCl_new (w : World) (G : Nat → Nat) (n : Nat) (ps : List Nat) :
    ∃ G', Adv (fun _ => False) w G (((w.alloc (.cells (cellsI ps).toArray 3)).alloc (.cells #[.int .i64 n] 3)).alloc (.cells #[.slice (some ⟨w.heap.size, 0, none⟩) ps.length ps.length] 23)) G' ∧
      ShufCl n ps (((w.alloc (.cells (cellsI ps).toArray 3)).alloc (.cells #[.int .i64 n] 3)).alloc (.cells #[.slice (some ⟨w.heap.size, 0, none⟩) ps.length ps.length] 23)) G' #[.pointer (some ⟨w.heap.size + 1, 0, none⟩), .pointer (some ⟨w.heap.size + 2, 0, none⟩)] := by
  have h1 := (Adv.refl (fun _ => False) w G).alloc (.cells (cellsI ps).toArray 3) 0
  have h2 := h1.alloc (.cells #[.int .i64 n] 3) 0
  have h3 := h2.alloc (.cells #[.slice (some ⟨w.heap.size, 0, none⟩) ps.length ps.length] 23) 0
  refine ⟨_, h3, w.heap.size + 1, w.heap.size + 2, some ⟨w.heap.size, 0, none⟩, ps.length, rfl, ?_, ?_, ?_, ?_, ((Reads.new w (cellsI ps) 3).alloc _).alloc _, ?_⟩
  · exact block_cell (C := #[.int .i64 n]) (T := 3) ((heap_past _ _ _ (by simp)).trans (heap_at _ _ _ (by simp))) 0 _ rfl
  · simp [own1]
  · exact block_cell (C := #[.slice (some ⟨w.heap.size, 0, none⟩) ps.length ps.length]) (T := 23) (heap_at _ _ _ (by simp)) 0 _ rfl
  · simp [own1]
  · rintro ad ⟨⟩; simp [own1]; omega
theorem shufCl_nil (w : World) (G : Nat → Nat) (n : Nat) :
    ∃ G', Adv (fun _ => False) w G ((w.alloc (.cells #[.int .i64 n] 3)).alloc (.cells #[.slice none 0 0] 23)) G' ∧
      ShufCl n [] ((w.alloc (.cells #[.int .i64 n] 3)).alloc (.cells #[.slice none 0 0] 23)) G' #[.pointer (some ⟨w.heap.size, 0, none⟩), .pointer (some ⟨w.heap.size + 1, 0, none⟩)] := by
  have h2 := (Adv.refl (fun _ => False) w G).alloc (.cells #[.int .i64 n] 3) 0
  have h3 := h2.alloc (.cells #[.slice none 0 0] 23) 0
  refine ⟨_, h3, w.heap.size, w.heap.size + 1, none, 0, rfl, ?_, ?_, ?_, ?_, .inl rfl, ?_⟩
  · exact block_cell (C := #[.int .i64 n]) (T := 3) ((heap_past _ _ _ (by simp)).trans (heap_at _ _ _ (by simp))) 0 _ rfl
  · simp [own1]
  · exact block_cell (C := #[.slice none 0 0]) (T := 23) (heap_at _ _ _ (by simp)) 0 _ rfl
  · simp [own1]
  · rintro ad ⟨⟩

set_option maxRecDepth 100000 in
theorem does_12 (G : Nat → Nat) (w : World) : Calls Tryd.prog 79 #[.int .i64 12] w fun e w' => ∃ c G', e = .returned (.func (.func 104) #[] c) ∧ Adv (fun _ => False) w G w' G' ∧ ShufCl 1 [0, 0] w' G' c := by
  have hmf : ∀ (fn : Fn) (first cap : Array Value) (w : World), (Instr.makeFunc fn first cap).run Tryd.prog w = .ok (.func fn first cap) w := fun _ _ _ _ => rfl
  go_enter Tryd.func79, Tryd.ntmps79
  go_wp2_with (first | (go_at_call 86; refine (unary_no12 _ _).mono ?_; rintro e w' ⟨rfl, rfl⟩) | (go_at_call 88; refine (binary_no12 _ _ _).mono ?_; rintro e w' ⟨rfl, rfl⟩) | (go_at_call 91; go_in))
  go_ret
  obtain ⟨G', h1, h2⟩ := shufCl_new w G 1 [0, 0]
  exact ⟨_, G', rfl, h1, h2⟩
set_option maxRecDepth 100000 in
theorem does_13 (G : Nat → Nat) (w : World) : Calls Tryd.prog 79 #[.int .i64 13] w fun e w' => ∃ c G', e = .returned (.func (.func 104) #[] c) ∧ Adv (fun _ => False) w G w' G' ∧ ShufCl 1 [] w' G' c := by
  have hmf : ∀ (fn : Fn) (first cap : Array Value) (w : World), (Instr.makeFunc fn first cap).run Tryd.prog w = .ok (.func fn first cap) w := fun _ _ _ _ => rfl
  go_enter Tryd.func79, Tryd.ntmps79
  go_wp2_with (first | (go_at_call 86; refine (unary_no13 _ _).mono ?_; rintro e w' ⟨rfl, rfl⟩) | (go_at_call 88; refine (binary_no13 _ _ _).mono ?_; rintro e w' ⟨rfl, rfl⟩) | (go_at_call 91; go_in))
  go_ret
  obtain ⟨G', h1, h2⟩ := shufCl_nil w G 1
  exact ⟨_, G', rfl, h1, h2⟩
set_option maxRecDepth 100000 in
theorem does_14 (G : Nat → Nat) (w : World) : Calls Tryd.prog 79 #[.int .i64 14] w fun e w' => ∃ c G', e = .returned (.func (.func 104) #[] c) ∧ Adv (fun _ => False) w G w' G' ∧ ShufCl 2 [1, 0] w' G' c := by
  have hmf : ∀ (fn : Fn) (first cap : Array Value) (w : World), (Instr.makeFunc fn first cap).run Tryd.prog w = .ok (.func fn first cap) w := fun _ _ _ _ => rfl
  go_enter Tryd.func79, Tryd.ntmps79
  go_wp2_with (first | (go_at_call 86; refine (unary_no14 _ _).mono ?_; rintro e w' ⟨rfl, rfl⟩) | (go_at_call 88; refine (binary_no14 _ _ _).mono ?_; rintro e w' ⟨rfl, rfl⟩) | (go_at_call 91; go_in))
  go_ret
  obtain ⟨G', h1, h2⟩ := shufCl_new w G 2 [1, 0]
  exact ⟨_, G', rfl, h1, h2⟩
set_option maxRecDepth 100000 in
theorem does_15 (G : Nat → Nat) (w : World) : Calls Tryd.prog 79 #[.int .i64 15] w fun e w' => ∃ c G', e = .returned (.func (.func 104) #[] c) ∧ Adv (fun _ => False) w G w' G' ∧ ShufCl 2 [0, 1, 0] w' G' c := by
  have hmf : ∀ (fn : Fn) (first cap : Array Value) (w : World), (Instr.makeFunc fn first cap).run Tryd.prog w = .ok (.func fn first cap) w := fun _ _ _ _ => rfl
  go_enter Tryd.func79, Tryd.ntmps79
  go_wp2_with (first | (go_at_call 86; refine (unary_no15 _ _).mono ?_; rintro e w' ⟨rfl, rfl⟩) | (go_at_call 88; refine (binary_no15 _ _ _).mono ?_; rintro e w' ⟨rfl, rfl⟩) | (go_at_call 91; go_in))
  go_ret
  obtain ⟨G', h1, h2⟩ := shufCl_new w G 2 [0, 1, 0]
  exact ⟨_, G', rfl, h1, h2⟩
set_option maxRecDepth 100000 in
theorem does_16 (G : Nat → Nat) (w : World) : Calls Tryd.prog 79 #[.int .i64 16] w fun e w' => ∃ c G', e = .returned (.func (.func 104) #[] c) ∧ Adv (fun _ => False) w G w' G' ∧ ShufCl 3 [1, 2, 0] w' G' c := by
  have hmf : ∀ (fn : Fn) (first cap : Array Value) (w : World), (Instr.makeFunc fn first cap).run Tryd.prog w = .ok (.func fn first cap) w := fun _ _ _ _ => rfl
  go_enter Tryd.func79, Tryd.ntmps79
  go_wp2_with (first | (go_at_call 86; refine (unary_no16 _ _).mono ?_; rintro e w' ⟨rfl, rfl⟩) | (go_at_call 88; refine (binary_no16 _ _ _).mono ?_; rintro e w' ⟨rfl, rfl⟩) | (go_at_call 91; go_in))
  go_ret
  obtain ⟨G', h1, h2⟩ := shufCl_new w G 3 [1, 2, 0]
  exact ⟨_, G', rfl, h1, h2⟩
set_option maxRecDepth 100000 in
theorem does_17 (G : Nat → Nat) (w : World) : Calls Tryd.prog 79 #[.int .i64 17] w fun e w' => ∃ c G', e = .returned (.func (.func 104) #[] c) ∧ Adv (fun _ => False) w G w' G' ∧ ShufCl 2 [1] w' G' c := by
  have hmf : ∀ (fn : Fn) (first cap : Array Value) (w : World), (Instr.makeFunc fn first cap).run Tryd.prog w = .ok (.func fn first cap) w := fun _ _ _ _ => rfl
  go_enter Tryd.func79, Tryd.ntmps79
  go_wp2_with (first | (go_at_call 86; refine (unary_no17 _ _).mono ?_; rintro e w' ⟨rfl, rfl⟩) | (go_at_call 88; refine (binary_no17 _ _ _).mono ?_; rintro e w' ⟨rfl, rfl⟩) | (go_at_call 91; go_in))
  go_ret
  obtain ⟨G', h1, h2⟩ := shufCl_new w G 2 [1]
  exact ⟨_, G', rfl, h1, h2⟩
set_option maxRecDepth 100000 in
theorem does_18 (G : Nat → Nat) (w : World) : Calls Tryd.prog 79 #[.int .i64 18] w fun e w' => ∃ c G', e = .returned (.func (.func 104) #[] c) ∧ Adv (fun _ => False) w G w' G' ∧ ShufCl 2 [1, 0, 1] w' G' c := by
  have hmf : ∀ (fn : Fn) (first cap : Array Value) (w : World), (Instr.makeFunc fn first cap).run Tryd.prog w = .ok (.func fn first cap) w := fun _ _ _ _ => rfl
  go_enter Tryd.func79, Tryd.ntmps79
  go_wp2_with (first | (go_at_call 86; refine (unary_no18 _ _).mono ?_; rintro e w' ⟨rfl, rfl⟩) | (go_at_call 88; refine (binary_no18 _ _ _).mono ?_; rintro e w' ⟨rfl, rfl⟩) | (go_at_call 91; go_in))
  go_ret
  obtain ⟨G', h1, h2⟩ := shufCl_new w G 2 [1, 0, 1]
  exact ⟨_, G', rfl, h1, h2⟩
set_option maxRecDepth 100000 in
theorem does_19 (G : Nat → Nat) (w : World) : Calls Tryd.prog 79 #[.int .i64 19] w fun e w' => ∃ c G', e = .returned (.func (.func 104) #[] c) ∧ Adv (fun _ => False) w G w' G' ∧ ShufCl 2 [0, 1, 0, 1] w' G' c := by
  have hmf : ∀ (fn : Fn) (first cap : Array Value) (w : World), (Instr.makeFunc fn first cap).run Tryd.prog w = .ok (.func fn first cap) w := fun _ _ _ _ => rfl
  go_enter Tryd.func79, Tryd.ntmps79
  go_wp2_with (first | (go_at_call 86; refine (unary_no19 _ _).mono ?_; rintro e w' ⟨rfl, rfl⟩) | (go_at_call 88; refine (binary_no19 _ _ _).mono ?_; rintro e w' ⟨rfl, rfl⟩) | (go_at_call 91; go_in))
  go_ret
  obtain ⟨G', h1, h2⟩ := shufCl_new w G 2 [0, 1, 0, 1]
  exact ⟨_, G', rfl, h1, h2⟩
set_option maxRecDepth 100000 in
theorem does_20 (G : Nat → Nat) (w : World) : Calls Tryd.prog 79 #[.int .i64 20] w fun e w' => ∃ c G', e = .returned (.func (.func 104) #[] c) ∧ Adv (fun _ => False) w G w' G' ∧ ShufCl 2 [] w' G' c := by
  have hmf : ∀ (fn : Fn) (first cap : Array Value) (w : World), (Instr.makeFunc fn first cap).run Tryd.prog w = .ok (.func fn first cap) w := fun _ _ _ _ => rfl
  go_enter Tryd.func79, Tryd.ntmps79
  go_wp2_with (first | (go_at_call 86; refine (unary_no20 _ _).mono ?_; rintro e w' ⟨rfl, rfl⟩) | (go_at_call 88; refine (binary_no20 _ _ _).mono ?_; rintro e w' ⟨rfl, rfl⟩) | (go_at_call 91; go_in))
  go_ret
  obtain ⟨G', h1, h2⟩ := shufCl_nil w G 2
  exact ⟨_, G', rfl, h1, h2⟩
theorem does_6 (w : World) : Calls Tryd.prog 79 #[.int .i64 6] w fun e w' => e = .returned (.func (.func 106) #[] #[]) ∧ w = w' := by
  go_enter Tryd.func79, Tryd.ntmps79
  go_wp2_with (first | (go_at_call 86; refine (unary_no6 _ _).mono ?_; rintro e w' ⟨rfl, rfl⟩) | (go_at_call 88; refine (binary_no6 _ _ _).mono ?_; rintro e w' ⟨rfl, rfl⟩) | (go_at_call 92; go_in))
  go_ret
  exact ⟨rfl, rfl⟩
theorem does_50 (w : World) : Calls Tryd.prog 79 #[.int .i64 50] w fun e w' => e = .returned (.func (.func 107) #[] #[]) ∧ w = w' := by
  go_enter Tryd.func79, Tryd.ntmps79
  go_wp2_with (first | (go_at_call 86; refine (unary_no50 _ _).mono ?_; rintro e w' ⟨rfl, rfl⟩) | (go_at_call 88; refine (binary_no50 _ _ _).mono ?_; rintro e w' ⟨rfl, rfl⟩) | (go_at_call 92; go_in))
  go_ret
  exact ⟨rfl, rfl⟩
theorem does_51 (w : World) : Calls Tryd.prog 79 #[.int .i64 51] w fun e w' => e = .returned (.func (.func 108) #[] #[]) ∧ w = w' := by
  go_enter Tryd.func79, Tryd.ntmps79
  go_wp2_with (first | (go_at_call 86; refine (unary_no51 _ _).mono ?_; rintro e w' ⟨rfl, rfl⟩) | (go_at_call 88; refine (binary_no51 _ _ _).mono ?_; rintro e w' ⟨rfl, rfl⟩) | (go_at_call 92; go_in))
  go_ret
  exact ⟨rfl, rfl⟩
theorem does_52 (w : World) : Calls Tryd.prog 79 #[.int .i64 52] w fun e w' => e = .returned (.func (.func 109) #[] #[]) ∧ w = w' := by
  go_enter Tryd.func79, Tryd.ntmps79
  go_wp2_with (first | (go_at_call 86; refine (unary_no52 _ _).mono ?_; rintro e w' ⟨rfl, rfl⟩) | (go_at_call 88; refine (binary_no52 _ _ _).mono ?_; rintro e w' ⟨rfl, rfl⟩) | (go_at_call 92; go_in))
  go_ret
  exact ⟨rfl, rfl⟩
theorem does_53 (w : World) : Calls Tryd.prog 79 #[.int .i64 53] w fun e w' => e = .returned (.func (.func 110) #[] #[]) ∧ w = w' := by
  go_enter Tryd.func79, Tryd.ntmps79
  go_wp2_with (first | (go_at_call 86; refine (unary_no53 _ _).mono ?_; rintro e w' ⟨rfl, rfl⟩) | (go_at_call 88; refine (binary_no53 _ _ _).mono ?_; rintro e w' ⟨rfl, rfl⟩) | (go_at_call 92; go_in))
  go_ret
  exact ⟨rfl, rfl⟩
theorem does_54 (w : World) : Calls Tryd.prog 79 #[.int .i64 54] w fun e w' => e = .returned (.func (.func 111) #[] #[]) ∧ w = w' := by
  go_enter Tryd.func79, Tryd.ntmps79
  go_wp2_with (first | (go_at_call 86; refine (unary_no54 _ _).mono ?_; rintro e w' ⟨rfl, rfl⟩) | (go_at_call 88; refine (binary_no54 _ _ _).mono ?_; rintro e w' ⟨rfl, rfl⟩) | (go_at_call 92; go_in))
  go_ret
  exact ⟨rfl, rfl⟩
theorem does_55 (w : World) : Calls Tryd.prog 79 #[.int .i64 55] w fun e w' => e = .returned (.func (.func 112) #[] #[]) ∧ w = w' := by
  go_enter Tryd.func79, Tryd.ntmps79
  go_wp2_with (first | (go_at_call 86; refine (unary_no55 _ _).mono ?_; rintro e w' ⟨rfl, rfl⟩) | (go_at_call 88; refine (binary_no55 _ _ _).mono ?_; rintro e w' ⟨rfl, rfl⟩) | (go_at_call 92; go_in))
  go_ret
  exact ⟨rfl, rfl⟩
theorem does_56 (w : World) : Calls Tryd.prog 79 #[.int .i64 56] w fun e w' => e = .returned (.func (.func 113) #[] #[]) ∧ w = w' := by
  go_enter Tryd.func79, Tryd.ntmps79
  go_wp2_with (first | (go_at_call 86; refine (unary_no56 _ _).mono ?_; rintro e w' ⟨rfl, rfl⟩) | (go_at_call 88; refine (binary_no56 _ _ _).mono ?_; rintro e w' ⟨rfl, rfl⟩) | (go_at_call 92; go_in))
  go_ret
  exact ⟨rfl, rfl⟩
theorem does_57 (w : World) : Calls Tryd.prog 79 #[.int .i64 57] w fun e w' => e = .returned (.func (.func 114) #[] #[]) ∧ w = w' := by
  go_enter Tryd.func79, Tryd.ntmps79
  go_wp2_with (first | (go_at_call 86; refine (unary_no57 _ _).mono ?_; rintro e w' ⟨rfl, rfl⟩) | (go_at_call 88; refine (binary_no57 _ _ _).mono ?_; rintro e w' ⟨rfl, rfl⟩) | (go_at_call 92; go_in))
  go_ret
  exact ⟨rfl, rfl⟩
theorem does_58 (w : World) : Calls Tryd.prog 79 #[.int .i64 58] w fun e w' => e = .returned (.func (.func 115) #[] #[]) ∧ w = w' := by
  go_enter Tryd.func79, Tryd.ntmps79
  go_wp2_with (first | (go_at_call 86; refine (unary_no58 _ _).mono ?_; rintro e w' ⟨rfl, rfl⟩) | (go_at_call 88; refine (binary_no58 _ _ _).mono ?_; rintro e w' ⟨rfl, rfl⟩) | (go_at_call 92; go_in))
  go_ret
  exact ⟨rfl, rfl⟩
theorem does_59 (w : World) : Calls Tryd.prog 79 #[.int .i64 59] w fun e w' => e = .returned (.func (.func 116) #[] #[]) ∧ w = w' := by
  go_enter Tryd.func79, Tryd.ntmps79
  go_wp2_with (first | (go_at_call 86; refine (unary_no59 _ _).mono ?_; rintro e w' ⟨rfl, rfl⟩) | (go_at_call 88; refine (binary_no59 _ _ _).mono ?_; rintro e w' ⟨rfl, rfl⟩) | (go_at_call 92; go_in))
  go_ret
  exact ⟨rfl, rfl⟩
theorem does_60 (w : World) : Calls Tryd.prog 79 #[.int .i64 60] w fun e w' => e = .returned (.func (.func 117) #[] #[]) ∧ w = w' := by
  go_enter Tryd.func79, Tryd.ntmps79
  go_wp2_with (first | (go_at_call 86; refine (unary_no60 _ _).mono ?_; rintro e w' ⟨rfl, rfl⟩) | (go_at_call 88; refine (binary_no60 _ _ _).mono ?_; rintro e w' ⟨rfl, rfl⟩) | (go_at_call 92; go_in))
  go_ret
  exact ⟨rfl, rfl⟩
theorem does_61 (w : World) : Calls Tryd.prog 79 #[.int .i64 61] w fun e w' => e = .returned (.func (.func 118) #[] #[]) ∧ w = w' := by
  go_enter Tryd.func79, Tryd.ntmps79
  go_wp2_with (first | (go_at_call 86; refine (unary_no61 _ _).mono ?_; rintro e w' ⟨rfl, rfl⟩) | (go_at_call 88; refine (binary_no61 _ _ _).mono ?_; rintro e w' ⟨rfl, rfl⟩) | (go_at_call 92; go_in))
  go_ret
  exact ⟨rfl, rfl⟩
theorem does_62 (w : World) : Calls Tryd.prog 79 #[.int .i64 62] w fun e w' => e = .returned (.func (.func 119) #[] #[]) ∧ w = w' := by
  go_enter Tryd.func79, Tryd.ntmps79
  go_wp2_with (first | (go_at_call 86; refine (unary_no62 _ _).mono ?_; rintro e w' ⟨rfl, rfl⟩) | (go_at_call 88; refine (binary_no62 _ _ _).mono ?_; rintro e w' ⟨rfl, rfl⟩) | (go_at_call 92; go_in))
  go_ret
  exact ⟨rfl, rfl⟩
theorem does_63 (w : World) : Calls Tryd.prog 79 #[.int .i64 63] w fun e w' => e = .returned (.func (.func 120) #[] #[]) ∧ w = w' := by
  go_enter Tryd.func79, Tryd.ntmps79
  go_wp2_with (first | (go_at_call 86; refine (unary_no63 _ _).mono ?_; rintro e w' ⟨rfl, rfl⟩) | (go_at_call 88; refine (binary_no63 _ _ _).mono ?_; rintro e w' ⟨rfl, rfl⟩) | (go_at_call 92; go_in))
  go_ret
  exact ⟨rfl, rfl⟩
theorem does_9 (w : World) : Calls Tryd.prog 79 #[.int .i64 9] w fun e w' => e = .returned (.func (.func 90) #[] #[]) ∧ w = w' := by
  go_enter Tryd.func79, Tryd.ntmps79
  go_wp2_with (first | (go_at_call 86; refine (unary_no9 _ _).mono ?_; rintro e w' ⟨rfl, rfl⟩) | (go_at_call 88; refine (binary_no9 _ _ _).mono ?_; rintro e w' ⟨rfl, rfl⟩))
  go_ret
  exact ⟨rfl, rfl⟩
end Go.Proofs.YtdnalhjdmlkbmaaDoor
