/- StackPlays' beginning: two stacks and the document's, empty. -/
import Derived.Test.YtgpimonjdhbdmaaPlays
namespace Go.Proofs.Ytgpimonjdhbdmaa
open Go.RowKit

def start4 (w : World) : World := (((w.alloc (.cells #[.slice none 0 0] 58)).alloc (.cells #[.slice none 0 0] 40)).alloc (.cells #[.slice none 0 0] 61)).alloc (.cells #[.slice none 0 0] 64)
def startP (s : Nat) : Obj := .cells #[.pointer (some ⟨s, 0, none⟩), .pointer (some ⟨s + 1, 0, none⟩), .pointer (some ⟨s + 2, 0, none⟩), .pointer (some ⟨s + 3, 0, none⟩), .slice none 0 0, .slice none 0 0] 68
theorem start_any (w : World) : ∃ G, Adv (fun _ => False) w (fun _ => 0) ((start4 w).alloc (startP w.heap.size)) G ∧ StandsA ((start4 w).alloc (startP w.heap.size)) G (w.heap.size + 4) 0 := by
  have s1 : (w.alloc (.cells #[.slice none 0 0] 58)).heap.size = w.heap.size + 1 := by simp
  have s2 : ((w.alloc (.cells #[.slice none 0 0] 58)).alloc (.cells #[.slice none 0 0] 40)).heap.size = w.heap.size + 2 := by simp
  have s3 : (((w.alloc (.cells #[.slice none 0 0] 58)).alloc (.cells #[.slice none 0 0] 40)).alloc (.cells #[.slice none 0 0] 61)).heap.size = w.heap.size + 3 := by simp
  have s4 : (start4 w).heap.size = w.heap.size + 4 := by unfold start4; simp
  have p1 : PU (w.alloc (.cells #[.slice none 0 0] 58)) (own1 w (fun _ => 0) 1) 1 w.heap.size [] := ⟨_, Pile.made w (fun _ => 0) 32 58 1 1⟩
  have p2 : PR ((w.alloc (.cells #[.slice none 0 0] 58)).alloc (.cells #[.slice none 0 0] 40)) (own1 (w.alloc (.cells #[.slice none 0 0] 58)) (own1 w (fun _ => 0) 1) 2) 2 (w.heap.size + 1) [] := ⟨_, by
    have := Pile.made (w.alloc (.cells #[.slice none 0 0] 58)) (own1 w (fun _ => 0) 1) 43 40 2 2
    rw [s1] at this; exact this⟩
  obtain ⟨G1, hG1⟩ : ∃ G1, G1 = own1 w (fun _ => 0) 1 := ⟨_, rfl⟩
  obtain ⟨G2, hG2⟩ : ∃ G2, G2 = own1 (w.alloc (.cells #[.slice none 0 0] 58)) G1 2 := ⟨_, rfl⟩
  obtain ⟨G3, hG3⟩ : ∃ G3, G3 = own1 ((w.alloc (.cells #[.slice none 0 0] 58)).alloc (.cells #[.slice none 0 0] 40)) G2 3 := ⟨_, rfl⟩
  obtain ⟨G4, hG4⟩ : ∃ G4, G4 = own1 (((w.alloc (.cells #[.slice none 0 0] 58)).alloc (.cells #[.slice none 0 0] 40)).alloc (.cells #[.slice none 0 0] 61)) G3 4 := ⟨_, rfl⟩
  obtain ⟨G5, hG5⟩ : ∃ G5, G5 = own1 (start4 w) G4 5 := ⟨_, rfl⟩
  have a1 : Adv (fun _ => False) w (fun _ => 0) (w.alloc (.cells #[.slice none 0 0] 58)) G1 := by rw [hG1]; exact (Adv.refl _ _ _).alloc _ _
  have a2 : Adv (fun _ => False) (w.alloc (.cells #[.slice none 0 0] 58)) G1 ((w.alloc (.cells #[.slice none 0 0] 58)).alloc (.cells #[.slice none 0 0] 40)) G2 := by rw [hG2]; exact (Adv.refl _ _ _).alloc _ _
  have a3 : Adv (fun _ => False) ((w.alloc (.cells #[.slice none 0 0] 58)).alloc (.cells #[.slice none 0 0] 40)) G2 (((w.alloc (.cells #[.slice none 0 0] 58)).alloc (.cells #[.slice none 0 0] 40)).alloc (.cells #[.slice none 0 0] 61)) G3 := by rw [hG3]; exact (Adv.refl _ _ _).alloc _ _
  have a4 : Adv (fun _ => False) (((w.alloc (.cells #[.slice none 0 0] 58)).alloc (.cells #[.slice none 0 0] 40)).alloc (.cells #[.slice none 0 0] 61)) G3 (start4 w) G4 := by rw [hG4]; exact (Adv.refl _ _ _).alloc _ _
  have a5 : Adv (fun _ => False) (start4 w) G4 ((start4 w).alloc (startP w.heap.size)) G5 := by rw [hG5]; exact (Adv.refl _ _ _).alloc _ _
  have p3 : EU (((w.alloc (.cells #[.slice none 0 0] 58)).alloc (.cells #[.slice none 0 0] 40)).alloc (.cells #[.slice none 0 0] 61)) G3 3 (w.heap.size + 2) [] := ⟨_, by
    have := Pile.made ((w.alloc (.cells #[.slice none 0 0] 58)).alloc (.cells #[.slice none 0 0] 40)) G2 32 61 1 3
    rw [s2, ← hG3] at this; exact this⟩
  have p4 : ER (start4 w) G4 4 (w.heap.size + 3) [] := ⟨_, by
    have := Pile.made (((w.alloc (.cells #[.slice none 0 0] 58)).alloc (.cells #[.slice none 0 0] 40)).alloc (.cells #[.slice none 0 0] 61)) G3 43 64 2 4
    rw [s3, ← hG4] at this; exact this⟩
  rw [← hG1] at p1 p2
  rw [← hG2] at p2
  have hfree : Free ((start4 w).alloc (startP w.heap.size)) G5 := by
    intro b _ h
    rw [hG5, hG4, hG3, hG2, hG1] at h
    unfold own1 at h
    repeat' split at h
    all_goals (try dsimp only at h); omega
  refine ⟨G5, (((a1.trans a2).trans a3).trans a4).trans a5, hfree, w.heap.size, w.heap.size + 1, w.heap.size + 2, w.heap.size + 3, .slice none 0 0, .slice none 0 0, [], [], ⟨?_, ?_⟩, ?_, ?_, ?_, ?_, ⟨[], Row.nil _ _ _ _ _, by simp⟩, ⟨[], Row.nil _ _ _ _ _, by simp⟩, by simp, by simp⟩
  · rw [← s4]; exact heap_alloc_new (start4 w) _
  · rw [hG5, ← s4]; exact own1_new _ _ _
  · exact (((p1.adv a2 id).adv a3 id).adv a4 id).adv a5 id
  · exact ((p2.adv a3 id).adv a4 id).adv a5 id
  · exact (p3.adv a4 id).adv a5 id
  · exact p4.adv a5 id
end Go.Proofs.Ytgpimonjdhbdmaa
