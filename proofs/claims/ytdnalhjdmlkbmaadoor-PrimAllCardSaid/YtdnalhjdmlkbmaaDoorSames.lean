/- wisplaw06.same, named. -/
import Derived.Test.YtdnalhjdmlkbmaaDoorRefNamed
import Derived.Laws.StructEq
namespace Go.Proofs.YtdnalhjdmlkbmaaDoor
open Go.RowKit

theorem Tryd.stood25 : Tryd.prog.stoodInHeld 25 = false := by kernel_rfl
/-- The comparison of two rows, each written out. -/
def sameB (a b c d : Int) (s : ByteArray) (o : Bool) (a' b' c' d' : Int) (s' : ByteArray) (o' : Bool) : Bool := a == a' && (s.toList == s'.toList && (b == b' && (c == c' && (d == d' && (o == o')))))
theorem eqlPrim (a b c d : Int) (s : ByteArray) (o : Bool) (a' b' c' d' : Int) (s' : ByteArray) (o' : Bool) (w : World) :
    (Op.equalIn 10000 25 (.agg #[.int .i64 a, .string s, .int .i64 b, .int .i64 c, .int .i64 d, .bool o]) (.agg #[.int .i64 a', .string s', .int .i64 b', .int .i64 c', .int .i64 d', .bool o'])).run Tryd.prog w = .ok (sameB a b c d s o a' b' c' d' s' o') w := by
  have ht : Tryd.prog.underlying 25 = some (.struct (Tryd.prog.fieldsOf 25)) := by simp only [Program.fieldsOf, Tryd.underlying25]
  rw [show (10000 : Nat) = 9998 + 1 + 1 from rfl, run_equalIn_struct w (9998 + 1) 25 _ _ ht Tryd.stood25]
  simp only [Program.fieldsOf, Tryd.underlying25]
  unfold sameB
  cases e1 : a == a' with
  | false => simp [Op.eqFields, go_sem, e1]
  | true =>
    cases e2 : (s.toList == s'.toList) with
    | false => simp [Op.eqFields, go_sem, e1, e2]
    | true =>
      cases e3 : b == b' with
      | false => simp [Op.eqFields, go_sem, e1, e2, e3]
      | true =>
        cases e4 : c == c' with
        | false => simp [Op.eqFields, go_sem, e1, e2, e3, e4]
        | true =>
          cases e5 : d == d' with
          | false => simp [Op.eqFields, go_sem, e1, e2, e3, e4, e5]
          | true => simp [Op.eqFields, go_sem, e1, e2, e3, e4, e5]; cases o <;> cases o' <;> rfl
theorem sameB_refl (a b c d : Int) (s : ByteArray) (o : Bool) : sameB a b c d s o a b c d s o = true := by simp [sameB]
/-- same of a row and itself. -/
theorem same_any (G : Nat → Nat) (a b c d : Int) (s : ByteArray) (o : Bool) (w : World) :
    Calls Tryd.prog 13 #[.agg #[.int .i64 a, .string s, .int .i64 b, .int .i64 c, .int .i64 d, .bool o], .agg #[.int .i64 a, .string s, .int .i64 b, .int .i64 c, .int .i64 d, .bool o]] w fun r w' => r = .returned (.bool true) ∧ ∃ G', Adv (fun _ => False) w G w' G' := by
  have hE := eqlPrim
  have hT := sameB_refl
  go_enter Tryd.func13, Tryd.ntmps13
  go_wp2
  go_ret
  exact ⟨rfl, _, ((Adv.refl _ w G).alloc _ 0).alloc _ 0⟩
end Go.Proofs.YtdnalhjdmlkbmaaDoor
