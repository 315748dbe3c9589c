/- What the rows' condition gives the walks: the four tables lie; and the door's own heap meets it. -/
import Derived.Test.YtdnalhjdmlkbmaaDoorRows
import Derived.Test.YtdnalhjdmlkbmaaDoorTab
import Derived.ProofKit
import Derived.LaidMore
import Derived.MakeChecks
import Derived.FnData
import Derived.OpenShut
namespace Go.Proofs.YtdnalhjdmlkbmaaDoor
open Go.ChangeShapes Go.WideShapes Go.ChangeAt Go.RowKit

def laid4 : List (String × DataW Unit) := [("wisp/prim.names", Rows.laid_wisp_prim_names), ("wisp/prim.takes", Rows.laid_wisp_prim_takes), ("wisp/prim.leaves", Rows.laid_wisp_prim_leaves), ("wisp/prim.costs", Rows.laid_wisp_prim_costs)]
theorem gName : Tryd.prog.globalNamed "wisp/prim.names" = some 0 := by kernel_rfl
theorem gTake : Tryd.prog.globalNamed "wisp/prim.takes" = some 1 := by kernel_rfl
theorem gLeave : Tryd.prog.globalNamed "wisp/prim.leaves" = some 2 := by kernel_rfl
theorem gCost : Tryd.prog.globalNamed "wisp/prim.costs" = some 3 := by kernel_rfl
theorem tName : (Tryd.prog.globals[(0 : Nat)]?).map (·.type) = some 154 := by kernel_rfl
theorem tTake : (Tryd.prog.globals[(1 : Nat)]?).map (·.type) = some 155 := by kernel_rfl
theorem tLeave : (Tryd.prog.globals[(2 : Nat)]?).map (·.type) = some 155 := by kernel_rfl
theorem tCost : (Tryd.prog.globals[(3 : Nat)]?).map (·.type) = some 155 := by kernel_rfl

theorem at_take {cs : List Value} {k : Nat} {v : Value} (h : (cs.drop k).take 1 = [v]) : cs[k]? = some v := by
  have h1 : ((cs.drop k).take 1)[0]? = some v := by rw [h]; rfl
  rw [List.getElem?_take_of_lt (by decide), List.getElem?_drop] at h1
  simpa using h1
theorem tab_u8 {H : Type} {enc : TypeId × Value → H} {w : World} {base : Nat} {sp : Nat → Bool} {held : Bool} {fuel : Nat} {cs : List Value} {L : List Int} {p : List MemPlace} (_ : L.length = 64)
    (h : DataW.trod enc Tryd.prog w base sp held fuel 155 cs = some (.agg (L.map fun x => .lit (.int .u8 x)), p)) (k : Nat) (hk : k < 64) : cs[k]? = some (.int .u8 (L.getD k 0)) := by
  obtain ⟨xs, m, rfl, hx, -, hn, hel⟩ := DataW.trod_array Tryd.underlying155 h
  have hc : Tryd.prog.cellsOf 5 = 1 := by kernel_rfl
  have hE := hel k hk
  rw [hc, Nat.mul_one] at hE
  obtain ⟨x, hxk⟩ : ∃ x, xs[k]? = some x := ⟨xs[k]'(by omega), by simp⟩
  rw [hxk] at hE
  obtain ⟨n, e1, e2, -⟩ := DataW.trod_int Tryd.underlying5 hE
  have hm : L.map (fun x => (DataW.lit (.int .u8 x) : DataW H)) = xs.map (·.1) := by
    have := congrArg Prod.fst hx
    simpa using this
  have h2 : (L.map (fun x => (DataW.lit (.int .u8 x) : DataW H)))[k]? = some (.lit (.int .u8 n)) := by rw [hm]; simp [hxk, e2]
  rw [List.getElem?_map] at h2
  have hLk : L[k]? = some n := by
    cases hq : L[k]? with
    | none => rw [hq] at h2; cases h2
    | some q => rw [hq] at h2; simp at h2; rw [h2]
  rw [at_take e1, List.getD_eq_getElem?_getD, hLk]
  rfl
theorem tab_string {H : Type} {enc : TypeId × Value → H} {w : World} {base : Nat} {sp : Nat → Bool} {held : Bool} {fuel : Nat} {cs : List Value} {L : List (List UInt8)} {p : List MemPlace} (_ : L.length = 64)
    (h : DataW.trod enc Tryd.prog w base sp held fuel 154 cs = some (.agg (L.map fun x => .lit (.string x)), p)) (k : Nat) (hk : k < 64) : cs[k]? = some (.string ⟨(L.getD k []).toArray⟩) := by
  obtain ⟨xs, m, rfl, hx, -, hn, hel⟩ := DataW.trod_array Tryd.underlying154 h
  have hc : Tryd.prog.cellsOf 9 = 1 := by kernel_rfl
  have hE := hel k hk
  rw [hc, Nat.mul_one] at hE
  obtain ⟨x, hxk⟩ : ∃ x, xs[k]? = some x := ⟨xs[k]'(by omega), by simp⟩
  rw [hxk] at hE
  obtain ⟨n, e1, e2, -⟩ := DataW.trod_string Tryd.underlying9 hE
  have hm : L.map (fun x => (DataW.lit (.string x) : DataW H)) = xs.map (·.1) := by
    have := congrArg Prod.fst hx
    simpa using this
  have h2 : (L.map (fun x => (DataW.lit (.string x) : DataW H)))[k]? = some (.lit (.string n.data.toList)) := by rw [hm]; simp [hxk, e2]
  rw [List.getElem?_map] at h2
  have hLk : L[k]? = some n.data.toList := by
    cases hq : L[k]? with
    | none => rw [hq] at h2; cases h2
    | some q => rw [hq] at h2; simp at h2; rw [h2]
  rw [at_take e1, List.getD_eq_getElem?_getD, hLk]
  simp
theorem namesD : (Rows.laid_wisp_prim_names : DataW Unit) = .agg (namesL.map fun x => .lit (.string x)) := by kernel_rfl
theorem takesD : (Rows.laid_wisp_prim_takes : DataW Unit) = .agg (takesL.map fun x => .lit (.int .u8 x)) := by kernel_rfl
theorem leavesD : (Rows.laid_wisp_prim_leaves : DataW Unit) = .agg (leavesL.map fun x => .lit (.int .u8 x)) := by kernel_rfl
theorem costsD : (Rows.laid_wisp_prim_costs : DataW Unit) = .agg (costsL.map fun x => .lit (.int .u8 x)) := by kernel_rfl

theorem of_laid {W : World} (h : laidMetH Tryd.prog laid4 W) : Tabs W (fun _ => 0) := by
  rw [MakeChecks.laidMetH_plain _ _ _ (by kernel_rfl)] at h
  obtain ⟨ps, ⟨g0, t0, cs0, f0, p0, q0, hg0, ht0, hv0, hd0, ⟨g1, t1, cs1, f1, p1, q1, hg1, ht1, hv1, hd1, ⟨g2, t2, cs2, f2, p2, q2, hg2, ht2, hv2, hd2, ⟨g3, t3, cs3, f3, p3, q3, hg3, ht3, hv3, hd3, _, _⟩, _⟩, _⟩, _⟩, _, _⟩ := h
  obtain rfl := Option.some.inj (gName.symm.trans hg0)
  obtain rfl := Option.some.inj (gTake.symm.trans hg1)
  obtain rfl := Option.some.inj (gLeave.symm.trans hg2)
  obtain rfl := Option.some.inj (gCost.symm.trans hg3)
  obtain rfl := Option.some.inj (tName.symm.trans ht0)
  obtain rfl := Option.some.inj (tTake.symm.trans ht1)
  obtain rfl := Option.some.inj (tLeave.symm.trans ht2)
  obtain rfl := Option.some.inj (tCost.symm.trans ht3)
  rw [namesD] at hd0
  rw [takesD] at hd1
  rw [leavesD] at hd2
  rw [costsD] at hd3
  refine ⟨fun k hk => ?_, fun k hk => ?_, fun k hk => ?_, fun k hk => ?_, rfl, rfl, rfl, rfl⟩
  · rw [World.var?_cell hg0 hv0 k, ← Array.getElem?_toList]; exact tab_string (by decide) hd0 k hk
  · rw [World.var?_cell hg1 hv1 k, ← Array.getElem?_toList]; exact tab_u8 (by decide) hd1 k hk
  · rw [World.var?_cell hg2 hv2 k, ← Array.getElem?_toList]; exact tab_u8 (by decide) hd2 k hk
  · rw [World.var?_cell hg3 hv3 k, ← Array.getElem?_toList]; exact tab_u8 (by decide) hd3 k hk
/-- The door's own heap meets the condition. -/
theorem door_met (os : Os) (args : Array Value) : laidMetH Tryd.prog laid4 ((World.doorLaid Tryd.prog 400 os).forCall (fun _ _ => 0) ⟨#[], args, []⟩).memory :=
  laidMetH_of_parts3 (fuel := 8) (laidMet_of_run' 8 (by kernel_rfl) (by kernel_rfl)) (by kernel_rfl) (by kernel_rfl)
end Go.Proofs.YtdnalhjdmlkbmaaDoor
