/-
  NARROWER THAN 'FOR EVERY INPUT', by the rows' own cells (each row's printed sentence says how): PrimTable: laid · PrimAll: laid · PrimNames: laid · PrimBack: laid · VmExact: laid · VmNone: laid · VmAsOne: laid.
  DERIVED. THE GIVEN ROWS OF THIS SEAT. 7 by the template 'for every input the law returns true; each argument reads behind the call as it read before'; 0 by the template 'total and deterministic' (their statements: YtdnalhjdmlkbmaaDoorTotals.lean).
  GIVEN WITH THE SEED: the statements are not yours to turn. If you find one false, say at which input.
  Laid BY PROGRAM, IN A SANDBOX (cutbox-rows.mjs): the forced cells as the released guide's own fill.sh prints them over the translation 316f4532d91a67ab… (all of the seat's roots in one cut). By AI agents, Wed Nov 11 2026. No macro, syntax, notation, axiom, sorry.
-/
import Derived.Test.YtdnalhjdmlkbmaaDoorChecked
import GoSem.Claim
import GoSem.ClaimJoined
import GoSem.ClaimMapViews
import Derived.JoinedTies
import Derived.KernelRfl
namespace Go.Proofs.YtdnalhjdmlkbmaaDoor
/- THE CELL 'sum', in the pinned program and in every row, IS THE sha256 OF THE DUMP (.gsa) THAT YtdnalhjdmlkbmaaDoorProg.lean LOADS. Nothing in Lean hashes anything: it is a label: what it is worth is what the hold of that sum in a sandbox is worth. -/
noncomputable def Tryd.pinned : Pinned := { name := "ytdnalhjdmlkbmaadoor", sum := "316f4532d91a67ab22dcdf2c3ca714ac77dbf6f28064075a9f72389682c0aa68", checked := Tryd.checked }
namespace Rows
def none {H : Type} : Left H := { results := [], args := [] }

/- WHAT THE LISTED PACKAGE-LEVEL VARIABLES READ AS WHEN THE CALL BEGINS. Each datum BY PROGRAM (the guide's laid-datum.mjs) off the statement by which the dump's own 'gosem.cut.vars' lays the variable. In a bare row this is a premise. The card (YtdnalhjdmlkbmaaDoorCards.lean) ties it to the program's text. -/
def laid_wisp_prim_names {H : Type} : DataW H := .agg [.lit (.string []), .lit (.string []), .lit (.string []), .lit (.string []), .lit (.string []), .lit (.string []), .lit (.string []), .lit (.string []), .lit (.string []), .lit (.string [110, 111, 112]), .lit (.string [121, 105, 101, 108, 100]), .lit (.string [104, 97, 108, 116]), .lit (.string [100, 117, 112]), .lit (.string [100, 114, 111, 112]), .lit (.string [115, 119, 97, 112]), .lit (.string [111, 118, 101, 114]), .lit (.string [114, 111, 116]), .lit (.string [110, 105, 112]), .lit (.string [116, 117, 99, 107]), .lit (.string [50, 100, 117, 112]), .lit (.string [50, 100, 114, 111, 112]), .lit (.string [43]), .lit (.string [45]), .lit (.string [42]), .lit (.string [47]), .lit (.string [109, 111, 100]), .lit (.string [117, 47]), .lit (.string [117, 109, 111, 100]), .lit (.string [110, 101, 103, 97, 116, 101]), .lit (.string [97, 98, 115]), .lit (.string [109, 105, 110]), .lit (.string [109, 97, 120]), .lit (.string [49, 43]), .lit (.string [49, 45]), .lit (.string [50, 42]), .lit (.string [50, 47]), .lit (.string [97, 110, 100]), .lit (.string [111, 114]), .lit (.string [120, 111, 114]), .lit (.string [105, 110, 118, 101, 114, 116]), .lit (.string [108, 115, 104, 105, 102, 116]), .lit (.string [114, 115, 104, 105, 102, 116]), .lit (.string [61]), .lit (.string [60, 62]), .lit (.string [60]), .lit (.string [62]), .lit (.string [117, 60]), .lit (.string [117, 62]), .lit (.string [48, 61]), .lit (.string [48, 60]), .lit (.string [64]), .lit (.string [33]), .lit (.string [99, 64]), .lit (.string [99, 33]), .lit (.string [43, 33]), .lit (.string [62, 114]), .lit (.string [114, 62]), .lit (.string [114, 64]), .lit (.string [105]), .lit (.string [106]), .lit (.string [112, 108, 111, 116]), .lit (.string [112, 97, 100]), .lit (.string [116, 111, 110, 101]), .lit (.string [98, 97, 110, 107])]
def laid_wisp_prim_takes {H : Type} : DataW H := .agg [.lit (.int .u8 0), .lit (.int .u8 0), .lit (.int .u8 0), .lit (.int .u8 0), .lit (.int .u8 0), .lit (.int .u8 1), .lit (.int .u8 2), .lit (.int .u8 0), .lit (.int .u8 0), .lit (.int .u8 0), .lit (.int .u8 0), .lit (.int .u8 0), .lit (.int .u8 1), .lit (.int .u8 1), .lit (.int .u8 2), .lit (.int .u8 2), .lit (.int .u8 3), .lit (.int .u8 2), .lit (.int .u8 2), .lit (.int .u8 2), .lit (.int .u8 2), .lit (.int .u8 2), .lit (.int .u8 2), .lit (.int .u8 2), .lit (.int .u8 2), .lit (.int .u8 2), .lit (.int .u8 2), .lit (.int .u8 2), .lit (.int .u8 1), .lit (.int .u8 1), .lit (.int .u8 2), .lit (.int .u8 2), .lit (.int .u8 1), .lit (.int .u8 1), .lit (.int .u8 1), .lit (.int .u8 1), .lit (.int .u8 2), .lit (.int .u8 2), .lit (.int .u8 2), .lit (.int .u8 1), .lit (.int .u8 2), .lit (.int .u8 2), .lit (.int .u8 2), .lit (.int .u8 2), .lit (.int .u8 2), .lit (.int .u8 2), .lit (.int .u8 2), .lit (.int .u8 2), .lit (.int .u8 1), .lit (.int .u8 1), .lit (.int .u8 1), .lit (.int .u8 2), .lit (.int .u8 1), .lit (.int .u8 2), .lit (.int .u8 2), .lit (.int .u8 1), .lit (.int .u8 0), .lit (.int .u8 0), .lit (.int .u8 0), .lit (.int .u8 0), .lit (.int .u8 3), .lit (.int .u8 0), .lit (.int .u8 2), .lit (.int .u8 1)]
def laid_wisp_prim_leaves {H : Type} : DataW H := .agg [.lit (.int .u8 0), .lit (.int .u8 0), .lit (.int .u8 1), .lit (.int .u8 1), .lit (.int .u8 0), .lit (.int .u8 0), .lit (.int .u8 0), .lit (.int .u8 0), .lit (.int .u8 0), .lit (.int .u8 0), .lit (.int .u8 0), .lit (.int .u8 0), .lit (.int .u8 2), .lit (.int .u8 0), .lit (.int .u8 2), .lit (.int .u8 3), .lit (.int .u8 3), .lit (.int .u8 1), .lit (.int .u8 3), .lit (.int .u8 4), .lit (.int .u8 0), .lit (.int .u8 1), .lit (.int .u8 1), .lit (.int .u8 1), .lit (.int .u8 1), .lit (.int .u8 1), .lit (.int .u8 1), .lit (.int .u8 1), .lit (.int .u8 1), .lit (.int .u8 1), .lit (.int .u8 1), .lit (.int .u8 1), .lit (.int .u8 1), .lit (.int .u8 1), .lit (.int .u8 1), .lit (.int .u8 1), .lit (.int .u8 1), .lit (.int .u8 1), .lit (.int .u8 1), .lit (.int .u8 1), .lit (.int .u8 1), .lit (.int .u8 1), .lit (.int .u8 1), .lit (.int .u8 1), .lit (.int .u8 1), .lit (.int .u8 1), .lit (.int .u8 1), .lit (.int .u8 1), .lit (.int .u8 1), .lit (.int .u8 1), .lit (.int .u8 1), .lit (.int .u8 0), .lit (.int .u8 1), .lit (.int .u8 0), .lit (.int .u8 0), .lit (.int .u8 0), .lit (.int .u8 1), .lit (.int .u8 1), .lit (.int .u8 1), .lit (.int .u8 1), .lit (.int .u8 0), .lit (.int .u8 1), .lit (.int .u8 0), .lit (.int .u8 0)]
def laid_wisp_prim_costs {H : Type} : DataW H := .agg [.lit (.int .u8 0), .lit (.int .u8 2), .lit (.int .u8 2), .lit (.int .u8 2), .lit (.int .u8 2), .lit (.int .u8 2), .lit (.int .u8 3), .lit (.int .u8 3), .lit (.int .u8 2), .lit (.int .u8 1), .lit (.int .u8 1), .lit (.int .u8 1), .lit (.int .u8 1), .lit (.int .u8 1), .lit (.int .u8 1), .lit (.int .u8 1), .lit (.int .u8 1), .lit (.int .u8 1), .lit (.int .u8 1), .lit (.int .u8 2), .lit (.int .u8 1), .lit (.int .u8 1), .lit (.int .u8 1), .lit (.int .u8 3), .lit (.int .u8 4), .lit (.int .u8 4), .lit (.int .u8 4), .lit (.int .u8 4), .lit (.int .u8 1), .lit (.int .u8 1), .lit (.int .u8 1), .lit (.int .u8 1), .lit (.int .u8 1), .lit (.int .u8 1), .lit (.int .u8 1), .lit (.int .u8 1), .lit (.int .u8 1), .lit (.int .u8 1), .lit (.int .u8 1), .lit (.int .u8 1), .lit (.int .u8 1), .lit (.int .u8 1), .lit (.int .u8 1), .lit (.int .u8 1), .lit (.int .u8 1), .lit (.int .u8 1), .lit (.int .u8 1), .lit (.int .u8 1), .lit (.int .u8 1), .lit (.int .u8 1), .lit (.int .u8 2), .lit (.int .u8 2), .lit (.int .u8 2), .lit (.int .u8 2), .lit (.int .u8 3), .lit (.int .u8 1), .lit (.int .u8 1), .lit (.int .u8 1), .lit (.int .u8 1), .lit (.int .u8 1), .lit (.int .u8 3), .lit (.int .u8 1), .lit (.int .u8 2), .lit (.int .u8 1)]

/-- 'wisplaw06.PrimTable': WHATEVER THE INPUT: true; the input reads as it did. -/
def primTableSpec : ChangeSpec := { name := "primTable", fn := fun _ => fun
  | [d1, d2] => { results := [.lit (.bool true)], args := [d1, d2] }
  | _ => none }
def primTableRow : OpenClaim := { program := "ytdnalhjdmlkbmaadoor", sum := "316f4532d91a67ab22dcdf2c3ca714ac77dbf6f28064075a9f72389682c0aa68", func := "wisp/wisplaw06.PrimTable", spec := "primTable", unfollowed := true, recurses := true, named := ["wisp/prim.names", "wisp/prim.takes", "wisp/prim.leaves", "wisp/prim.costs"], apart := false, laid := [("wisp/prim.names", laid_wisp_prim_names), ("wisp/prim.takes", laid_wisp_prim_takes), ("wisp/prim.leaves", laid_wisp_prim_leaves), ("wisp/prim.costs", laid_wisp_prim_costs)] }
def PrimTableSaid : Prop := primTableRow.holds Tryd.pinned (OpenSpec.ofChange primTableSpec)

/-- ITS FALSE NEIGHBOUR: 'it returns false'. Refute it at one input. -/
def primTableWrong : ChangeSpec := { name := "primTable", fn := fun _ => fun
  | [d1, d2] => { results := [.lit (.bool false)], args := [d1, d2] }
  | _ => none }
def PrimTableWrongFalsely : Prop := primTableRow.holds Tryd.pinned (OpenSpec.ofChange primTableWrong)

/-- 'wisplaw06.PrimAll': WHATEVER THE INPUT: true; the input reads as it did. -/
def primAllSpec : ChangeSpec := { name := "primAll", fn := fun _ => fun
  | [d] => { results := [.lit (.bool true)], args := [d] }
  | _ => none }
def primAllRow : OpenClaim := { program := "ytdnalhjdmlkbmaadoor", sum := "316f4532d91a67ab22dcdf2c3ca714ac77dbf6f28064075a9f72389682c0aa68", func := "wisp/wisplaw06.PrimAll", spec := "primAll", unfollowed := true, recurses := true, named := ["wisp/prim.names", "wisp/prim.takes", "wisp/prim.leaves", "wisp/prim.costs"], apart := false, laid := [("wisp/prim.names", laid_wisp_prim_names), ("wisp/prim.takes", laid_wisp_prim_takes), ("wisp/prim.leaves", laid_wisp_prim_leaves), ("wisp/prim.costs", laid_wisp_prim_costs)] }
def PrimAllSaid : Prop := primAllRow.holds Tryd.pinned (OpenSpec.ofChange primAllSpec)

/-- ITS FALSE NEIGHBOUR: 'it returns false'. Refute it at one input. -/
def primAllWrong : ChangeSpec := { name := "primAll", fn := fun _ => fun
  | [d] => { results := [.lit (.bool false)], args := [d] }
  | _ => none }
def PrimAllWrongFalsely : Prop := primAllRow.holds Tryd.pinned (OpenSpec.ofChange primAllWrong)

/-- 'wisplaw06.PrimNames': WHATEVER THE INPUT: true; the input reads as it did. -/
def primNamesSpec : ChangeSpec := { name := "primNames", fn := fun _ => fun
  | [] => { results := [.lit (.bool true)], args := [] }
  | _ => none }
def primNamesRow : OpenClaim := { program := "ytdnalhjdmlkbmaadoor", sum := "316f4532d91a67ab22dcdf2c3ca714ac77dbf6f28064075a9f72389682c0aa68", func := "wisp/wisplaw06.PrimNames", spec := "primNames", unfollowed := true, recurses := true, named := ["wisp/prim.names", "wisp/prim.takes", "wisp/prim.leaves", "wisp/prim.costs"], apart := false, laid := [("wisp/prim.names", laid_wisp_prim_names), ("wisp/prim.takes", laid_wisp_prim_takes), ("wisp/prim.leaves", laid_wisp_prim_leaves), ("wisp/prim.costs", laid_wisp_prim_costs)] }
def PrimNamesSaid : Prop := primNamesRow.holds Tryd.pinned (OpenSpec.ofChange primNamesSpec)

/-- ITS FALSE NEIGHBOUR: 'it returns false'. Refute it at one input. -/
def primNamesWrong : ChangeSpec := { name := "primNames", fn := fun _ => fun
  | [] => { results := [.lit (.bool false)], args := [] }
  | _ => none }
def PrimNamesWrongFalsely : Prop := primNamesRow.holds Tryd.pinned (OpenSpec.ofChange primNamesWrong)

/-- 'wisplaw06.PrimBack': WHATEVER THE INPUT: true; the input reads as it did. -/
def primBackSpec : ChangeSpec := { name := "primBack", fn := fun _ => fun
  | [d1, d2, d3, d4] => { results := [.lit (.bool true)], args := [d1, d2, d3, d4] }
  | _ => none }
def primBackRow : OpenClaim := { program := "ytdnalhjdmlkbmaadoor", sum := "316f4532d91a67ab22dcdf2c3ca714ac77dbf6f28064075a9f72389682c0aa68", func := "wisp/wisplaw06.PrimBack", spec := "primBack", unfollowed := true, recurses := true, named := ["wisp/prim.names", "wisp/prim.takes", "wisp/prim.leaves", "wisp/prim.costs"], apart := false, laid := [("wisp/prim.names", laid_wisp_prim_names), ("wisp/prim.takes", laid_wisp_prim_takes), ("wisp/prim.leaves", laid_wisp_prim_leaves), ("wisp/prim.costs", laid_wisp_prim_costs)] }
def PrimBackSaid : Prop := primBackRow.holds Tryd.pinned (OpenSpec.ofChange primBackSpec)

/-- ITS FALSE NEIGHBOUR: 'it returns false'. Refute it at one input. -/
def primBackWrong : ChangeSpec := { name := "primBack", fn := fun _ => fun
  | [d1, d2, d3, d4] => { results := [.lit (.bool false)], args := [d1, d2, d3, d4] }
  | _ => none }
def PrimBackWrongFalsely : Prop := primBackRow.holds Tryd.pinned (OpenSpec.ofChange primBackWrong)

/-- 'wisplaw08.VmExact': WHATEVER THE INPUT: true; the input reads as it did. -/
def vmExactSpec : ChangeSpec := { name := "vmExact", fn := fun _ => fun
  | [d1, d2, d3] => { results := [.lit (.bool true)], args := [d1, d2, d3] }
  | _ => none }
def vmExactRow : OpenClaim := { program := "ytdnalhjdmlkbmaadoor", sum := "316f4532d91a67ab22dcdf2c3ca714ac77dbf6f28064075a9f72389682c0aa68", func := "wisp/wisplaw08.VmExact", spec := "vmExact", unfollowed := true, recurses := true, named := ["wisp/prim.names", "wisp/prim.takes", "wisp/prim.leaves", "wisp/prim.costs"], apart := false, laid := [("wisp/prim.names", laid_wisp_prim_names), ("wisp/prim.takes", laid_wisp_prim_takes), ("wisp/prim.leaves", laid_wisp_prim_leaves), ("wisp/prim.costs", laid_wisp_prim_costs)] }
def VmExactSaid : Prop := vmExactRow.holds Tryd.pinned (OpenSpec.ofChange vmExactSpec)

/-- ITS FALSE NEIGHBOUR: 'it returns false'. Refute it at one input. -/
def vmExactWrong : ChangeSpec := { name := "vmExact", fn := fun _ => fun
  | [d1, d2, d3] => { results := [.lit (.bool false)], args := [d1, d2, d3] }
  | _ => none }
def VmExactWrongFalsely : Prop := vmExactRow.holds Tryd.pinned (OpenSpec.ofChange vmExactWrong)

/-- 'wisplaw08.VmNone': WHATEVER THE INPUT: true; the input reads as it did. -/
def vmNoneSpec : ChangeSpec := { name := "vmNone", fn := fun _ => fun
  | [d1, d2] => { results := [.lit (.bool true)], args := [d1, d2] }
  | _ => none }
def vmNoneRow : OpenClaim := { program := "ytdnalhjdmlkbmaadoor", sum := "316f4532d91a67ab22dcdf2c3ca714ac77dbf6f28064075a9f72389682c0aa68", func := "wisp/wisplaw08.VmNone", spec := "vmNone", unfollowed := true, recurses := true, named := ["wisp/prim.names", "wisp/prim.takes", "wisp/prim.leaves", "wisp/prim.costs"], apart := false, laid := [("wisp/prim.names", laid_wisp_prim_names), ("wisp/prim.takes", laid_wisp_prim_takes), ("wisp/prim.leaves", laid_wisp_prim_leaves), ("wisp/prim.costs", laid_wisp_prim_costs)] }
def VmNoneSaid : Prop := vmNoneRow.holds Tryd.pinned (OpenSpec.ofChange vmNoneSpec)

/-- ITS FALSE NEIGHBOUR: 'it returns false'. Refute it at one input. -/
def vmNoneWrong : ChangeSpec := { name := "vmNone", fn := fun _ => fun
  | [d1, d2] => { results := [.lit (.bool false)], args := [d1, d2] }
  | _ => none }
def VmNoneWrongFalsely : Prop := vmNoneRow.holds Tryd.pinned (OpenSpec.ofChange vmNoneWrong)

/-- 'wisplaw08.VmAsOne': WHATEVER THE INPUT: true; the input reads as it did. -/
def vmAsOneSpec : ChangeSpec := { name := "vmAsOne", fn := fun _ => fun
  | [d1, d2, d3] => { results := [.lit (.bool true)], args := [d1, d2, d3] }
  | _ => none }
def vmAsOneRow : OpenClaim := { program := "ytdnalhjdmlkbmaadoor", sum := "316f4532d91a67ab22dcdf2c3ca714ac77dbf6f28064075a9f72389682c0aa68", func := "wisp/wisplaw08.VmAsOne", spec := "vmAsOne", unfollowed := true, recurses := true, named := ["wisp/prim.names", "wisp/prim.takes", "wisp/prim.leaves", "wisp/prim.costs"], apart := false, laid := [("wisp/prim.names", laid_wisp_prim_names), ("wisp/prim.takes", laid_wisp_prim_takes), ("wisp/prim.leaves", laid_wisp_prim_leaves), ("wisp/prim.costs", laid_wisp_prim_costs)] }
def VmAsOneSaid : Prop := vmAsOneRow.holds Tryd.pinned (OpenSpec.ofChange vmAsOneSpec)

/-- ITS FALSE NEIGHBOUR: 'it returns false'. Refute it at one input. -/
def vmAsOneWrong : ChangeSpec := { name := "vmAsOne", fn := fun _ => fun
  | [d1, d2, d3] => { results := [.lit (.bool false)], args := [d1, d2, d3] }
  | _ => none }
def VmAsOneWrongFalsely : Prop := vmAsOneRow.holds Tryd.pinned (OpenSpec.ofChange vmAsOneWrong)

/- THE SECOND FORM. 'bulk': how many values and letters a reading holds, each counted each time it is reached (what is shared counts as often as it is met; a slice's spare places count too). A statement '..UptoSaid' is the law's where the arguments, and the package variables that the reading takes, are together of bulk at most 1048576: NARROWER than '..Said'. Prove '..Said' where nothing that the law and all that it calls make is longer than what came in: it says more and counts as full. Else prove '..UptoSaid'. A law counts once. -/
mutual
def uptoBulk {H : Type} : DataW H → Nat
  | .lit (.string bytes) => bytes.length + 1
  | .lit _ => 1
  | .nil => 1
  | .ptr d => uptoBulk d + 1
  | .slice elems spare => uptoBulkAll elems + uptoBulkAll spare + 1
  | .agg parts => uptoBulkAll parts + 1
  | .iface _ d => uptoBulk d + 1
  | .map entries => uptoBulkEntries entries + 1
  | .held _ => 1
def uptoBulkAll {H : Type} : List (DataW H) → Nat
  | [] => 0
  | d :: r => uptoBulk d + uptoBulkAll r
def uptoBulkEntries {H : Type} : List (Lit × DataW H) → Nat
  | [] => 0
  | x :: r => uptoBulkEntry x + uptoBulkEntries r
def uptoBulkEntry {H : Type} : Lit × DataW H → Nat
  | (.string bytes, d) => bytes.length + uptoBulk d + 1
  | (_, d) => uptoBulk d + 1
 end
def uptoSmall : (H : Type) → List (DataW H) → Bool := fun _ ds => decide (uptoBulkAll ds ≤ 1048576)
def OpenSpec.upto (s : _root_.Go.ChangeSpec) : _root_.Go.OpenSpec := { _root_.Go.OpenSpec.ofChange s with cond := some uptoSmall }

/-- 'wisplaw06.PrimTable', WHERE WHAT IT READS IS OF BULK AT MOST 1048576: true; the input reads as it did. -/
def primTableUptoRow : OpenClaim := { program := "ytdnalhjdmlkbmaadoor", sum := "316f4532d91a67ab22dcdf2c3ca714ac77dbf6f28064075a9f72389682c0aa68", func := "wisp/wisplaw06.PrimTable", spec := "primTable", unfollowed := true, recurses := true, named := ["wisp/prim.names", "wisp/prim.takes", "wisp/prim.leaves", "wisp/prim.costs"], apart := false, laid := [("wisp/prim.names", laid_wisp_prim_names), ("wisp/prim.takes", laid_wisp_prim_takes), ("wisp/prim.leaves", laid_wisp_prim_leaves), ("wisp/prim.costs", laid_wisp_prim_costs)], narrowed := true }
def PrimTableUptoSaid : Prop := primTableUptoRow.holds Tryd.pinned (OpenSpec.upto primTableSpec)

/-- 'wisplaw06.PrimAll', WHERE WHAT IT READS IS OF BULK AT MOST 1048576: true; the input reads as it did. -/
def primAllUptoRow : OpenClaim := { program := "ytdnalhjdmlkbmaadoor", sum := "316f4532d91a67ab22dcdf2c3ca714ac77dbf6f28064075a9f72389682c0aa68", func := "wisp/wisplaw06.PrimAll", spec := "primAll", unfollowed := true, recurses := true, named := ["wisp/prim.names", "wisp/prim.takes", "wisp/prim.leaves", "wisp/prim.costs"], apart := false, laid := [("wisp/prim.names", laid_wisp_prim_names), ("wisp/prim.takes", laid_wisp_prim_takes), ("wisp/prim.leaves", laid_wisp_prim_leaves), ("wisp/prim.costs", laid_wisp_prim_costs)], narrowed := true }
def PrimAllUptoSaid : Prop := primAllUptoRow.holds Tryd.pinned (OpenSpec.upto primAllSpec)

/-- 'wisplaw06.PrimNames', WHERE WHAT IT READS IS OF BULK AT MOST 1048576: true; the input reads as it did. -/
def primNamesUptoRow : OpenClaim := { program := "ytdnalhjdmlkbmaadoor", sum := "316f4532d91a67ab22dcdf2c3ca714ac77dbf6f28064075a9f72389682c0aa68", func := "wisp/wisplaw06.PrimNames", spec := "primNames", unfollowed := true, recurses := true, named := ["wisp/prim.names", "wisp/prim.takes", "wisp/prim.leaves", "wisp/prim.costs"], apart := false, laid := [("wisp/prim.names", laid_wisp_prim_names), ("wisp/prim.takes", laid_wisp_prim_takes), ("wisp/prim.leaves", laid_wisp_prim_leaves), ("wisp/prim.costs", laid_wisp_prim_costs)], narrowed := true }
def PrimNamesUptoSaid : Prop := primNamesUptoRow.holds Tryd.pinned (OpenSpec.upto primNamesSpec)

/-- 'wisplaw06.PrimBack', WHERE WHAT IT READS IS OF BULK AT MOST 1048576: true; the input reads as it did. -/
def primBackUptoRow : OpenClaim := { program := "ytdnalhjdmlkbmaadoor", sum := "316f4532d91a67ab22dcdf2c3ca714ac77dbf6f28064075a9f72389682c0aa68", func := "wisp/wisplaw06.PrimBack", spec := "primBack", unfollowed := true, recurses := true, named := ["wisp/prim.names", "wisp/prim.takes", "wisp/prim.leaves", "wisp/prim.costs"], apart := false, laid := [("wisp/prim.names", laid_wisp_prim_names), ("wisp/prim.takes", laid_wisp_prim_takes), ("wisp/prim.leaves", laid_wisp_prim_leaves), ("wisp/prim.costs", laid_wisp_prim_costs)], narrowed := true }
def PrimBackUptoSaid : Prop := primBackUptoRow.holds Tryd.pinned (OpenSpec.upto primBackSpec)

/-- 'wisplaw08.VmExact', WHERE WHAT IT READS IS OF BULK AT MOST 1048576: true; the input reads as it did. -/
def vmExactUptoRow : OpenClaim := { program := "ytdnalhjdmlkbmaadoor", sum := "316f4532d91a67ab22dcdf2c3ca714ac77dbf6f28064075a9f72389682c0aa68", func := "wisp/wisplaw08.VmExact", spec := "vmExact", unfollowed := true, recurses := true, named := ["wisp/prim.names", "wisp/prim.takes", "wisp/prim.leaves", "wisp/prim.costs"], apart := false, laid := [("wisp/prim.names", laid_wisp_prim_names), ("wisp/prim.takes", laid_wisp_prim_takes), ("wisp/prim.leaves", laid_wisp_prim_leaves), ("wisp/prim.costs", laid_wisp_prim_costs)], narrowed := true }
def VmExactUptoSaid : Prop := vmExactUptoRow.holds Tryd.pinned (OpenSpec.upto vmExactSpec)

/-- 'wisplaw08.VmNone', WHERE WHAT IT READS IS OF BULK AT MOST 1048576: true; the input reads as it did. -/
def vmNoneUptoRow : OpenClaim := { program := "ytdnalhjdmlkbmaadoor", sum := "316f4532d91a67ab22dcdf2c3ca714ac77dbf6f28064075a9f72389682c0aa68", func := "wisp/wisplaw08.VmNone", spec := "vmNone", unfollowed := true, recurses := true, named := ["wisp/prim.names", "wisp/prim.takes", "wisp/prim.leaves", "wisp/prim.costs"], apart := false, laid := [("wisp/prim.names", laid_wisp_prim_names), ("wisp/prim.takes", laid_wisp_prim_takes), ("wisp/prim.leaves", laid_wisp_prim_leaves), ("wisp/prim.costs", laid_wisp_prim_costs)], narrowed := true }
def VmNoneUptoSaid : Prop := vmNoneUptoRow.holds Tryd.pinned (OpenSpec.upto vmNoneSpec)

/-- 'wisplaw08.VmAsOne', WHERE WHAT IT READS IS OF BULK AT MOST 1048576: true; the input reads as it did. -/
def vmAsOneUptoRow : OpenClaim := { program := "ytdnalhjdmlkbmaadoor", sum := "316f4532d91a67ab22dcdf2c3ca714ac77dbf6f28064075a9f72389682c0aa68", func := "wisp/wisplaw08.VmAsOne", spec := "vmAsOne", unfollowed := true, recurses := true, named := ["wisp/prim.names", "wisp/prim.takes", "wisp/prim.leaves", "wisp/prim.costs"], apart := false, laid := [("wisp/prim.names", laid_wisp_prim_names), ("wisp/prim.takes", laid_wisp_prim_takes), ("wisp/prim.leaves", laid_wisp_prim_leaves), ("wisp/prim.costs", laid_wisp_prim_costs)], narrowed := true }
def VmAsOneUptoSaid : Prop := vmAsOneUptoRow.holds Tryd.pinned (OpenSpec.upto vmAsOneSpec)

end Rows
end Go.Proofs.YtdnalhjdmlkbmaaDoor
