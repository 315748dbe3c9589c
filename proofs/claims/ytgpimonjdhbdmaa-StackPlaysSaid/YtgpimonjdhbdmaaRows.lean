/-
  No cell of these rows narrows 'for every input' (looked for: loops, veiled, ifaces, maps, wideKeys, modest, calm, conditions, laid).
  DERIVED. THE GIVEN ROWS OF THIS SEAT. 4 by the template 'for every input the law returns true; each argument reads behind the call as it read before'; 0 by the template 'total and deterministic' (their statements: YtgpimonjdhbdmaaTotals.lean).
  GIVEN WITH THE SEED: the statements are not yours to turn. If you find one false, say at which input.
  Laid BY PROGRAM, IN A SANDBOX (cutbox-rows.mjs): the forced cells as the released guide's own fill.sh prints them over the translation 155274e656c8a55f… (all of the seat's roots in one cut). By AI agents, Wed Nov 11 2026. No macro, syntax, notation, axiom, sorry.
-/
import Derived.Test.YtgpimonjdhbdmaaChecked
import GoSem.Claim
import GoSem.ClaimJoined
import GoSem.ClaimMapViews
import Derived.JoinedTies
import Derived.KernelRfl
namespace Go.Proofs.Ytgpimonjdhbdmaa
/- THE CELL 'sum', in the pinned program and in every row, IS THE sha256 OF THE DUMP (.gsa) THAT YtgpimonjdhbdmaaProg.lean LOADS. Nothing in Lean hashes anything: it is a label: what it is worth is what the hold of that sum in a sandbox is worth. -/
noncomputable def Try.pinned : Pinned := { name := "ytgpimonjdhbdmaa", sum := "155274e656c8a55fb79a9cb7db28212c49ef48cdcbe27512760c16d10b589ec4", checked := Try.checked }
namespace Rows
def none {H : Type} : Left H := { results := [], args := [] }

/-- 'wisplaw05.StackNeeds': WHATEVER THE INPUT: true; the input reads as it did. -/
def stackNeedsSpec : ChangeSpec := { name := "stackNeeds", fn := fun _ => fun
  | [d1, d2, d3, d4] => { results := [.lit (.bool true)], args := [d1, d2, d3, d4] }
  | _ => none }
def stackNeedsRow : OpenClaim := { program := "ytgpimonjdhbdmaa", sum := "155274e656c8a55fb79a9cb7db28212c49ef48cdcbe27512760c16d10b589ec4", func := "wisp/wisplaw05.StackNeeds", spec := "stackNeeds", apart := false }
def StackNeedsSaid : Prop := stackNeedsRow.holds Try.pinned (OpenSpec.ofChange stackNeedsSpec)

/-- ITS FALSE NEIGHBOUR: 'it returns false'. Refute it at one input. -/
def stackNeedsWrong : ChangeSpec := { name := "stackNeeds", fn := fun _ => fun
  | [d1, d2, d3, d4] => { results := [.lit (.bool false)], args := [d1, d2, d3, d4] }
  | _ => none }
def StackNeedsWrongFalsely : Prop := stackNeedsRow.holds Try.pinned (OpenSpec.ofChange stackNeedsWrong)

/-- 'wisplaw05.StackKinds': WHATEVER THE INPUT: true; the input reads as it did. -/
def stackKindsSpec : ChangeSpec := { name := "stackKinds", fn := fun _ => fun
  | [d1, d2, d3, d4] => { results := [.lit (.bool true)], args := [d1, d2, d3, d4] }
  | _ => none }
def stackKindsRow : OpenClaim := { program := "ytgpimonjdhbdmaa", sum := "155274e656c8a55fb79a9cb7db28212c49ef48cdcbe27512760c16d10b589ec4", func := "wisp/wisplaw05.StackKinds", spec := "stackKinds", apart := false }
def StackKindsSaid : Prop := stackKindsRow.holds Try.pinned (OpenSpec.ofChange stackKindsSpec)

/-- ITS FALSE NEIGHBOUR: 'it returns false'. Refute it at one input. -/
def stackKindsWrong : ChangeSpec := { name := "stackKinds", fn := fun _ => fun
  | [d1, d2, d3, d4] => { results := [.lit (.bool false)], args := [d1, d2, d3, d4] }
  | _ => none }
def StackKindsWrongFalsely : Prop := stackKindsRow.holds Try.pinned (OpenSpec.ofChange stackKindsWrong)

/-- 'wisplaw05.StackNames': WHATEVER THE INPUT: true; the input reads as it did. -/
def stackNamesSpec : ChangeSpec := { name := "stackNames", fn := fun _ => fun
  | [] => { results := [.lit (.bool true)], args := [] }
  | _ => none }
def stackNamesRow : OpenClaim := { program := "ytgpimonjdhbdmaa", sum := "155274e656c8a55fb79a9cb7db28212c49ef48cdcbe27512760c16d10b589ec4", func := "wisp/wisplaw05.StackNames", spec := "stackNames", apart := false }
def StackNamesSaid : Prop := stackNamesRow.holds Try.pinned (OpenSpec.ofChange stackNamesSpec)

/-- ITS FALSE NEIGHBOUR: 'it returns false'. Refute it at one input. -/
def stackNamesWrong : ChangeSpec := { name := "stackNames", fn := fun _ => fun
  | [] => { results := [.lit (.bool false)], args := [] }
  | _ => none }
def StackNamesWrongFalsely : Prop := stackNamesRow.holds Try.pinned (OpenSpec.ofChange stackNamesWrong)

/-- 'wisplaw05.StackPlays': WHATEVER THE INPUT: true; the input reads as it did. -/
def stackPlaysSpec : ChangeSpec := { name := "stackPlays", fn := fun _ => fun
  | [d] => { results := [.lit (.bool true)], args := [d] }
  | _ => none }
def stackPlaysRow : OpenClaim := { program := "ytgpimonjdhbdmaa", sum := "155274e656c8a55fb79a9cb7db28212c49ef48cdcbe27512760c16d10b589ec4", func := "wisp/wisplaw05.StackPlays", spec := "stackPlays", apart := false }
def StackPlaysSaid : Prop := stackPlaysRow.holds Try.pinned (OpenSpec.ofChange stackPlaysSpec)

/-- ITS FALSE NEIGHBOUR: 'it returns false'. Refute it at one input. -/
def stackPlaysWrong : ChangeSpec := { name := "stackPlays", fn := fun _ => fun
  | [d] => { results := [.lit (.bool false)], args := [d] }
  | _ => none }
def StackPlaysWrongFalsely : Prop := stackPlaysRow.holds Try.pinned (OpenSpec.ofChange stackPlaysWrong)

/- THE SECOND FORM. 'bulk': how many values and letters a reading holds, each counted each time it is reached (what is shared counts as often as it is met; a slice's spare places count too). A statement '..UptoSaid' is the law's where the arguments, and the package variables that the reading takes, are together of bulk at most 1048576: NARROWER than '..Said'. Prove '..Said' where nothing that the law and all that it calls make is longer than what came in: it says more and counts as full. Else prove '..UptoSaid'. A law counts once. -/
mutual
def uptoBulk {H : Type} : DataW H → Nat
  | .lit (.string bytes) => bytes.length + 1
  | .lit _ => 1
  | .nil => 1
  | .ptr d => uptoBulk d + 1
  | .slice elems spare => uptoBulkAll elems + uptoBulkAll spare + 1
  | .agg parts => uptoBulkAll parts + 1
  | .iface _ d => uptoBulk d + 1
  | .map entries => uptoBulkEntries entries + 1
  | .held _ => 1
def uptoBulkAll {H : Type} : List (DataW H) → Nat
  | [] => 0
  | d :: r => uptoBulk d + uptoBulkAll r
def uptoBulkEntries {H : Type} : List (Lit × DataW H) → Nat
  | [] => 0
  | x :: r => uptoBulkEntry x + uptoBulkEntries r
def uptoBulkEntry {H : Type} : Lit × DataW H → Nat
  | (.string bytes, d) => bytes.length + uptoBulk d + 1
  | (_, d) => uptoBulk d + 1
 end
def uptoSmall : (H : Type) → List (DataW H) → Bool := fun _ ds => decide (uptoBulkAll ds ≤ 1048576)
def OpenSpec.upto (s : _root_.Go.ChangeSpec) : _root_.Go.OpenSpec := { _root_.Go.OpenSpec.ofChange s with cond := some uptoSmall }

/-- 'wisplaw05.StackNeeds', WHERE WHAT IT READS IS OF BULK AT MOST 1048576: true; the input reads as it did. -/
def stackNeedsUptoRow : OpenClaim := { program := "ytgpimonjdhbdmaa", sum := "155274e656c8a55fb79a9cb7db28212c49ef48cdcbe27512760c16d10b589ec4", func := "wisp/wisplaw05.StackNeeds", spec := "stackNeeds", apart := false, narrowed := true }
def StackNeedsUptoSaid : Prop := stackNeedsUptoRow.holds Try.pinned (OpenSpec.upto stackNeedsSpec)

/-- 'wisplaw05.StackKinds', WHERE WHAT IT READS IS OF BULK AT MOST 1048576: true; the input reads as it did. -/
def stackKindsUptoRow : OpenClaim := { program := "ytgpimonjdhbdmaa", sum := "155274e656c8a55fb79a9cb7db28212c49ef48cdcbe27512760c16d10b589ec4", func := "wisp/wisplaw05.StackKinds", spec := "stackKinds", apart := false, narrowed := true }
def StackKindsUptoSaid : Prop := stackKindsUptoRow.holds Try.pinned (OpenSpec.upto stackKindsSpec)

/-- 'wisplaw05.StackNames', WHERE WHAT IT READS IS OF BULK AT MOST 1048576: true; the input reads as it did. -/
def stackNamesUptoRow : OpenClaim := { program := "ytgpimonjdhbdmaa", sum := "155274e656c8a55fb79a9cb7db28212c49ef48cdcbe27512760c16d10b589ec4", func := "wisp/wisplaw05.StackNames", spec := "stackNames", apart := false, narrowed := true }
def StackNamesUptoSaid : Prop := stackNamesUptoRow.holds Try.pinned (OpenSpec.upto stackNamesSpec)

/-- 'wisplaw05.StackPlays', WHERE WHAT IT READS IS OF BULK AT MOST 1048576: true; the input reads as it did. -/
def stackPlaysUptoRow : OpenClaim := { program := "ytgpimonjdhbdmaa", sum := "155274e656c8a55fb79a9cb7db28212c49ef48cdcbe27512760c16d10b589ec4", func := "wisp/wisplaw05.StackPlays", spec := "stackPlays", apart := false, narrowed := true }
def StackPlaysUptoSaid : Prop := stackPlaysUptoRow.holds Try.pinned (OpenSpec.upto stackPlaysSpec)

end Rows
end Go.Proofs.Ytgpimonjdhbdmaa
