/-
  DERIVED. GIVEN WITH THE SEED: THE CARDS: each row of YtdnalhjdmlkbmaaDoorRows.lean that lists a variable, with what it lists TIED to the program's text (the seventh form; the later family's looks); each row that meets fmt, with fmt's text TOLD by the authors' own Lean function (tested against real Go, not proved from fmt's source: count such statements apart). THE CARD IS WHAT COUNTS. Prove the row's statement (the work); the ties are given (YtdnalhjdmlkbmaaDoorTie.lean); close each card by the builder's one call (the guide's Derived/Test/ToyasCard.lean, 'card_holds'). Laid BY PROGRAM, IN A SANDBOX (cutbox-door.mjs). By AI agents, Wed Nov 11 2026. No macro, syntax, notation, axiom, sorry.
-/
import Derived.Test.YtdnalhjdmlkbmaaDoorRows
import GoSem.ClaimSeven
namespace Go.Proofs.YtdnalhjdmlkbmaaDoor
namespace Rows

/-- THE TIED CARD OF 'wisplaw06.PrimTable'. -/
def primTableCard : Claim7 := { stood := { row := primTableRow, standIns := [], harness := (true, "627b3894f4e15698bfdfa4206d481cd5770305192f1ebd320fcbbe8ba0dd0fdf"), looks := false }, kinds := [], alts := [], laidByText := true, laidKinds := [.data, .data, .data, .data], laidTests := true, laidLooks := .later }
def PrimTableCardSaid : Prop := Claim7.holds Tryd.pinned (.plain (OpenSpec.ofChange primTableSpec)) primTableCard

/-- THE TIED CARD OF 'wisplaw06.PrimAll'. -/
def primAllCard : Claim7 := { stood := { row := primAllRow, standIns := [], harness := (true, "627b3894f4e15698bfdfa4206d481cd5770305192f1ebd320fcbbe8ba0dd0fdf"), looks := false }, kinds := [], alts := [], laidByText := true, laidKinds := [.data, .data, .data, .data], laidTests := true, laidLooks := .later }
def PrimAllCardSaid : Prop := Claim7.holds Tryd.pinned (.plain (OpenSpec.ofChange primAllSpec)) primAllCard

/-- THE TIED CARD OF 'wisplaw06.PrimNames'. -/
def primNamesCard : Claim7 := { stood := { row := primNamesRow, standIns := [], harness := (true, "627b3894f4e15698bfdfa4206d481cd5770305192f1ebd320fcbbe8ba0dd0fdf"), looks := false }, kinds := [], alts := [], laidByText := true, laidKinds := [.data, .data, .data, .data], laidTests := true, laidLooks := .later }
def PrimNamesCardSaid : Prop := Claim7.holds Tryd.pinned (.plain (OpenSpec.ofChange primNamesSpec)) primNamesCard

/-- THE TIED CARD OF 'wisplaw06.PrimBack'. -/
def primBackCard : Claim7 := { stood := { row := primBackRow, standIns := [], harness := (true, "627b3894f4e15698bfdfa4206d481cd5770305192f1ebd320fcbbe8ba0dd0fdf"), looks := false }, kinds := [], alts := [], laidByText := true, laidKinds := [.data, .data, .data, .data], laidTests := true, laidLooks := .later }
def PrimBackCardSaid : Prop := Claim7.holds Tryd.pinned (.plain (OpenSpec.ofChange primBackSpec)) primBackCard

/-- THE TIED CARD OF 'wisplaw08.VmExact'. -/
def vmExactCard : Claim7 := { stood := { row := vmExactRow, standIns := [], harness := (true, "627b3894f4e15698bfdfa4206d481cd5770305192f1ebd320fcbbe8ba0dd0fdf"), looks := false }, kinds := [], alts := [], laidByText := true, laidKinds := [.data, .data, .data, .data], laidTests := true, laidLooks := .later }
def VmExactCardSaid : Prop := Claim7.holds Tryd.pinned (.plain (OpenSpec.ofChange vmExactSpec)) vmExactCard

/-- THE TIED CARD OF 'wisplaw08.VmNone'. -/
def vmNoneCard : Claim7 := { stood := { row := vmNoneRow, standIns := [], harness := (true, "627b3894f4e15698bfdfa4206d481cd5770305192f1ebd320fcbbe8ba0dd0fdf"), looks := false }, kinds := [], alts := [], laidByText := true, laidKinds := [.data, .data, .data, .data], laidTests := true, laidLooks := .later }
def VmNoneCardSaid : Prop := Claim7.holds Tryd.pinned (.plain (OpenSpec.ofChange vmNoneSpec)) vmNoneCard

/-- THE TIED CARD OF 'wisplaw08.VmAsOne'. -/
def vmAsOneCard : Claim7 := { stood := { row := vmAsOneRow, standIns := [], harness := (true, "627b3894f4e15698bfdfa4206d481cd5770305192f1ebd320fcbbe8ba0dd0fdf"), looks := false }, kinds := [], alts := [], laidByText := true, laidKinds := [.data, .data, .data, .data], laidTests := true, laidLooks := .later }
def VmAsOneCardSaid : Prop := Claim7.holds Tryd.pinned (.plain (OpenSpec.ofChange vmAsOneSpec)) vmAsOneCard

/-- THE SECOND FORM's CARD OF 'wisplaw06.PrimTable'. -/
def primTableUptoCard : Claim7 := { stood := { row := primTableUptoRow, standIns := [], harness := (true, "627b3894f4e15698bfdfa4206d481cd5770305192f1ebd320fcbbe8ba0dd0fdf"), looks := false }, kinds := [], alts := [], laidByText := true, laidKinds := [.data, .data, .data, .data], laidTests := true, laidLooks := .later }
def PrimTableUptoCardSaid : Prop := Claim7.holds Tryd.pinned (.plain (OpenSpec.upto primTableSpec)) primTableUptoCard

/-- THE SECOND FORM's CARD OF 'wisplaw06.PrimAll'. -/
def primAllUptoCard : Claim7 := { stood := { row := primAllUptoRow, standIns := [], harness := (true, "627b3894f4e15698bfdfa4206d481cd5770305192f1ebd320fcbbe8ba0dd0fdf"), looks := false }, kinds := [], alts := [], laidByText := true, laidKinds := [.data, .data, .data, .data], laidTests := true, laidLooks := .later }
def PrimAllUptoCardSaid : Prop := Claim7.holds Tryd.pinned (.plain (OpenSpec.upto primAllSpec)) primAllUptoCard

/-- THE SECOND FORM's CARD OF 'wisplaw06.PrimNames'. -/
def primNamesUptoCard : Claim7 := { stood := { row := primNamesUptoRow, standIns := [], harness := (true, "627b3894f4e15698bfdfa4206d481cd5770305192f1ebd320fcbbe8ba0dd0fdf"), looks := false }, kinds := [], alts := [], laidByText := true, laidKinds := [.data, .data, .data, .data], laidTests := true, laidLooks := .later }
def PrimNamesUptoCardSaid : Prop := Claim7.holds Tryd.pinned (.plain (OpenSpec.upto primNamesSpec)) primNamesUptoCard

/-- THE SECOND FORM's CARD OF 'wisplaw06.PrimBack'. -/
def primBackUptoCard : Claim7 := { stood := { row := primBackUptoRow, standIns := [], harness := (true, "627b3894f4e15698bfdfa4206d481cd5770305192f1ebd320fcbbe8ba0dd0fdf"), looks := false }, kinds := [], alts := [], laidByText := true, laidKinds := [.data, .data, .data, .data], laidTests := true, laidLooks := .later }
def PrimBackUptoCardSaid : Prop := Claim7.holds Tryd.pinned (.plain (OpenSpec.upto primBackSpec)) primBackUptoCard

/-- THE SECOND FORM's CARD OF 'wisplaw08.VmExact'. -/
def vmExactUptoCard : Claim7 := { stood := { row := vmExactUptoRow, standIns := [], harness := (true, "627b3894f4e15698bfdfa4206d481cd5770305192f1ebd320fcbbe8ba0dd0fdf"), looks := false }, kinds := [], alts := [], laidByText := true, laidKinds := [.data, .data, .data, .data], laidTests := true, laidLooks := .later }
def VmExactUptoCardSaid : Prop := Claim7.holds Tryd.pinned (.plain (OpenSpec.upto vmExactSpec)) vmExactUptoCard

/-- THE SECOND FORM's CARD OF 'wisplaw08.VmNone'. -/
def vmNoneUptoCard : Claim7 := { stood := { row := vmNoneUptoRow, standIns := [], harness := (true, "627b3894f4e15698bfdfa4206d481cd5770305192f1ebd320fcbbe8ba0dd0fdf"), looks := false }, kinds := [], alts := [], laidByText := true, laidKinds := [.data, .data, .data, .data], laidTests := true, laidLooks := .later }
def VmNoneUptoCardSaid : Prop := Claim7.holds Tryd.pinned (.plain (OpenSpec.upto vmNoneSpec)) vmNoneUptoCard

/-- THE SECOND FORM's CARD OF 'wisplaw08.VmAsOne'. -/
def vmAsOneUptoCard : Claim7 := { stood := { row := vmAsOneUptoRow, standIns := [], harness := (true, "627b3894f4e15698bfdfa4206d481cd5770305192f1ebd320fcbbe8ba0dd0fdf"), looks := false }, kinds := [], alts := [], laidByText := true, laidKinds := [.data, .data, .data, .data], laidTests := true, laidLooks := .later }
def VmAsOneUptoCardSaid : Prop := Claim7.holds Tryd.pinned (.plain (OpenSpec.upto vmAsOneSpec)) vmAsOneUptoCard
end Rows
end Go.Proofs.YtdnalhjdmlkbmaaDoor
