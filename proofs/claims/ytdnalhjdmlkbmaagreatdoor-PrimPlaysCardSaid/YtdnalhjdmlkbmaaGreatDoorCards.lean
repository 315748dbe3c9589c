/-
  DERIVED. GIVEN WITH THE SEED: THE CARDS: each row of YtdnalhjdmlkbmaaGreatDoorRows.lean that lists a variable, with what it lists TIED to the program's text (the seventh form; the later family's looks); each row that meets fmt, with fmt's text TOLD by the authors' own Lean function (tested against real Go, not proved from fmt's source: count such statements apart). THE CARD IS WHAT COUNTS. Prove the row's statement (the work); the ties are given (YtdnalhjdmlkbmaaGreatDoorTie.lean); close each card by the builder's one call (the guide's Derived/Test/ToyasCard.lean, 'card_holds'). Laid BY PROGRAM, IN A SANDBOX (cutbox-door.mjs). By AI agents, Wed Nov 11 2026. No macro, syntax, notation, axiom, sorry.
-/
import Derived.Test.YtdnalhjdmlkbmaaGreatDoorRows
import GoSem.ClaimSeven
namespace Go.Proofs.YtdnalhjdmlkbmaaGreatDoor
namespace Rows

/-- THE TIED CARD OF 'wisplaw06.PrimEach'. -/
def primEachCard : Claim7 := { stood := { row := primEachRow, standIns := [], harness := (true, "86ad44b5cc8fa892f8f6fa7c6a8ab62ad775e6504733cf1d5fa8abfe3cc87e77"), looks := false }, kinds := [], alts := [], laidByText := true, laidKinds := [.data, .data, .data, .data], laidTests := true, laidLooks := .later }
def PrimEachCardSaid : Prop := Claim7.holds Tryz.pinned (.plain (OpenSpec.ofChange primEachSpec)) primEachCard

/-- THE TIED CARD OF 'wisplaw08.VmPlays'. -/
def vmPlaysCard : Claim7 := { stood := { row := vmPlaysRow, standIns := [], harness := (true, "86ad44b5cc8fa892f8f6fa7c6a8ab62ad775e6504733cf1d5fa8abfe3cc87e77"), looks := false }, kinds := [], alts := [], laidByText := true, laidKinds := [.data, .data, .data, .data], laidTests := true, laidLooks := .later }
def VmPlaysCardSaid : Prop := Claim7.holds Tryz.pinned (.plain (OpenSpec.ofChange vmPlaysSpec)) vmPlaysCard

/-- THE TIED CARD OF 'wisplaw06.PrimNone'. -/
def primNoneCard : Claim7 := { stood := { row := primNoneRow, standIns := [], harness := (true, "86ad44b5cc8fa892f8f6fa7c6a8ab62ad775e6504733cf1d5fa8abfe3cc87e77"), looks := false }, kinds := [], alts := [], laidByText := true, laidKinds := [.data, .data, .data, .data], laidTests := true, laidLooks := .later }
def PrimNoneCardSaid : Prop := Claim7.holds Tryz.pinned (.plain (OpenSpec.ofChange primNoneSpec)) primNoneCard

/-- THE TIED CARD OF 'wisplaw06.PrimKeeps'. -/
def primKeepsCard : Claim7 := { stood := { row := primKeepsRow, standIns := [], harness := (true, "86ad44b5cc8fa892f8f6fa7c6a8ab62ad775e6504733cf1d5fa8abfe3cc87e77"), looks := false }, kinds := [], alts := [], laidByText := true, laidKinds := [.data, .data, .data, .data], laidTests := true, laidLooks := .later }
def PrimKeepsCardSaid : Prop := Claim7.holds Tryz.pinned (.plain (OpenSpec.ofChange primKeepsSpec)) primKeepsCard

/-- THE TIED CARD OF 'wisplaw06.PrimPlays'. -/
def primPlaysCard : Claim7 := { stood := { row := primPlaysRow, standIns := [], harness := (true, "86ad44b5cc8fa892f8f6fa7c6a8ab62ad775e6504733cf1d5fa8abfe3cc87e77"), looks := false }, kinds := [], alts := [], laidByText := true, laidKinds := [.data, .data, .data, .data], laidTests := true, laidLooks := .later }
def PrimPlaysCardSaid : Prop := Claim7.holds Tryz.pinned (.plain (OpenSpec.ofChange primPlaysSpec)) primPlaysCard

/-- THE SECOND FORM's CARD OF 'wisplaw06.PrimEach'. -/
def primEachUptoCard : Claim7 := { stood := { row := primEachUptoRow, standIns := [], harness := (true, "86ad44b5cc8fa892f8f6fa7c6a8ab62ad775e6504733cf1d5fa8abfe3cc87e77"), looks := false }, kinds := [], alts := [], laidByText := true, laidKinds := [.data, .data, .data, .data], laidTests := true, laidLooks := .later }
def PrimEachUptoCardSaid : Prop := Claim7.holds Tryz.pinned (.plain (OpenSpec.upto primEachSpec)) primEachUptoCard

/-- THE SECOND FORM's CARD OF 'wisplaw08.VmPlays'. -/
def vmPlaysUptoCard : Claim7 := { stood := { row := vmPlaysUptoRow, standIns := [], harness := (true, "86ad44b5cc8fa892f8f6fa7c6a8ab62ad775e6504733cf1d5fa8abfe3cc87e77"), looks := false }, kinds := [], alts := [], laidByText := true, laidKinds := [.data, .data, .data, .data], laidTests := true, laidLooks := .later }
def VmPlaysUptoCardSaid : Prop := Claim7.holds Tryz.pinned (.plain (OpenSpec.upto vmPlaysSpec)) vmPlaysUptoCard

/-- THE SECOND FORM's CARD OF 'wisplaw06.PrimNone'. -/
def primNoneUptoCard : Claim7 := { stood := { row := primNoneUptoRow, standIns := [], harness := (true, "86ad44b5cc8fa892f8f6fa7c6a8ab62ad775e6504733cf1d5fa8abfe3cc87e77"), looks := false }, kinds := [], alts := [], laidByText := true, laidKinds := [.data, .data, .data, .data], laidTests := true, laidLooks := .later }
def PrimNoneUptoCardSaid : Prop := Claim7.holds Tryz.pinned (.plain (OpenSpec.upto primNoneSpec)) primNoneUptoCard

/-- THE SECOND FORM's CARD OF 'wisplaw06.PrimKeeps'. -/
def primKeepsUptoCard : Claim7 := { stood := { row := primKeepsUptoRow, standIns := [], harness := (true, "86ad44b5cc8fa892f8f6fa7c6a8ab62ad775e6504733cf1d5fa8abfe3cc87e77"), looks := false }, kinds := [], alts := [], laidByText := true, laidKinds := [.data, .data, .data, .data], laidTests := true, laidLooks := .later }
def PrimKeepsUptoCardSaid : Prop := Claim7.holds Tryz.pinned (.plain (OpenSpec.upto primKeepsSpec)) primKeepsUptoCard

/-- THE SECOND FORM's CARD OF 'wisplaw06.PrimPlays'. -/
def primPlaysUptoCard : Claim7 := { stood := { row := primPlaysUptoRow, standIns := [], harness := (true, "86ad44b5cc8fa892f8f6fa7c6a8ab62ad775e6504733cf1d5fa8abfe3cc87e77"), looks := false }, kinds := [], alts := [], laidByText := true, laidKinds := [.data, .data, .data, .data], laidTests := true, laidLooks := .later }
def PrimPlaysUptoCardSaid : Prop := Claim7.holds Tryz.pinned (.plain (OpenSpec.upto primPlaysSpec)) primPlaysUptoCard
end Rows
end Go.Proofs.YtdnalhjdmlkbmaaGreatDoor
