/-
  DERIVED. GIVEN WITH THE SEED: THE CARDS: each row of YtbfefcmhciimcaaGreatDoorRows.lean that lists a variable, with what it lists TIED to the program's text (the seventh form; the later family's looks); each row that meets fmt, with fmt's text TOLD by the authors' own Lean function (tested against real Go, not proved from fmt's source: count such statements apart). THE CARD IS WHAT COUNTS. Prove the row's statement (the work); the ties are given (YtbfefcmhciimcaaGreatDoorTie.lean); close each card by the builder's one call (the guide's Derived/Test/ToyasCard.lean, 'card_holds'). Laid BY PROGRAM, IN A SANDBOX (cutbox-door.mjs). By AI agents, Wed Nov 11 2026. No macro, syntax, notation, axiom, sorry.
-/
import Derived.Test.YtbfefcmhciimcaaGreatDoorRows
import GoSem.ClaimSeven
namespace Go.Proofs.YtbfefcmhciimcaaGreatDoor
namespace Rows

/-- THE TIED CARD OF 'analemmalaw25.TextWrites'. -/
def textWritesCard : Claim7 := { stood := { row := textWritesRow, standIns := [], harness := (true, "226e82147cd49771b39619370f595fb43fdf73e3eb411478f44ec89195194eae"), looks := true }, kinds := [], alts := [], laidByText := true, laidKinds := [.data, .data, .data, .data, .data, .data, .pinned, .pinned], laidTests := true, laidLooks := .later }
def TextWritesCardSaid : Prop := Claim7.holds Tryz.pinned (.plain (OpenSpec.ofChange textWritesSpec)) textWritesCard

/-- THE SECOND FORM's CARD OF 'analemmalaw25.TextWrites'. -/
def textWritesUptoCard : Claim7 := { stood := { row := textWritesUptoRow, standIns := [], harness := (true, "226e82147cd49771b39619370f595fb43fdf73e3eb411478f44ec89195194eae"), looks := true }, kinds := [], alts := [], laidByText := true, laidKinds := [.data, .data, .data, .data, .data, .data, .pinned, .pinned], laidTests := true, laidLooks := .later }
def TextWritesUptoCardSaid : Prop := Claim7.holds Tryz.pinned (.plain (OpenSpec.upto textWritesSpec)) textWritesUptoCard
end Rows
end Go.Proofs.YtbfefcmhciimcaaGreatDoor
