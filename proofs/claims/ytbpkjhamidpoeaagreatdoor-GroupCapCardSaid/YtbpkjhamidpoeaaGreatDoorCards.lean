/-
  DERIVED. GIVEN WITH THE SEED: THE CARDS: each row of YtbpkjhamidpoeaaGreatDoorRows.lean that lists a variable, with what it lists TIED to the program's text (the seventh form; the later family's looks); each row that meets fmt, with fmt's text TOLD by the authors' own Lean function (tested against real Go, not proved from fmt's source: count such statements apart). THE CARD IS WHAT COUNTS. Prove the row's statement (the work); the ties are given (YtbpkjhamidpoeaaGreatDoorTie.lean); close each card by the builder's one call (the guide's Derived/Test/ToyasCard.lean, 'card_holds'). Laid BY PROGRAM, IN A SANDBOX (cutbox-door.mjs). By AI agents, Wed Nov 11 2026. No macro, syntax, notation, axiom, sorry.
-/
import Derived.Test.YtbpkjhamidpoeaaGreatDoorRows
import GoSem.ClaimSeven
namespace Go.Proofs.YtbpkjhamidpoeaaGreatDoor
namespace Rows

/-- THE TIED CARD OF 'paddocklaw19.GroupCap'. -/
def groupCapCard : Claim7 := { stood := { row := groupCapRow, standIns := [], harness := (true, "2cf8f5c5e834494b40309fb6aefa091844036d4a1a051eb5c0169f021628d6d1"), looks := false }, kinds := [], alts := [], laidByText := true, laidKinds := [.data, .data, .data], laidTests := true, laidLooks := .later }
def GroupCapCardSaid : Prop := Claim7.holds Tryz.pinned (.plain (OpenSpec.ofChange groupCapSpec)) groupCapCard

/-- THE SECOND FORM's CARD OF 'paddocklaw19.GroupCap'. -/
def groupCapUptoCard : Claim7 := { stood := { row := groupCapUptoRow, standIns := [], harness := (true, "2cf8f5c5e834494b40309fb6aefa091844036d4a1a051eb5c0169f021628d6d1"), looks := false }, kinds := [], alts := [], laidByText := true, laidKinds := [.data, .data, .data], laidTests := true, laidLooks := .later }
def GroupCapUptoCardSaid : Prop := Claim7.holds Tryz.pinned (.plain (OpenSpec.upto groupCapSpec)) groupCapUptoCard
end Rows
end Go.Proofs.YtbpkjhamidpoeaaGreatDoor
