/-
  DERIVED. GIVEN WITH THE SEED: THE CARDS: each row of YtmdnkhidhkbgcaaGreatDoorRows.lean that lists a variable, with what it lists TIED to the program's text (the seventh form; the later family's looks); each row that meets fmt, with fmt's text TOLD by the authors' own Lean function (tested against real Go, not proved from fmt's source: count such statements apart). THE CARD IS WHAT COUNTS. Prove the row's statement (the work); the ties are given (YtmdnkhidhkbgcaaGreatDoorTie.lean); close each card by the builder's one call (the guide's Derived/Test/ToyasCard.lean, 'card_holds'). Laid BY PROGRAM, IN A SANDBOX (cutbox-door.mjs). By AI agents, Wed Nov 11 2026. No macro, syntax, notation, axiom, sorry.
-/
import Derived.Test.YtmdnkhidhkbgcaaGreatDoorRows
import GoSem.ClaimSeven
namespace Go.Proofs.YtmdnkhidhkbgcaaGreatDoor
namespace Rows

/-- THE TIED CARD OF 'paddocklaw19.GroupServes'. -/
def groupServesCard : Claim7 := { stood := { row := groupServesRow, standIns := [], harness := (true, "a9f2ae893330707db2dd76f1f84dfa98c3ea0dabdd45d7e5dbb70cbe7c474874"), looks := false }, kinds := [], alts := [], laidByText := true, laidKinds := [.data, .data, .data], laidTests := true, laidLooks := .later }
def GroupServesCardSaid : Prop := Claim7.holds Tryz.pinned (.plain (OpenSpec.ofChange groupServesSpec)) groupServesCard

/-- THE TIED CARD OF 'paddocklaw19.GroupHeals'. -/
def groupHealsCard : Claim7 := { stood := { row := groupHealsRow, standIns := [], harness := (true, "a9f2ae893330707db2dd76f1f84dfa98c3ea0dabdd45d7e5dbb70cbe7c474874"), looks := false }, kinds := [], alts := [], laidByText := true, laidKinds := [.data, .data, .data], laidTests := true, laidLooks := .later }
def GroupHealsCardSaid : Prop := Claim7.holds Tryz.pinned (.plain (OpenSpec.ofChange groupHealsSpec)) groupHealsCard

/-- THE TIED CARD OF 'paddocklaw19.GroupDoubles'. -/
def groupDoublesCard : Claim7 := { stood := { row := groupDoublesRow, standIns := [], harness := (true, "a9f2ae893330707db2dd76f1f84dfa98c3ea0dabdd45d7e5dbb70cbe7c474874"), looks := false }, kinds := [], alts := [], laidByText := true, laidKinds := [.data, .data, .data], laidTests := true, laidLooks := .later }
def GroupDoublesCardSaid : Prop := Claim7.holds Tryz.pinned (.plain (OpenSpec.ofChange groupDoublesSpec)) groupDoublesCard

/-- THE SECOND FORM's CARD OF 'paddocklaw19.GroupServes'. -/
def groupServesUptoCard : Claim7 := { stood := { row := groupServesUptoRow, standIns := [], harness := (true, "a9f2ae893330707db2dd76f1f84dfa98c3ea0dabdd45d7e5dbb70cbe7c474874"), looks := false }, kinds := [], alts := [], laidByText := true, laidKinds := [.data, .data, .data], laidTests := true, laidLooks := .later }
def GroupServesUptoCardSaid : Prop := Claim7.holds Tryz.pinned (.plain (OpenSpec.upto groupServesSpec)) groupServesUptoCard

/-- THE SECOND FORM's CARD OF 'paddocklaw19.GroupHeals'. -/
def groupHealsUptoCard : Claim7 := { stood := { row := groupHealsUptoRow, standIns := [], harness := (true, "a9f2ae893330707db2dd76f1f84dfa98c3ea0dabdd45d7e5dbb70cbe7c474874"), looks := false }, kinds := [], alts := [], laidByText := true, laidKinds := [.data, .data, .data], laidTests := true, laidLooks := .later }
def GroupHealsUptoCardSaid : Prop := Claim7.holds Tryz.pinned (.plain (OpenSpec.upto groupHealsSpec)) groupHealsUptoCard

/-- THE SECOND FORM's CARD OF 'paddocklaw19.GroupDoubles'. -/
def groupDoublesUptoCard : Claim7 := { stood := { row := groupDoublesUptoRow, standIns := [], harness := (true, "a9f2ae893330707db2dd76f1f84dfa98c3ea0dabdd45d7e5dbb70cbe7c474874"), looks := false }, kinds := [], alts := [], laidByText := true, laidKinds := [.data, .data, .data], laidTests := true, laidLooks := .later }
def GroupDoublesUptoCardSaid : Prop := Claim7.holds Tryz.pinned (.plain (OpenSpec.upto groupDoublesSpec)) groupDoublesUptoCard
end Rows
end Go.Proofs.YtmdnkhidhkbgcaaGreatDoor
