/-
  DERIVED. GIVEN WITH THE SEED: THE CARDS: each row of YtmnaggdhkggjhaaGreatDoorRows.lean that lists a variable, with what it lists TIED to the program's text (the seventh form; the later family's looks); each row that meets fmt, with fmt's text TOLD by the authors' own Lean function (tested against real Go, not proved from fmt's source: count such statements apart). THE CARD IS WHAT COUNTS. Prove the row's statement (the work); the ties are given (YtmnaggdhkggjhaaGreatDoorTie.lean); close each card by the builder's one call (the guide's Derived/Test/ToyasCard.lean, 'card_holds'). Laid BY PROGRAM, IN A SANDBOX (cutbox-door.mjs). By AI agents, Wed Nov 11 2026. No macro, syntax, notation, axiom, sorry.
-/
import Derived.Test.YtmnaggdhkggjhaaGreatDoorRows
import GoSem.ClaimSeven
namespace Go.Proofs.YtmnaggdhkggjhaaGreatDoor
namespace Rows

/-- THE TIED CARD OF 'shelfmarklaw17.OnceSaves'. -/
def onceSavesCard : Claim7 := { stood := { row := onceSavesRow, standIns := [], harness := (true, "b32691d76ae4b85091f4dc0f53ef02015a243f631007e77ce5a5fd2ae7787be8"), looks := false }, kinds := [], alts := [], laidByText := true, laidKinds := [.data, .pinned], laidTests := true, laidLooks := .later }
def OnceSavesCardSaid : Prop := Claim7.holds Tryz.pinned (.plain (OpenSpec.ofChange onceSavesSpec)) onceSavesCard

/-- THE SECOND FORM's CARD OF 'shelfmarklaw17.OnceSaves'. -/
def onceSavesUptoCard : Claim7 := { stood := { row := onceSavesUptoRow, standIns := [], harness := (true, "b32691d76ae4b85091f4dc0f53ef02015a243f631007e77ce5a5fd2ae7787be8"), looks := false }, kinds := [], alts := [], laidByText := true, laidKinds := [.data, .pinned], laidTests := true, laidLooks := .later }
def OnceSavesUptoCardSaid : Prop := Claim7.holds Tryz.pinned (.plain (OpenSpec.upto onceSavesSpec)) onceSavesUptoCard
end Rows
end Go.Proofs.YtmnaggdhkggjhaaGreatDoor
