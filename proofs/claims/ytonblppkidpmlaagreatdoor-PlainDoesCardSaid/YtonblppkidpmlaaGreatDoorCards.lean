/-
  DERIVED. GIVEN WITH THE SEED: THE CARDS: each row of YtonblppkidpmlaaGreatDoorRows.lean that lists a variable, with what it lists TIED to the program's text (the seventh form; the later family's looks); each row that meets fmt, with fmt's text TOLD by the authors' own Lean function (tested against real Go, not proved from fmt's source: count such statements apart). THE CARD IS WHAT COUNTS. Prove the row's statement (the work); the ties are given (YtonblppkidpmlaaGreatDoorTie.lean); close each card by the builder's one call (the guide's Derived/Test/ToyasCard.lean, 'card_holds'). Laid BY PROGRAM, IN A SANDBOX (cutbox-door.mjs). By AI agents, Wed Nov 11 2026. No macro, syntax, notation, axiom, sorry.
-/
import Derived.Test.YtonblppkidpmlaaGreatDoorRows
import GoSem.ClaimSeven
namespace Go.Proofs.YtonblppkidpmlaaGreatDoor
namespace Rows

/-- THE TIED CARD OF 'shelfmarklaw05.PlainChecks'. -/
def plainChecksCard : Claim7 := { stood := { row := plainChecksRow, standIns := [], harness := (true, "d6e3f960bd355a7d0298de4ed690062eb8f2d13f281fb5abe99ac82f276fbf24"), looks := false }, kinds := [], alts := [], laidByText := true, laidKinds := [.data, .pinned], laidTests := true, laidLooks := .later }
def PlainChecksCardSaid : Prop := Claim7.holds Tryz.pinned (.plain (OpenSpec.ofChange plainChecksSpec)) plainChecksCard

/-- THE TIED CARD OF 'shelfmarklaw05.PlainPages'. -/
def plainPagesCard : Claim7 := { stood := { row := plainPagesRow, standIns := [], harness := (true, "d6e3f960bd355a7d0298de4ed690062eb8f2d13f281fb5abe99ac82f276fbf24"), looks := false }, kinds := [], alts := [], laidByText := true, laidKinds := [.data, .pinned], laidTests := true, laidLooks := .later }
def PlainPagesCardSaid : Prop := Claim7.holds Tryz.pinned (.plain (OpenSpec.ofChange plainPagesSpec)) plainPagesCard

/-- THE TIED CARD OF 'shelfmarklaw05.PlainCas'. -/
def plainCasCard : Claim7 := { stood := { row := plainCasRow, standIns := [], harness := (true, "d6e3f960bd355a7d0298de4ed690062eb8f2d13f281fb5abe99ac82f276fbf24"), looks := false }, kinds := [], alts := [], laidByText := true, laidKinds := [.data, .pinned], laidTests := true, laidLooks := .later }
def PlainCasCardSaid : Prop := Claim7.holds Tryz.pinned (.plain (OpenSpec.ofChange plainCasSpec)) plainCasCard

/-- THE TIED CARD OF 'shelfmarklaw05.PlainQueries'. -/
def plainQueriesCard : Claim7 := { stood := { row := plainQueriesRow, standIns := [], harness := (true, "d6e3f960bd355a7d0298de4ed690062eb8f2d13f281fb5abe99ac82f276fbf24"), looks := false }, kinds := [], alts := [], laidByText := true, laidKinds := [.data, .pinned], laidTests := true, laidLooks := .later }
def PlainQueriesCardSaid : Prop := Claim7.holds Tryz.pinned (.plain (OpenSpec.ofChange plainQueriesSpec)) plainQueriesCard

/-- THE TIED CARD OF 'shelfmarklaw05.PlainDoes'. -/
def plainDoesCard : Claim7 := { stood := { row := plainDoesRow, standIns := [], harness := (true, "d6e3f960bd355a7d0298de4ed690062eb8f2d13f281fb5abe99ac82f276fbf24"), looks := false }, kinds := [], alts := [], laidByText := true, laidKinds := [.data, .pinned], laidTests := true, laidLooks := .later }
def PlainDoesCardSaid : Prop := Claim7.holds Tryz.pinned (.plain (OpenSpec.ofChange plainDoesSpec)) plainDoesCard

/-- THE TIED CARD OF 'shelfmarklaw05.PlainKeeps'. -/
def plainKeepsCard : Claim7 := { stood := { row := plainKeepsRow, standIns := [], harness := (true, "d6e3f960bd355a7d0298de4ed690062eb8f2d13f281fb5abe99ac82f276fbf24"), looks := false }, kinds := [], alts := [], laidByText := true, laidKinds := [.data, .pinned], laidTests := true, laidLooks := .later }
def PlainKeepsCardSaid : Prop := Claim7.holds Tryz.pinned (.plain (OpenSpec.ofChange plainKeepsSpec)) plainKeepsCard

/-- THE SECOND FORM's CARD OF 'shelfmarklaw05.PlainChecks'. -/
def plainChecksUptoCard : Claim7 := { stood := { row := plainChecksUptoRow, standIns := [], harness := (true, "d6e3f960bd355a7d0298de4ed690062eb8f2d13f281fb5abe99ac82f276fbf24"), looks := false }, kinds := [], alts := [], laidByText := true, laidKinds := [.data, .pinned], laidTests := true, laidLooks := .later }
def PlainChecksUptoCardSaid : Prop := Claim7.holds Tryz.pinned (.plain (OpenSpec.upto plainChecksSpec)) plainChecksUptoCard

/-- THE SECOND FORM's CARD OF 'shelfmarklaw05.PlainPages'. -/
def plainPagesUptoCard : Claim7 := { stood := { row := plainPagesUptoRow, standIns := [], harness := (true, "d6e3f960bd355a7d0298de4ed690062eb8f2d13f281fb5abe99ac82f276fbf24"), looks := false }, kinds := [], alts := [], laidByText := true, laidKinds := [.data, .pinned], laidTests := true, laidLooks := .later }
def PlainPagesUptoCardSaid : Prop := Claim7.holds Tryz.pinned (.plain (OpenSpec.upto plainPagesSpec)) plainPagesUptoCard

/-- THE SECOND FORM's CARD OF 'shelfmarklaw05.PlainCas'. -/
def plainCasUptoCard : Claim7 := { stood := { row := plainCasUptoRow, standIns := [], harness := (true, "d6e3f960bd355a7d0298de4ed690062eb8f2d13f281fb5abe99ac82f276fbf24"), looks := false }, kinds := [], alts := [], laidByText := true, laidKinds := [.data, .pinned], laidTests := true, laidLooks := .later }
def PlainCasUptoCardSaid : Prop := Claim7.holds Tryz.pinned (.plain (OpenSpec.upto plainCasSpec)) plainCasUptoCard

/-- THE SECOND FORM's CARD OF 'shelfmarklaw05.PlainQueries'. -/
def plainQueriesUptoCard : Claim7 := { stood := { row := plainQueriesUptoRow, standIns := [], harness := (true, "d6e3f960bd355a7d0298de4ed690062eb8f2d13f281fb5abe99ac82f276fbf24"), looks := false }, kinds := [], alts := [], laidByText := true, laidKinds := [.data, .pinned], laidTests := true, laidLooks := .later }
def PlainQueriesUptoCardSaid : Prop := Claim7.holds Tryz.pinned (.plain (OpenSpec.upto plainQueriesSpec)) plainQueriesUptoCard

/-- THE SECOND FORM's CARD OF 'shelfmarklaw05.PlainDoes'. -/
def plainDoesUptoCard : Claim7 := { stood := { row := plainDoesUptoRow, standIns := [], harness := (true, "d6e3f960bd355a7d0298de4ed690062eb8f2d13f281fb5abe99ac82f276fbf24"), looks := false }, kinds := [], alts := [], laidByText := true, laidKinds := [.data, .pinned], laidTests := true, laidLooks := .later }
def PlainDoesUptoCardSaid : Prop := Claim7.holds Tryz.pinned (.plain (OpenSpec.upto plainDoesSpec)) plainDoesUptoCard

/-- THE SECOND FORM's CARD OF 'shelfmarklaw05.PlainKeeps'. -/
def plainKeepsUptoCard : Claim7 := { stood := { row := plainKeepsUptoRow, standIns := [], harness := (true, "d6e3f960bd355a7d0298de4ed690062eb8f2d13f281fb5abe99ac82f276fbf24"), looks := false }, kinds := [], alts := [], laidByText := true, laidKinds := [.data, .pinned], laidTests := true, laidLooks := .later }
def PlainKeepsUptoCardSaid : Prop := Claim7.holds Tryz.pinned (.plain (OpenSpec.upto plainKeepsSpec)) plainKeepsUptoCard
end Rows
end Go.Proofs.YtonblppkidpmlaaGreatDoor
