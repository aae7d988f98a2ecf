import Derived.Test.YtonblppkidpmlaaGreatDoorMg
namespace Go.Proofs.YtonblppkidpmlaaGreatDoor.E
open Go Go.RowKit
set_option linter.unusedSimpArgs false
set_option linter.unusedVariables false

theorem mustE_t {b : Bool} (h : b = true) : mustE b = 0 := by rw [h]; rfl
end Go.Proofs.YtonblppkidpmlaaGreatDoor.E
