import Derived.Test.YtonblppkidpmlaaGreatDoorMr
namespace Go.Proofs.YtonblppkidpmlaaGreatDoor.E
open Go Go.RowKit
set_option linter.unusedSimpArgs false
set_option linter.unusedVariables false

end Go.Proofs.YtonblppkidpmlaaGreatDoor.E
