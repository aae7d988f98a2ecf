import Derived.Test.YtonblppkidpmlaaGreatDoorMp
import Derived.Test.YtonblppkidpmlaaGreatDoorMo
namespace Go.Proofs.YtonblppkidpmlaaGreatDoor.E
open Go Go.RowKit
set_option linter.unusedSimpArgs false
set_option linter.unusedVariables false

def oG (k : ByteArray) : OpP := ⟨3, k, eB, [], [], 0, [], [], [], 0, 0, 0⟩
def oC (k : ByteArray) (old one : List ValT) : OpP := ⟨4, k, eB, one, old, 0, [], [], [], 0, 0, 0⟩
theorem oG_at (w : World) {k : ByteArray} (h : k.size ≤ maxLen) : OpAt w (oG k) sN := ⟨vals_nil _, vals_nil _, ints_nil _, vals_nil _, vals_nil _, by dsimp only [oG, oC]; decide, ⟨h, by show eB.size ≤ maxLen; decide⟩⟩
theorem chk_oG (k : ByteArray) : chk (oG k) = mustE (keyOk k) := rfl
end Go.Proofs.YtonblppkidpmlaaGreatDoor.E
