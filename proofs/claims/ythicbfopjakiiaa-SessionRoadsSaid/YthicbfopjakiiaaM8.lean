import Derived.Test.YthicbfopjakiiaaM7
import Derived.Test.YthicbfopjakiiaaM3
namespace Go.Proofs.Ythicbfopjakiiaa.E
open Go Go.RowKit
set_option linter.unusedSimpArgs false
set_option linter.unusedVariables false

end Go.Proofs.Ythicbfopjakiiaa.E
namespace Go.Proofs.Ythicbfopjakiiaa.E
open Go Go.RowKit
set_option linter.unusedSimpArgs false
set_option linter.unusedVariables false

/-- A letter laid into new memory. -/
theorem newLet {K : Value → World → Prop} {w : World} {L : Let} {p q : Value} (hp : p.oneCell' = true) (hq : q.oneCell' = true)
    (k : ∀ w', Blk w' w.heap.size 58 (L.cells p q) → Below w.heap.size w w' → K (.pointer (some ⟨w.heap.size, 0, none⟩)) w') :
    LiftP Try.prog (Instr.alloc 58 true (.tuple #[])) (fun v w => LiftU Try.prog (Instr.storeAt 58 v (.agg (L.cells p q))) (fun _ w => K v w) w) w := by
  refine al z58 ?_
  have hR : Blk (w.alloc (.cells (Value.agg (zeroLet.cells (.slice none 0 0) (.slice none 0 0))).cells 58)) w.heap.size 58 (zeroLet.cells (.slice none 0 0) (.slice none 0 0)) := Blk.new w 58 _
  have ha := (Below.refl w.heap.size w).alloc (Nat.le_refl _) (.cells (Value.agg (zeroLet.cells (.slice none 0 0) (.slice none 0 0))).cells 58)
  refine stA hR (by exact sz58) (by rfl) (cells_one _ _ _ hp hq) ?_
  exact k _ (hR.row (L.cells p q)) (below_setRow ha (Nat.le_refl _) _)
end Go.Proofs.Ythicbfopjakiiaa.E
namespace Go.Proofs.Ythicbfopjakiiaa.E
open Go Go.RowKit
set_option linter.unusedSimpArgs false
set_option linter.unusedVariables false

end Go.Proofs.Ythicbfopjakiiaa.E
namespace Go.Proofs.Ythicbfopjakiiaa.E
open Go Go.RowKit
set_option linter.unusedSimpArgs false
set_option linter.unusedVariables false

end Go.Proofs.Ythicbfopjakiiaa.E
