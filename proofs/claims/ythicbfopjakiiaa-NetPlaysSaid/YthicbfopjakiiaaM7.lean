import Derived.Test.YthicbfopjakiiaaM6
import Derived.Lib.ConvBytes
namespace Go.Proofs.Ythicbfopjakiiaa.E
open Go Go.RowKit
set_option linter.unusedSimpArgs false
set_option linter.unusedVariables false

theorem Join_spec (v : Value) (bss : List (List UInt8)) (w : World) (hv : RdSS w v bss) (hl : bss.length ≤ 1000000) (ht : bss.flatten.length ≤ 1000000000) :
    CallP Try.prog 54 #[v] (fun r w' => Own 5 w' r (bss.flatten.map u8) ∧ Fresh w.heap.size r ∧ Below w.heap.size w w') w := by
  refine ⟨S54.calls _ _ _ ?_⟩
  unfold S54
  exact (Concat_spec v bss w hv hl ht).mono fun _ _ h => h
end Go.Proofs.Ythicbfopjakiiaa.E
namespace Go.Proofs.Ythicbfopjakiiaa.E
open Go Go.RowKit
set_option linter.unusedSimpArgs false
set_option linter.unusedVariables false

theorem sz102 : (Try.prog.info? 102).map (·.size) = some 1 := by kernel_rfl
theorem und103 : Try.prog.underlying 103 = some (.slice 102) := by kernel_rfl
theorem one102 : oneB Try.prog 102 = true := by kernel_rfl
end Go.Proofs.Ythicbfopjakiiaa.E
