import Derived.Test.YthicbfopjakiiaaM4
namespace Go.Proofs.Ythicbfopjakiiaa.E
open Go Go.RowKit
set_option linter.unusedSimpArgs false
set_option linter.unusedVariables false

end Go.Proofs.Ythicbfopjakiiaa.E
namespace Go.Proofs.Ythicbfopjakiiaa.E
open Go Go.RowKit
set_option linter.unusedSimpArgs false
set_option linter.unusedVariables false

theorem p0 : fofs Try.prog 109 0 = some (0, 1) := by kernel_rfl
theorem p4 : fofs Try.prog 109 4 = some (4, 1) := by kernel_rfl
theorem one25 : oneB Try.prog 25 = true := by kernel_rfl
end Go.Proofs.Ythicbfopjakiiaa.E
namespace Go.Proofs.Ythicbfopjakiiaa.E
open Go Go.RowKit
set_option linter.unusedSimpArgs false
set_option linter.unusedVariables false

end Go.Proofs.Ythicbfopjakiiaa.E
