import Derived.Test.YtadbpelpbaikiaaMe
namespace Go.Proofs.Ytadbpelpbaikiaa.E
open Go Go.RowKit
set_option linter.unusedSimpArgs false
set_option linter.unusedVariables false

end Go.Proofs.Ytadbpelpbaikiaa.E
