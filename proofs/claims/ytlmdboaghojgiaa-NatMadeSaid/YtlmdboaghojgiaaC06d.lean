import Derived.Test.YtlmdboaghojgiaaC06
import Derived.Test.YtlmdboaghojgiaaW
namespace Go.Proofs.Ytlmdboaghojgiaa
open Go.RowKit
set_option linter.unusedVariables false
set_option linter.unusedSimpArgs false
set_option maxRecDepth 4000
end Go.Proofs.Ytlmdboaghojgiaa
