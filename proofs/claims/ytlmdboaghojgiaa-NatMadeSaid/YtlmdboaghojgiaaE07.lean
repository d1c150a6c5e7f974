/- Tags and link addresses that are compared with themselves. -/
import Derived.Test.YtlmdboaghojgiaaFacts
import Derived.Test.YtlmdboaghojgiaaS07
namespace Go.Proofs.Ytlmdboaghojgiaa
set_option linter.unusedVariables false
set_option linter.unusedSimpArgs false
open Go Go.RowKit

end Go.Proofs.Ytlmdboaghojgiaa
