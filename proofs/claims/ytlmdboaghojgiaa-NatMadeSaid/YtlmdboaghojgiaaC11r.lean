import Derived.Test.YtlmdboaghojgiaaC11n
import Derived.Test.YtlmdboaghojgiaaC07
import Derived.Test.YtlmdboaghojgiaaC08
import Derived.Test.YtlmdboaghojgiaaC09e
import Derived.Test.YtlmdboaghojgiaaC11
namespace Go.Proofs.Ytlmdboaghojgiaa
open Go.RowKit
set_option linter.unusedVariables false
set_option linter.unusedSimpArgs false
set_option maxRecDepth 4000
end Go.Proofs.Ytlmdboaghojgiaa
