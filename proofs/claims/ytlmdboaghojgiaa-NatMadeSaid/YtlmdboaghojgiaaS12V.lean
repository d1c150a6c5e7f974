/- Rewriting, as the document goes about it, in plain Lean. -/
import Derived.Test.YtlmdboaghojgiaaS12W
namespace Go.Proofs.Ytlmdboaghojgiaa
set_option linter.unusedVariables false
set_option linter.unusedSimpArgs false
open Go
section
variable {l : List UInt8}
end
end Go.Proofs.Ytlmdboaghojgiaa
