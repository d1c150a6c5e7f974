/- The statements of layer 7, in plain Lean. -/
import Derived.Test.YtnlmppannjebfaaS07
import Derived.Test.YtnlmppannjebfaaT08
namespace Go.Proofs.Ytnlmppannjebfaa
set_option linter.unusedVariables false
set_option linter.unusedSimpArgs false
open Go

section
variable {l d s : List UInt8}
end
end Go.Proofs.Ytnlmppannjebfaa
