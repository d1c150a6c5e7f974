/- The statements of layer 7, in plain Lean. -/
import Derived.Test.YtnlmppannjebfaaS07
import Derived.Test.YtnlmppannjebfaaT08
namespace Go.Proofs.Ytnlmppannjebfaa
open Go

section
variable {l d s : List UInt8}
end
end Go.Proofs.Ytnlmppannjebfaa
