/- The ends of PortSpoilt and PortFlags. -/
import Derived.Test.YtnlmppannjebfaaT10
namespace Go.Proofs.Ytnlmppannjebfaa
set_option linter.unusedVariables false
set_option linter.unusedSimpArgs false
/-! ## PortFlags -/
end Go.Proofs.Ytnlmppannjebfaa
