/- The ends of PortSpoilt and PortFlags. -/
import Derived.Test.YtnlmppannjebfaaT10
namespace Go.Proofs.Ytnlmppannjebfaa
/-! ## PortFlags -/
end Go.Proofs.Ytnlmppannjebfaa
