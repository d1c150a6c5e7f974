/- The ends of PortSpoilt and PortFlags. -/
import Derived.Test.YtpjpfmnnefgnbaaT10
namespace Go.Proofs.Ytpjpfmnnefgnbaa
set_option linter.unusedVariables false
set_option linter.unusedSimpArgs false
/-! ## PortFlags -/
end Go.Proofs.Ytpjpfmnnefgnbaa
