/- Tags and link addresses that are compared with themselves. -/
import Derived.Test.YtpjpfmnnefgnbaaFacts
import Derived.Test.YtpjpfmnnefgnbaaS07
namespace Go.Proofs.Ytpjpfmnnefgnbaa
set_option linter.unusedVariables false
set_option linter.unusedSimpArgs false
open Go Go.RowKit

end Go.Proofs.Ytpjpfmnnefgnbaa
