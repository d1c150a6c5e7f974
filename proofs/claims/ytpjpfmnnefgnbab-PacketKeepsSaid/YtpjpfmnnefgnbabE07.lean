/- Tags and link addresses that are compared with themselves. -/
import Derived.Test.YtpjpfmnnefgnbabFacts
import Derived.Test.YtpjpfmnnefgnbabS07
namespace Go.Proofs.Ytpjpfmnnefgnbab
set_option linter.unusedVariables false
set_option linter.unusedSimpArgs false
open Go Go.RowKit

end Go.Proofs.Ytpjpfmnnefgnbab
