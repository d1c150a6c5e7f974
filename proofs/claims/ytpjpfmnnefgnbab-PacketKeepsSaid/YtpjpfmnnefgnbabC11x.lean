import Derived.Test.YtpjpfmnnefgnbabC11
import Derived.Test.YtpjpfmnnefgnbabE11
import Derived.Test.YtpjpfmnnefgnbabC07
namespace Go.Proofs.Ytpjpfmnnefgnbab
open Go.RowKit
set_option linter.unusedVariables false
set_option linter.unusedSimpArgs false
set_option maxRecDepth 4000

end Go.Proofs.Ytpjpfmnnefgnbab
