import Derived.Test.YtpjpfmnnefgnbaaC11
import Derived.Test.YtpjpfmnnefgnbaaE11
import Derived.Test.YtpjpfmnnefgnbaaC07
namespace Go.Proofs.Ytpjpfmnnefgnbaa
open Go.RowKit
set_option linter.unusedVariables false
set_option linter.unusedSimpArgs false
set_option maxRecDepth 4000
end Go.Proofs.Ytpjpfmnnefgnbaa
