import Derived.Test.YtpjpfmnnefgnbaaC06
import Derived.Test.YtpjpfmnnefgnbaaM06
import Derived.Test.YtpjpfmnnefgnbaaS11
import Derived.Test.YtpjpfmnnefgnbaaC08
import Derived.Test.YtpjpfmnnefgnbaaC07
import Derived.Test.YtpjpfmnnefgnbaaC09m
namespace Go.Proofs.Ytpjpfmnnefgnbaa
open Go.RowKit
set_option linter.unusedVariables false
set_option linter.unusedSimpArgs false
set_option maxRecDepth 4000
end Go.Proofs.Ytpjpfmnnefgnbaa
