import Derived.Test.YtdohlcakoamdhaaC06b
import Derived.Test.YtdohlcakoamdhaaV
namespace Go.Proofs.Ytdohlcakoamdhaa
open Go.RowKit
set_option linter.unusedVariables false
set_option maxRecDepth 4000

end Go.Proofs.Ytdohlcakoamdhaa
