/- Plain laws of layer 6: InetChange, InetOrder. -/
import Derived.Test.YtpjpfmnnefgnbaaL06
namespace Go.Proofs.Ytpjpfmnnefgnbaa
set_option linter.unusedVariables false
set_option linter.unusedSimpArgs false

/-- The bytes of words, one behind another. -/
def enc : List Int → List UInt8
  | [] => []
  | x :: r => b8 (x / 2 ^ 8) :: b8 x :: enc r
end Go.Proofs.Ytpjpfmnnefgnbaa
