/- Plain laws of layer 6: InetChange, InetOrder. -/
import Derived.Test.YtpjpfmnnefgnbaaS06
namespace Go.Proofs.Ytpjpfmnnefgnbaa
set_option linter.unusedVariables false
set_option linter.unusedSimpArgs false

theorem sumTo_le (l : List UInt8) : ∀ k, sumTo l k ≤ 65535 * (k : Int)
  | 0 => by simp [sumTo]
  | k + 1 => by have h1 := sumTo_le l k; have h2 := wordAt_bd l (2 * k); unfold sumTo; omega
def enc : List Int → List UInt8
  | [] => []
  | x :: r => b8 (x / 2 ^ 8) :: b8 x :: enc r
end Go.Proofs.Ytpjpfmnnefgnbaa
