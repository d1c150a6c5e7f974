/- Plain laws of layer 6: InetChange, InetOrder. -/
import Derived.Test.YtlmdboaghojgiaaS06
namespace Go.Proofs.Ytlmdboaghojgiaa
set_option linter.unusedVariables false
set_option linter.unusedSimpArgs false

def enc : List Int → List UInt8
  | [] => []
  | x :: r => b8 (x / 2 ^ 8) :: b8 x :: enc r
theorem Qae (A D : Adr) (p n : Int) (hA : A.b.length = 16) (hD : D.b.length = 16) : (Q2n A D p n).length ≤ 40 := by
  unfold Q2n Qbd
  split <;> simp [hA, hD]
end Go.Proofs.Ytlmdboaghojgiaa
