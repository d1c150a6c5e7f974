/- What layer 13's laws need, in plain Lean. -/
import Derived.Test.YtpjpfmnnefgnbaaS13
namespace Go.Proofs.Ytpjpfmnnefgnbaa
set_option linter.unusedVariables false
set_option linter.unusedSimpArgs false
open Go

def adrA : Adr := ⟨false, [1, 2, 3, 4, 0, 0, 0, 0, 0, 0, 0, 0, 0, 0, 0, 0]⟩
/-! ## What is wrapped, read -/
section
variable {l m : List UInt8} {A D : Adr}
end
end Go.Proofs.Ytpjpfmnnefgnbaa
