/- Link headers that come in. -/
import Derived.Test.YtpjpfmnnefgnbaaQJ
import Derived.Test.YtpjpfmnnefgnbaaFacts
import Derived.Test.YtpjpfmnnefgnbaaS07
namespace Go.Proofs.Ytpjpfmnnefgnbaa
set_option linter.unusedVariables false
set_option linter.unusedSimpArgs false
open Go Go.RowKit Go.ChangeShapes Go.WideShapes

section
variable {H : Type} {enc : TypeId × Value → H} {w : World} {cs : List Value}
theorem cz_int : Try.prog.cellsOf 3 = 1 := by kernel_rfl
theorem cz_u8 : Try.prog.cellsOf 5 = 1 := by kernel_rfl
end
end Go.Proofs.Ytpjpfmnnefgnbaa
