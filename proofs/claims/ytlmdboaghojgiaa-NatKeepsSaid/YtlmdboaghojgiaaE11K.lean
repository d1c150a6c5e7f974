/- Frames Q3t in one place, in plain Lean; answers that layer 11 fixes. -/
import Derived.Test.YtlmdboaghojgiaaE11
namespace Go.Proofs.Ytlmdboaghojgiaa
set_option linter.unusedVariables false
set_option linter.unusedSimpArgs false
open Go

/-! ## A header's checksum, mended -/
/-! ## Frames of IPv4 without tags -/
section
variable {T : TupL} {f : Int} {load : List UInt8}
end
/-! ## What awake asks -/
def adrB : Adr := ⟨false, [5, 6, 7, 8, 0, 0, 0, 0, 0, 0, 0, 0, 0, 0, 0, 0]⟩
def some11 : TupL := ⟨adrA, adrB, 6, 1000, 80⟩
theorem Q8y : Q9z some11 := ⟨rfl, rfl⟩
def hi11 : List UInt8 := [104, 105]
def mk11 : List UInt8 := Q85 Q43 some11 2 hi11
theorem Qgp : whyL Q43 some11 2 hi11.length = 0 := by decide +kernel
theorem Qjt : mk11.length = 56 := Qil Q3r Q8y Qgp
section
variable {T : TupL} {load : List UInt8}
end
end Go.Proofs.Ytlmdboaghojgiaa
