/- Frames Q3g in one place, in plain Lean; answers that layer 11 fixes. -/
import Derived.Test.YtlmdboaghojgiaaE11
namespace Go.Proofs.Ytlmdboaghojgiaa
set_option linter.unusedVariables false
set_option linter.unusedSimpArgs false
open Go

/-! ## A header's checksum, mended -/
/-! ## Frames of IPv4 without tags -/
section
variable {T : TupL} {f : Int} {load : List UInt8}
end
/-! ## What awake asks -/
def adrB : Adr := ⟨false, [5, 6, 7, 8, 0, 0, 0, 0, 0, 0, 0, 0, 0, 0, 0, 0]⟩
def some11 : TupL := ⟨adrA, adrB, 6, 1000, 80⟩
theorem Qaf : Q3f some11 := ⟨rfl, rfl⟩
def hi11 : List UInt8 := [104, 105]
def mk11 : List UInt8 := Q1h Q4q some11 2 hi11
theorem Qhr : whyL Q4q some11 2 hi11.length = 0 := by decide +kernel
theorem Qlw : mk11.length = 56 := Q7x Q50 Qaf Qhr
section
variable {T : TupL} {load : List UInt8}
end
end Go.Proofs.Ytlmdboaghojgiaa
