/- Frames changed in one place, in plain Lean; answers that layer 11 fixes. -/
import Derived.Test.YtlmdboaghojgiaaE11
namespace Go.Proofs.Ytlmdboaghojgiaa
set_option linter.unusedVariables false
set_option linter.unusedSimpArgs false
open Go

/-! ## A header's checksum, mended -/
/-! ## Frames of IPv4 without tags -/
section
variable {T : TupL} {f : Int} {load : List UInt8}
end
/-! ## What awake asks -/
def adrB : Adr := ⟨false, [5, 6, 7, 8, 0, 0, 0, 0, 0, 0, 0, 0, 0, 0, 0, 0]⟩
def some11 : TupL := ⟨adrA, adrB, 6, 1000, 80⟩
theorem some11_ok : TupOk some11 := ⟨rfl, rfl⟩
def hi11 : List UInt8 := [104, 105]
def mk11 : List UInt8 := makeL link0 some11 2 hi11
theorem some11_why : whyL link0 some11 2 hi11.length = 0 := by decide +kernel
theorem mk11_len : mk11.length = 56 := makeL_len link0_ok some11_ok some11_why
section
variable {T : TupL} {load : List UInt8}
end
end Go.Proofs.Ytlmdboaghojgiaa
