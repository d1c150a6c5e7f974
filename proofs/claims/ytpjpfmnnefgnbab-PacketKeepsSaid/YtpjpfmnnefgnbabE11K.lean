/- Frames changed in one place, in plain Lean; answers that layer 11 fixes. -/
import Derived.Test.YtpjpfmnnefgnbabE11
namespace Go.Proofs.Ytpjpfmnnefgnbab
set_option linter.unusedVariables false
set_option linter.unusedSimpArgs false
open Go

/-! ## A header's checksum, mended -/
/-! ## Frames of IPv4 without tags -/
section
variable {T : TupL} {f : Int} {load : List UInt8}
end
/-! ## What awake asks -/
def adrB : Adr := ⟨false, [5, 6, 7, 8, 0, 0, 0, 0, 0, 0, 0, 0, 0, 0, 0, 0]⟩
def some11 : TupL := ⟨adrA, adrB, 6, 1000, 80⟩
theorem some11_ok : TupOk some11 := ⟨rfl, rfl⟩
def hi11 : List UInt8 := [104, 105]
def mk11 : List UInt8 := makeL link0 some11 2 hi11
theorem some11_why : whyL link0 some11 2 hi11.length = 0 := by decide +kernel
theorem tup0_why : whyL link0 tup0 0 ([] : List UInt8).length = 1 := by decide +kernel
theorem mk11_len : mk11.length = 56 := makeL_len link0_ok some11_ok some11_why
theorem mk11_read : pktRead mk11 = ⟨0, some11, 2, 14, 34, 56⟩ := by
  have := (make_all (L := link0) (f := 2) (load := hi11) link0_ok some11_ok some11_why []).2.2.2.2
  rw [List.append_nil] at this
  exact this
theorem z13_read : pktRead (List.replicate 13 0) = give 1 := by unfold pktRead; rw [if_pos (by decide +kernel)]
theorem z14_read : pktRead (List.replicate 14 0) = give 2 := by unfold pktRead; rw [if_neg (by decide +kernel), if_pos (by decide +kernel)]
section
variable {T : TupL} {load : List UInt8}
end
end Go.Proofs.Ytpjpfmnnefgnbab
