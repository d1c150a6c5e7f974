import Derived.Test.YtpjpfmnnefgnbaaX
import Derived.OpenShut
/-!
What the frame of a statement tells of an argument, in the walk's words (my own text).
-/
namespace Go.Proofs.Ytpjpfmnnefgnbaa
set_option linter.unusedVariables false
set_option linter.unusedSimpArgs false
open Go Go.RowKit

/-- The byte of a number that fits. -/
theorem byte_of_wf {n : Int} (h : (Lit.int .u8 n).wf = true) : Value.int .u8 n = byteV (UInt8.ofNat n.toNat) := by
  simp only [Lit.wf, IntKind.min, IntKind.max, Bool.and_eq_true, decide_eq_true_eq] at h
  have h0 : (0 : Int) ≤ n := by simpa [IntKind.signed] using h.1
  have h1 : n ≤ 255 := by
    have := h.2
    simpa [IntKind.signed, IntKind.bits] using this
  unfold byteV
  congr 1
  simp
  omega

/-- What a law's walk comes to. -/
theorem law_done {w w' : World} {e : Ending} (h : Ret (Is (.bool true)) w e w') : e = .returned (.bool true) ∧ Below w.heap.size w w' := by
  obtain ⟨v, rfl, hx, rfl⟩ := h
  exact ⟨rfl, hx⟩

end Go.Proofs.Ytpjpfmnnefgnbaa
