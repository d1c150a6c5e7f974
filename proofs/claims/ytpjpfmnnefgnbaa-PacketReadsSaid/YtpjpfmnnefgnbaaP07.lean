/- The statements of layer 7, in plain Lean. -/
import Derived.Test.YtpjpfmnnefgnbaaS07
import Derived.Test.YtpjpfmnnefgnbaaT08
namespace Go.Proofs.Ytpjpfmnnefgnbaa
set_option linter.unusedVariables false
set_option linter.unusedSimpArgs false
open Go

theorem linkPut_no {L : LinkL} (h : ((linkPutR L).2 != 0) = true) : linkRight L = false ∧ (linkPutR L).1 = [] := by
  unfold linkPutR at h ⊢
  cases hr : linkRight L with
  | false => exact ⟨rfl, rfl⟩
  | true => rw [if_pos hr] at h; simp at h
theorem linkPut_yes {L : LinkL} (h : ((linkPutR L).2 != 0) = false) : linkRight L = true ∧ linkPutR L = (linkPut L, 0) := by
  unfold linkPutR at h ⊢
  cases hr : linkRight L with
  | true => exact ⟨rfl, rfl⟩
  | false => rw [if_neg (by rw [hr]; decide)] at h; simp at h
section
variable {l d s : List UInt8}
end
end Go.Proofs.Ytpjpfmnnefgnbaa
