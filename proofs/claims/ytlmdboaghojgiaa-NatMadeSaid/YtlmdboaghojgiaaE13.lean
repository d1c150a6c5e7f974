/- What layer 13's laws need, in plain Lean. -/
import Derived.Test.YtlmdboaghojgiaaS13
namespace Go.Proofs.Ytlmdboaghojgiaa
set_option linter.unusedVariables false
set_option linter.unusedSimpArgs false
open Go

def adrA : Adr := ⟨false, [1, 2, 3, 4, 0, 0, 0, 0, 0, 0, 0, 0, 0, 0, 0, 0]⟩
/-! ## What is wrapped, read -/
theorem Q55 {l : List UInt8} (h : (Q0q l).2 = 0) : ¬ l.length < 20 ∧ ¬ (Q09 l 0 / 16 ≠ 4 ∨ Q09 l 0 % 16 * 4 < 20) ∧ ¬ Q09 l 0 % 16 * 4 > (l.length : Int) ∧ ¬ Q07 l 2 < Q09 l 0 % 16 * 4 ∧ ¬ Q07 l 2 > (l.length : Int) ∧ ¬ ck (l.take (Q09 l 0 % 16 * 4).toNat) ≠ 0 := by
  unfold Q0q at h
  by_cases h1 : l.length < 20
  · rw [if_pos h1] at h; cases h
  rw [if_neg h1] at h
  by_cases h2 : Q09 l 0 / 16 ≠ 4 ∨ Q09 l 0 % 16 * 4 < 20
  · rw [if_pos h2] at h; cases h
  rw [if_neg h2] at h
  by_cases h3 : Q09 l 0 % 16 * 4 > (l.length : Int)
  · rw [if_pos h3] at h; cases h
  rw [if_neg h3] at h
  by_cases h4 : Q07 l 2 < Q09 l 0 % 16 * 4
  · rw [if_pos h4] at h; cases h
  rw [if_neg h4] at h
  by_cases h5 : Q07 l 2 > (l.length : Int)
  · rw [if_pos h5] at h; cases h
  rw [if_neg h5] at h
  by_cases h6 : ck (l.take (Q09 l 0 % 16 * 4).toNat) ≠ 0
  · rw [if_pos h6] at h; cases h
  exact ⟨h1, h2, h3, h4, h5, h6⟩
section
variable {l m : List UInt8} {A D : Adr}
end
end Go.Proofs.Ytlmdboaghojgiaa
