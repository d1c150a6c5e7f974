/- What NatMade and NatBack need: in plain Lean. -/
import Derived.Test.YtlmdboaghojgiaaE12K
namespace Go.Proofs.Ytlmdboaghojgiaa
set_option linter.unusedVariables false
set_option linter.unusedSimpArgs false
open Go
section
variable {L : LinkL} {T : TupL} {f n p : Int} {load l : List UInt8} {A B : Adr}
theorem Qod (hL : Q2i L) (hT : Q3f T) (hw : whyL L T f load.length = 0) (h : ((!ofB T.src.six A || decide (n < 0)) || decide (n > 65535)) = true) : Q75 (Q1h L T f load) A n = false := by
  cases hk : Q75 (Q1h L T f load) A n with
  | false => rfl
  | true =>
    have P := Qn1 hk
    have M := Q7a (f := f) (load := load) hL hT hw
    have h6 := P.six
    have hs := P.short
    have hp := P.port
    rw [M.six] at h6 hs
    have hof : ofB T.src.six A = true := by
      unfold ofB
      rw [h6]
      cases h9 : T.src.six with
      | true => rfl
      | false => simp [hs h9]
    rw [hof] at h
    simp at h
    omega
theorem Qoe (h : ((!ofB T.src.six A || decide (n < 0)) || decide (n > 65535)) = false) : ofB T.src.six A = true ∧ 0 ≤ n ∧ n ≤ 65535 := by
  simp only [Bool.or_eq_false_iff, Bool.not_eq_false', decide_eq_false_iff_not] at h
  exact ⟨h.1.1, by omega⟩
end
end Go.Proofs.Ytlmdboaghojgiaa
