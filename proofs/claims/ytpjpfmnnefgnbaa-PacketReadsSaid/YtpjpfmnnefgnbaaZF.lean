/- Fields of struct values. -/
import Derived.Test.YtpjpfmnnefgnbaaZ
namespace Go.Proofs.Ytpjpfmnnefgnbaa
set_option linter.unusedVariables false
set_option linter.unusedSimpArgs false
open Go Go.RowKit
def aggD : TypeDesc → Bool
  | .struct _ => true
  | .array _ _ => true
  | _ => false
section
variable {P : Program} {d : Option Tmp} {t ty : TypeId} {x : Operand} {pos : String} {af : Array Edge} {gd : Option (Nat × Bool)} {a : Act} {w : World}
theorem ok_fieldC {fs : Array Field} {k : Nat} {D : TypeDesc} {cs : List Value} (o : Nat) (fT : TypeId) (c : Value) (hT : P.underlying t = some (.struct fs)) (hf : ∃ f, fs[k]? = some f ∧ f.type = fT ∧ f.offset = o) (hF : P.underlying fT = some D) (hD : aggD D = false)
    (hx : a.eval x = .agg cs.toArray) (hc : cs[o]? = some c) : OpOk P ⟨d, .field t x k, ty, pos, af, gd⟩ a w (Is c) := by
  obtain ⟨f, hf, rfl, rfl⟩ := hf
  exact ok_fieldV hT hf hF (by cases D <;> first | rfl | (exact absurd hD (by simp [aggD]))) hx hc
end
end Go.Proofs.Ytpjpfmnnefgnbaa
