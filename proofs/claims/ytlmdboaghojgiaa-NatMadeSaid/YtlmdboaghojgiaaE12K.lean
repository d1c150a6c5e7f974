/- What layer 12's laws need: in plain Lean. -/
import Derived.Test.YtlmdboaghojgiaaE12
import Derived.Test.YtlmdboaghojgiaaE11K
import Derived.Test.YtlmdboaghojgiaaS12V
namespace Go.Proofs.Ytlmdboaghojgiaa
set_option linter.unusedVariables false
set_option linter.unusedSimpArgs false
open Go

def adrN : Adr := ⟨false, [10, 0, 0, 9, 0, 0, 0, 0, 0, 0, 0, 0, 0, 0, 0, 0]⟩
def someN : TupL := ⟨adrA, adrN, 6, 1000, 8080⟩
theorem Qlx : Q3f someN := ⟨rfl, rfl⟩
def mkN : List UInt8 := Q1h Q4q someN 2 hi11
theorem aw_r : Q17 (Q1v Q4q some11.src.six) = true := by decide +kernel
theorem aw_m : mayL some11 2 = true := by decide +kernel
theorem aw_n : (hi11.length : Int) + (Q2w some11 : Int) + (if some11.src.six then 0 else 20) ≤ 65535 := by decide +kernel
theorem Qs1 : Q17 (Q1v Q4q someN.src.six) = true := by decide +kernel
theorem Qs2 : mayL someN 2 = true := by decide +kernel
theorem Qs3 : (hi11.length : Int) + (Q2w someN : Int) + (if someN.src.six then 0 else 20) ≤ 65535 := by decide +kernel
theorem Qhh : natR ([] ++ mk11 ++ [1, 2]) adrN 8080 true = (mkN, 0) := by decide +kernel
theorem Qk1 : natR mk11 adrA 1000 false = (mk11, 0) := by decide +kernel
theorem Qs4 : natR mk11 adrN 65536 true = ([], 1) := by decide +kernel
theorem Qce {A : Adr} : ∀ u ∈ ([[Value.bool A.six], A.b.map Q0t] : List (List Value)).flatten, u.oneCell' = true := by
  intro u hu
  simp only [List.flatten_cons, List.flatten_nil, List.mem_append, List.mem_cons, List.mem_map, List.not_mem_nil, or_false] at hu
  rcases hu with h | ⟨c, _, h⟩ <;> subst h <;> rfl
theorem Qgg {A : Adr} (hA : A.b.length = 16) : ([[Value.bool A.six], A.b.map Q0t] : List (List Value)).flatten.length = 17 := by simp [hA]
section
variable {l m : List UInt8} {A B : Adr} {n p : Int} {dst : Bool}
theorem Qof (P : NatP l A n) : Q75 l A n = true := by
  refine Qqr P.fine ?_ P.port
  unfold ofB
  rw [P.six]
  cases h : Q1k l with
  | true => rfl
  | false => simp [P.short h]
end
end Go.Proofs.Ytlmdboaghojgiaa
