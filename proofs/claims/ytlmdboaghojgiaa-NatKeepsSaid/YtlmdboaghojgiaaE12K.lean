/- What layer 12's laws need: in plain Lean. -/
import Derived.Test.YtlmdboaghojgiaaE12
import Derived.Test.YtlmdboaghojgiaaE11K
import Derived.Test.YtlmdboaghojgiaaS12V
namespace Go.Proofs.Ytlmdboaghojgiaa
set_option linter.unusedVariables false
set_option linter.unusedSimpArgs false
open Go

def adrN : Adr := ⟨false, [10, 0, 0, 9, 0, 0, 0, 0, 0, 0, 0, 0, 0, 0, 0, 0]⟩
def someN : TupL := ⟨adrA, adrN, 6, 1000, 8080⟩
theorem Qjv : Q9z someN := ⟨rfl, rfl⟩
def mkN : List UInt8 := Q85 Q43 someN 2 hi11
theorem aw_r : Q37 (Q36 Q43 some11.src.six) = true := by decide +kernel
theorem aw_m : mayL some11 2 = true := by decide +kernel
theorem aw_n : (hi11.length : Int) + (Q4x some11 : Int) + (if some11.src.six then 0 else 20) ≤ 65535 := by decide +kernel
theorem Qpc : Q37 (Q36 Q43 someN.src.six) = true := by decide +kernel
theorem Qpd : mayL someN 2 = true := by decide +kernel
theorem Qpe : (hi11.length : Int) + (Q4x someN : Int) + (if someN.src.six then 0 else 20) ≤ 65535 := by decide +kernel
theorem Qg0 : natR ([] ++ mk11 ++ [1, 2]) adrN 8080 true = (mkN, 0) := by decide +kernel
theorem Qh4 : natR mk11 adrA 1000 false = (mk11, 0) := by decide +kernel
theorem Qpf : natR mk11 adrN 65536 true = ([], 1) := by decide +kernel
theorem Qju {A : Adr} : ∀ u ∈ ([[Value.bool A.six], A.b.map Q0z] : List (List Value)).flatten, u.oneCell' = true := by
  intro u hu
  simp only [List.flatten_cons, List.flatten_nil, List.mem_append, List.mem_cons, List.mem_map, List.not_mem_nil, or_false] at hu
  rcases hu with h | ⟨c, _, h⟩ <;> subst h <;> rfl
section
variable {l m : List UInt8} {A B : Adr} {n p : Int} {dst : Bool}
theorem Qby : (Qcl l A n dst).1 = (natR l A n dst).1 := by unfold natR Qcl; split <;> rfl
end
end Go.Proofs.Ytlmdboaghojgiaa
