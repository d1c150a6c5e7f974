/- What layer 12's laws need: in plain Lean. -/
import Derived.Test.YtlmdboaghojgiaaE12
import Derived.Test.YtlmdboaghojgiaaE11K
import Derived.Test.YtlmdboaghojgiaaS12V
namespace Go.Proofs.Ytlmdboaghojgiaa
set_option linter.unusedVariables false
set_option linter.unusedSimpArgs false
open Go

def adrN : Adr := ⟨false, [10, 0, 0, 9, 0, 0, 0, 0, 0, 0, 0, 0, 0, 0, 0, 0]⟩
def someN : TupL := ⟨adrA, adrN, 6, 1000, 8080⟩
theorem someN_ok : TupOk someN := ⟨rfl, rfl⟩
def mkN : List UInt8 := makeL link0 someN 2 hi11
theorem aw_r : linkRight (typedL link0 some11.src.six) = true := by decide +kernel
theorem aw_m : mayL some11 2 = true := by decide +kernel
theorem aw_n : (hi11.length : Int) + (headL some11 : Int) + (if some11.src.six then 0 else 20) ≤ 65535 := by decide +kernel
theorem aw_rN : linkRight (typedL link0 someN.src.six) = true := by decide +kernel
theorem aw_mN : mayL someN 2 = true := by decide +kernel
theorem aw_nN : (hi11.length : Int) + (headL someN : Int) + (if someN.src.six then 0 else 20) ≤ 65535 := by decide +kernel
theorem aw_to : natR ([] ++ mk11 ++ [1, 2]) adrN 8080 true = (mkN, 0) := by decide +kernel
theorem aw_from : natR mk11 adrA 1000 false = (mk11, 0) := by decide +kernel
theorem aw_no : natR mk11 adrN 65536 true = ([], 1) := by decide +kernel
theorem adr_one2 {A : Adr} : ∀ u ∈ ([[Value.bool A.six], A.b.map byteV] : List (List Value)).flatten, u.oneCell' = true := by
  intro u hu
  simp only [List.flatten_cons, List.flatten_nil, List.mem_append, List.mem_cons, List.mem_map, List.not_mem_nil, or_false] at hu
  rcases hu with h | ⟨c, _, h⟩ <;> subst h <;> rfl
section
variable {l m : List UInt8} {A B : Adr} {n p : Int} {dst : Bool}
theorem natR_same : (natR2 l A n dst).1 = (natR l A n dst).1 := by unfold natR natR2; split <;> rfl
theorem natR_dead {d2 : Bool} : ((((((natR2 l A n dst).2 != ((natR l A n dst).2 == 0)) || ((natR2 l A n d2).2 != ((natR l A n d2).2 == 0))) || (!(natR2 l A n dst).2 && ((natR l A n dst).2 != 1))) || (!(natR2 l A n d2).2 && ((natR l A n d2).2 != 1)))) = false := by
  unfold natR natR2
  cases natOk l A n <;> rfl
end
end Go.Proofs.Ytlmdboaghojgiaa
