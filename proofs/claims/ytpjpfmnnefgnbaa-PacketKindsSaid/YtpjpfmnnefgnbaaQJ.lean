/- Rows of structs, and arrays, that come in. -/
import Derived.Test.YtpjpfmnnefgnbaaF
import Derived.Test.YtpjpfmnnefgnbaaJ
namespace Go.Proofs.Ytpjpfmnnefgnbaa
set_option linter.unusedVariables false
set_option linter.unusedSimpArgs false
open Go Go.RowKit Go.ChangeShapes Go.WideShapes

theorem cells_cut {α : Type} : ∀ (ls : List Nat) (cs : List α), cs.length = ls.sum → cs = ((List.range ls.length).map fun i => (cs.drop (ls.take i).sum).take (ls.getD i 0)).flatten := by
  intro ls
  induction ls with
  | nil => intro cs h; simpa using h
  | cons n ls ih =>
    intro cs h
    have := ih (cs.drop n) (by simp at h ⊢; omega)
    rw [List.length_cons, List.range_succ_eq_map]
    simp only [List.map_cons, List.flatten_cons, List.map_map]
    conv => lhs; rw [← List.take_append_drop n cs]
    congr 1
    rw [this]
    congr 1
    simp only [Function.comp_def, List.take_succ_cons, List.sum_cons, List.drop_drop]
    rfl
section
variable {H : Type} {enc : TypeId × Value → H} {P : Program} {w : World} {t e : TypeId} {cs : List Value} {α : Type} {R : RT α}
end
end Go.Proofs.Ytpjpfmnnefgnbaa
