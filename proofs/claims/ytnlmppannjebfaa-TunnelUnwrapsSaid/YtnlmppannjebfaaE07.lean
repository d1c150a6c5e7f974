/- Tags and link addresses that are compared with themselves. -/
import Derived.Test.YtnlmppannjebfaaFacts
import Derived.Test.YtnlmppannjebfaaS07
namespace Go.Proofs.Ytnlmppannjebfaa
set_option linter.unusedVariables false
set_option linter.unusedSimpArgs false
open Go Go.RowKit

theorem sihTag : Try.prog.stoodInHeld 74 = false := by kernel_rfl
theorem eq_six6 {l : List UInt8} (h : l.length = 6) : EqSelf Try.prog 10000 38 (.agg (l.map byteV).toArray) :=
  EqSelf.bytes Try.underlying38 Try.underlying5 size5 h
theorem eq_tag (x : TagL) : EqSelf Try.prog 10000 74 (.agg (tagR.f x).toArray) := by
  refine EqSelf.struct Try.underlying74 sihTag fun f hf => ?_
  simp only [List.mem_cons, List.not_mem_nil, or_false] at hf
  rcases hf with rfl | rfl
  · exact ⟨_, part_one Try.underlying3 rfl rfl, EqSelf.int Try.underlying3⟩
  · exact ⟨_, part_one Try.underlying3 rfl rfl, EqSelf.int Try.underlying3⟩
end Go.Proofs.Ytnlmppannjebfaa
