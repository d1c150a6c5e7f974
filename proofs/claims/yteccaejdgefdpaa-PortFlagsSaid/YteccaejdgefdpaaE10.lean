/- Headers of TCP and UDP that are compared with themselves; that come in. -/
import Derived.Test.YteccaejdgefdpaaFacts
import Derived.Test.YteccaejdgefdpaaT10
namespace Go.Proofs.Yteccaejdgefdpaa
open Go Go.RowKit
theorem sihPort : Try.prog.stoodInHeld 25 = false := by kernel_rfl
theorem eq_port {X : PortL} : EqSelf Try.prog 10000 25 (PortV X) := by
  refine EqSelf.struct Try.underlying25 sihPort fun f hf => ?_
  simp only [List.mem_cons, List.not_mem_nil, or_false] at hf
  rcases hf with rfl | rfl | rfl | rfl | rfl
  all_goals exact ⟨_, part_one Try.underlying3 rfl rfl, EqSelf.int Try.underlying3⟩
end Go.Proofs.Yteccaejdgefdpaa
