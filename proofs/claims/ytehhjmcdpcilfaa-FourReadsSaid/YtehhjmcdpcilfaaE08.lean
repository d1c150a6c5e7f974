/- Headers that are compared with themselves. -/
import Derived.Test.YtehhjmcdpcilfaaFacts
import Derived.Test.YtehhjmcdpcilfaaT08
namespace Go.Proofs.Ytehhjmcdpcilfaa
open Go Go.RowKit

theorem sih26 : Try.prog.stoodInHeld 26 = false := by kernel_rfl
theorem sih28 : Try.prog.stoodInHeld 28 = false := by kernel_rfl
theorem eq_adr {A : Adr} {n : Nat} (hA : A.b.length = 16) : EqSelf Try.prog (n + 3) 26 (AdrV A) :=
  EqSelf.adr Try.underlying26 sih26 (by rfl) Try.underlying4 Try.underlying24 Try.underlying5 size5 size24 hA
theorem fourS_lens {H : FourL} (hH : FourOk H) : (fourS H).map List.length = [1, 1, 1, 1, 1, 1, 1, 1, 17, 17] := by
  obtain ⟨h1, h2⟩ := hH
  simp [fourS, adrCells, h1, h2]
theorem eq_four {H : FourL} (hH : FourOk H) : EqSelf Try.prog 10000 28 (FourV H) := by
  refine EqSelf.struct Try.underlying28 sih28 fun f hf => ?_
  have hl := fourS_lens hH
  simp only [List.mem_cons, List.not_mem_nil, or_false] at hf
  rcases hf with rfl | rfl | rfl | rfl | rfl | rfl | rfl | rfl | rfl | rfl
  · exact ⟨_, part_one Try.underlying3 rfl rfl, EqSelf.int Try.underlying3⟩
  · exact ⟨_, part_one Try.underlying3 rfl rfl, EqSelf.int Try.underlying3⟩
  · exact ⟨_, part_one Try.underlying3 rfl rfl, EqSelf.int Try.underlying3⟩
  · exact ⟨_, part_one Try.underlying3 rfl rfl, EqSelf.int Try.underlying3⟩
  · exact ⟨_, part_one Try.underlying4 rfl rfl, EqSelf.bool Try.underlying4⟩
  · exact ⟨_, part_one Try.underlying4 rfl rfl, EqSelf.bool Try.underlying4⟩
  · exact ⟨_, part_one Try.underlying3 rfl rfl, EqSelf.int Try.underlying3⟩
  · exact ⟨_, part_one Try.underlying3 rfl rfl, EqSelf.int Try.underlying3⟩
  · exact ⟨_, part_agg Try.underlying26 rfl size26 (seg_part (i := 8) hl rfl), eq_adr hH.1⟩
  · exact ⟨_, part_agg Try.underlying26 rfl size26 (seg_part (i := 9) hl rfl), eq_adr hH.2⟩
end Go.Proofs.Ytehhjmcdpcilfaa
