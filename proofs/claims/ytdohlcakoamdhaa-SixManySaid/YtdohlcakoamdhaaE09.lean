/- IPv6 headers that are compared with themselves. -/
import Derived.Test.YtdohlcakoamdhaaFacts
import Derived.Test.YtdohlcakoamdhaaS09
namespace Go.Proofs.Ytdohlcakoamdhaa
open Go Go.RowKit

theorem sihAddr : Try.prog.stoodInHeld 26 = false := by kernel_rfl
theorem sihSix : Try.prog.stoodInHeld 28 = false := by kernel_rfl
theorem eq_adr {A : Adr} {n : Nat} (hA : A.b.length = 16) : EqSelf Try.prog (n + 3) 26 (AdrV A) :=
  EqSelf.adr Try.underlying26 sihAddr (by rfl) Try.underlying4 Try.underlying24 Try.underlying5 size5 size24 hA
theorem sixS_lens {H : SixL} (hH : SixOk H) : (sixS H).map List.length = [1, 1, 1, 1, 1, 1, 17, 17] := by
  obtain ⟨h1, h2⟩ := hH
  simp [sixS, adrCells, h1, h2]
theorem eq_six {H : SixL} (hH : SixOk H) : EqSelf Try.prog 10000 28 (SixV H) := by
  refine EqSelf.struct Try.underlying28 sihSix fun f hf => ?_
  have hl := sixS_lens hH
  simp only [List.mem_cons, List.not_mem_nil, or_false] at hf
  rcases hf with rfl | rfl | rfl | rfl | rfl | rfl | rfl | rfl
  · exact ⟨_, part_one Try.underlying3 rfl rfl, EqSelf.int Try.underlying3⟩
  · exact ⟨_, part_one Try.underlying3 rfl rfl, EqSelf.int Try.underlying3⟩
  · exact ⟨_, part_one Try.underlying3 rfl rfl, EqSelf.int Try.underlying3⟩
  · exact ⟨_, part_one Try.underlying4 rfl rfl, EqSelf.bool Try.underlying4⟩
  · exact ⟨_, part_one Try.underlying3 rfl rfl, EqSelf.int Try.underlying3⟩
  · exact ⟨_, part_one Try.underlying3 rfl rfl, EqSelf.int Try.underlying3⟩
  · exact ⟨_, part_agg Try.underlying26 rfl size26 (seg_part (i := 6) hl rfl), eq_adr hH.1⟩
  · exact ⟨_, part_agg Try.underlying26 rfl size26 (seg_part (i := 7) hl rfl), eq_adr hH.2⟩
end Go.Proofs.Ytdohlcakoamdhaa
