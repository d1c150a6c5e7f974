/- Extensions that come in. -/
import Derived.Test.YtdohlcakoamdhaaQ09
import Derived.Test.YtdohlcakoamdhaaQJ
import Derived.Test.YtdohlcakoamdhaaE9X
namespace Go.Proofs.Ytdohlcakoamdhaa
open Go Go.RowKit Go.ChangeShapes Go.WideShapes

section
variable {H : Type} {enc : TypeId × Value → H} {w : World} {cs : List Value}
theorem cz_u16 : Try.prog.cellsOf 41 = 1 := by kernel_rfl
theorem cz_ext : Try.prog.cellsOf 43 = 3 := by kernel_rfl
theorem Rd.ext (h : Rd enc Try.prog w 43 cs) : ∃ x : ExtL, cs = extR.f x ∧ ExtOk x := by
  obtain ⟨hl, hf⟩ := h.struct Try.underlying43
  rw [cz_ext] at hl
  have q0 : Rd enc Try.prog w 5 ((cs.drop 0).take (Try.prog.cellsOf 5)) := hf 0 _ rfl
  have q1 : Rd enc Try.prog w 5 ((cs.drop 1).take (Try.prog.cellsOf 5)) := hf 1 _ rfl
  have q2 : Rd enc Try.prog w 41 ((cs.drop 2).take (Try.prog.cellsOf 41)) := hf 2 _ rfl
  rw [cz_u8] at q0 q1
  rw [cz_u16] at q2
  obtain ⟨n0, e0⟩ := q0.u8 Try.underlying5
  obtain ⟨n1, e1⟩ := q1.u8 Try.underlying5
  obtain ⟨n2, e2, h2⟩ := q2.int Try.underlying41
  refine ⟨⟨n0, n1, n2⟩, ?_, wf_u16 h2⟩
  rw [cells_cut [1, 1, 1] cs hl]
  show [(cs.drop 0).take 1, (cs.drop 1).take 1, (cs.drop 2).take 1].flatten = _
  rw [e0, e1, e2]
  rfl
end
end Go.Proofs.Ytdohlcakoamdhaa
