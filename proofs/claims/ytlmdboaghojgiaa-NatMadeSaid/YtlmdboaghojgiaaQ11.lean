/- Tuples that come in. -/
import Derived.Test.YtlmdboaghojgiaaQ07
import Derived.Test.YtlmdboaghojgiaaS11
namespace Go.Proofs.Ytlmdboaghojgiaa
set_option linter.unusedVariables false
set_option linter.unusedSimpArgs false
open Go Go.RowKit Go.ChangeShapes Go.WideShapes

section
variable {H : Type} {enc : TypeId × Value → H} {w : World} {cs : List Value}
theorem Qnc : Try.prog.cellsOf 4 = 1 := by kernel_rfl
theorem Qp5 : Try.prog.cellsOf 23 = 16 := by kernel_rfl
theorem Qhs : Try.prog.cellsOf 25 = 17 := by kernel_rfl
theorem Qp6 : Try.prog.cellsOf 35 = 37 := by kernel_rfl
theorem Rd.adr (h : Rd enc Try.prog w 25 cs) : ∃ A : Adr, cs = Q0l A ∧ A.b.length = 16 :=
  h.addr Try.underlying25 Try.underlying4 Try.underlying23 Try.underlying5 ⟨Qhs, Qnc, Qp5, Qp7⟩
theorem Rd.tup (h : Rd enc Try.prog w 35 cs) : ∃ X : TupL, cs = (tupS X).flatten ∧ Q3f X := by
  obtain ⟨hl, hf⟩ := h.struct Try.underlying35
  rw [Qp6] at hl
  have q0 : Rd enc Try.prog w 25 ((cs.drop 0).take (Try.prog.cellsOf 25)) := hf 0 _ rfl
  have q1 : Rd enc Try.prog w 25 ((cs.drop 17).take (Try.prog.cellsOf 25)) := hf 1 _ rfl
  have q2 : Rd enc Try.prog w 3 ((cs.drop 34).take (Try.prog.cellsOf 3)) := hf 2 _ rfl
  have q3 : Rd enc Try.prog w 3 ((cs.drop 35).take (Try.prog.cellsOf 3)) := hf 3 _ rfl
  have q4 : Rd enc Try.prog w 3 ((cs.drop 36).take (Try.prog.cellsOf 3)) := hf 4 _ rfl
  rw [Qhs] at q0 q1
  rw [Qht] at q2 q3 q4
  obtain ⟨A0, e0, l0⟩ := q0.adr
  obtain ⟨A1, e1, l1⟩ := q1.adr
  obtain ⟨n2, e2, _⟩ := q2.int Try.underlying3
  obtain ⟨n3, e3, _⟩ := q3.int Try.underlying3
  obtain ⟨n4, e4, _⟩ := q4.int Try.underlying3
  refine ⟨⟨A0, A1, n2, n3, n4⟩, ?_, l0, l1⟩
  rw [Q9f [17, 17, 1, 1, 1] cs hl]
  show [(cs.drop 0).take 17, (cs.drop 17).take 17, (cs.drop 34).take 1, (cs.drop 35).take 1, (cs.drop 36).take 1].flatten = _
  rw [e0, e1, e2, e3, e4]
  simp [tupS, Q0l]
end
end Go.Proofs.Ytlmdboaghojgiaa
