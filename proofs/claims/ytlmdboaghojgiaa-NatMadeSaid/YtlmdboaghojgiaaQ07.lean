/- Link headers that come in. -/
import Derived.Test.YtlmdboaghojgiaaQJ
import Derived.Test.YtlmdboaghojgiaaFacts
import Derived.Test.YtlmdboaghojgiaaS07
namespace Go.Proofs.Ytlmdboaghojgiaa
set_option linter.unusedVariables false
set_option linter.unusedSimpArgs false
open Go Go.RowKit Go.ChangeShapes Go.WideShapes

section
variable {H : Type} {enc : TypeId × Value → H} {w : World} {cs : List Value}
theorem Qht : Try.prog.cellsOf 3 = 1 := by kernel_rfl
theorem Qp7 : Try.prog.cellsOf 5 = 1 := by kernel_rfl
theorem Qp8 : Try.prog.cellsOf 43 = 6 := by kernel_rfl
theorem Qme : Try.prog.cellsOf 94 = 2 := by kernel_rfl
theorem Qnd : Try.prog.cellsOf 44 = 1 := by kernel_rfl
theorem Qne : Try.prog.cellsOf 46 = 15 := by kernel_rfl
theorem Rd.six6 (h : Rd enc Try.prog w 43 cs) : ∃ l : List UInt8, cs = l.map Q0t ∧ l.length = 6 := h.byteArr Try.underlying43 Try.underlying5 Qp7 Qp8
theorem Rd.tag (h : Rd enc Try.prog w 94 cs) : ∃ x : TagL, cs = tagR.f x ∧ True := by
  obtain ⟨hl, hf⟩ := h.struct Try.underlying94
  rw [Qme] at hl
  have q0 : Rd enc Try.prog w 3 ((cs.drop 0).take (Try.prog.cellsOf 3)) := hf 0 _ rfl
  have q1 : Rd enc Try.prog w 3 ((cs.drop 1).take (Try.prog.cellsOf 3)) := hf 1 _ rfl
  rw [Qht] at q0 q1
  obtain ⟨n0, e0, _⟩ := q0.int Try.underlying3
  obtain ⟨n1, e1, _⟩ := q1.int Try.underlying3
  refine ⟨⟨n0, n1⟩, ?_, trivial⟩
  rw [Q9f [1, 1] cs hl]
  show [(cs.drop 0).take 1, (cs.drop 1).take 1].flatten = _
  rw [e0, e1]
  rfl
theorem Rd.link (h : Rd enc Try.prog w 46 cs) : ∃ (L : LinkL) (v : Value), cs = (lnkS L v).flatten ∧ Q2i L ∧ Rw tagR L.tags v w := by
  obtain ⟨hl, hf⟩ := h.struct Try.underlying46
  rw [Qne] at hl
  have q0 : Rd enc Try.prog w 43 ((cs.drop 0).take (Try.prog.cellsOf 43)) := hf 0 _ rfl
  have q1 : Rd enc Try.prog w 43 ((cs.drop 6).take (Try.prog.cellsOf 43)) := hf 1 _ rfl
  have q2 : Rd enc Try.prog w 44 ((cs.drop 12).take (Try.prog.cellsOf 44)) := hf 2 _ rfl
  have q3 : Rd enc Try.prog w 3 ((cs.drop 13).take (Try.prog.cellsOf 3)) := hf 3 _ rfl
  have q4 : Rd enc Try.prog w 3 ((cs.drop 14).take (Try.prog.cellsOf 3)) := hf 4 _ rfl
  rw [Qp8] at q0 q1
  rw [Qnd] at q2
  rw [Qht] at q3 q4
  obtain ⟨l0, e0, h0⟩ := q0.six6
  obtain ⟨l1, e1, h1⟩ := q1.six6
  obtain ⟨v, ts, e2, h2, _⟩ := q2.rows (R := tagR) Try.underlying44 Qme fun _ => Rd.tag
  obtain ⟨n3, e3, _⟩ := q3.int Try.underlying3
  obtain ⟨n4, e4, _⟩ := q4.int Try.underlying3
  refine ⟨⟨l0, l1, ts, n3, n4⟩, v, ?_, ⟨h0, h1⟩, h2⟩
  rw [Q9f [6, 6, 1, 1, 1] cs hl]
  show [(cs.drop 0).take 6, (cs.drop 6).take 6, (cs.drop 12).take 1, (cs.drop 13).take 1, (cs.drop 14).take 1].flatten = _
  rw [e0, e1, e2, e3, e4]
  rfl
end
end Go.Proofs.Ytlmdboaghojgiaa
