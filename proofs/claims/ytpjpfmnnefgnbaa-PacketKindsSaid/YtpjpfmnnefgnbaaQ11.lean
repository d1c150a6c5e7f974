/- Tuples that come in. -/
import Derived.Test.YtpjpfmnnefgnbaaQ07
import Derived.Test.YtpjpfmnnefgnbaaS11
namespace Go.Proofs.Ytpjpfmnnefgnbaa
set_option linter.unusedVariables false
set_option linter.unusedSimpArgs false
open Go Go.RowKit Go.ChangeShapes Go.WideShapes

section
variable {H : Type} {enc : TypeId × Value → H} {w : World} {cs : List Value}
theorem cz_bool : Try.prog.cellsOf 4 = 1 := by kernel_rfl
theorem cz_b16 : Try.prog.cellsOf 24 = 16 := by kernel_rfl
theorem cz_addr : Try.prog.cellsOf 26 = 17 := by kernel_rfl
theorem cz_tup : Try.prog.cellsOf 28 = 37 := by kernel_rfl
theorem Rd.adr (h : Rd enc Try.prog w 26 cs) : ∃ A : Adr, cs = adrCells A ∧ A.b.length = 16 :=
  h.addr Try.underlying26 Try.underlying4 Try.underlying24 Try.underlying5 ⟨cz_addr, cz_bool, cz_b16, cz_u8⟩
theorem Rd.tup (h : Rd enc Try.prog w 28 cs) : ∃ X : TupL, cs = (tupS X).flatten ∧ TupOk X := by
  obtain ⟨hl, hf⟩ := h.struct Try.underlying28
  rw [cz_tup] at hl
  have q0 : Rd enc Try.prog w 26 ((cs.drop 0).take (Try.prog.cellsOf 26)) := hf 0 _ rfl
  have q1 : Rd enc Try.prog w 26 ((cs.drop 17).take (Try.prog.cellsOf 26)) := hf 1 _ rfl
  have q2 : Rd enc Try.prog w 3 ((cs.drop 34).take (Try.prog.cellsOf 3)) := hf 2 _ rfl
  have q3 : Rd enc Try.prog w 3 ((cs.drop 35).take (Try.prog.cellsOf 3)) := hf 3 _ rfl
  have q4 : Rd enc Try.prog w 3 ((cs.drop 36).take (Try.prog.cellsOf 3)) := hf 4 _ rfl
  rw [cz_addr] at q0 q1
  rw [cz_int] at q2 q3 q4
  obtain ⟨A0, e0, l0⟩ := q0.adr
  obtain ⟨A1, e1, l1⟩ := q1.adr
  obtain ⟨n2, e2, _⟩ := q2.int Try.underlying3
  obtain ⟨n3, e3, _⟩ := q3.int Try.underlying3
  obtain ⟨n4, e4, _⟩ := q4.int Try.underlying3
  refine ⟨⟨A0, A1, n2, n3, n4⟩, ?_, l0, l1⟩
  rw [cells_cut [17, 17, 1, 1, 1] cs hl]
  show [(cs.drop 0).take 17, (cs.drop 17).take 17, (cs.drop 34).take 1, (cs.drop 35).take 1, (cs.drop 36).take 1].flatten = _
  rw [e0, e1, e2, e3, e4]
  simp [tupS, adrCells]
end
end Go.Proofs.Ytpjpfmnnefgnbaa
