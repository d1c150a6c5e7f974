/- Link headers that come in. -/
import Derived.Test.YtpjpfmnnefgnbaaQJ
import Derived.Test.YtpjpfmnnefgnbaaFacts
import Derived.Test.YtpjpfmnnefgnbaaS07
namespace Go.Proofs.Ytpjpfmnnefgnbaa
set_option linter.unusedVariables false
set_option linter.unusedSimpArgs false
open Go Go.RowKit Go.ChangeShapes Go.WideShapes

section
variable {H : Type} {enc : TypeId × Value → H} {w : World} {cs : List Value}
theorem cz_int : Try.prog.cellsOf 3 = 1 := by kernel_rfl
theorem cz_u8 : Try.prog.cellsOf 5 = 1 := by kernel_rfl
theorem cz_b6 : Try.prog.cellsOf 33 = 6 := by kernel_rfl
theorem cz_tag : Try.prog.cellsOf 97 = 2 := by kernel_rfl
theorem cz_tags : Try.prog.cellsOf 34 = 1 := by kernel_rfl
theorem cz_link : Try.prog.cellsOf 36 = 15 := by kernel_rfl
theorem Rd.six6 (h : Rd enc Try.prog w 33 cs) : ∃ l : List UInt8, cs = l.map byteV ∧ l.length = 6 := h.byteArr Try.underlying33 Try.underlying5 cz_u8 cz_b6
theorem Rd.tag (h : Rd enc Try.prog w 97 cs) : ∃ x : TagL, cs = tagR.f x ∧ True := by
  obtain ⟨hl, hf⟩ := h.struct Try.underlying97
  rw [cz_tag] at hl
  have q0 : Rd enc Try.prog w 3 ((cs.drop 0).take (Try.prog.cellsOf 3)) := hf 0 _ rfl
  have q1 : Rd enc Try.prog w 3 ((cs.drop 1).take (Try.prog.cellsOf 3)) := hf 1 _ rfl
  rw [cz_int] at q0 q1
  obtain ⟨n0, e0, _⟩ := q0.int Try.underlying3
  obtain ⟨n1, e1, _⟩ := q1.int Try.underlying3
  refine ⟨⟨n0, n1⟩, ?_, trivial⟩
  rw [cells_cut [1, 1] cs hl]
  show [(cs.drop 0).take 1, (cs.drop 1).take 1].flatten = _
  rw [e0, e1]
  rfl
theorem Rd.link (h : Rd enc Try.prog w 36 cs) : ∃ (L : LinkL) (v : Value), cs = (lnkS L v).flatten ∧ LinkOk L ∧ Rw tagR L.tags v w := by
  obtain ⟨hl, hf⟩ := h.struct Try.underlying36
  rw [cz_link] at hl
  have q0 : Rd enc Try.prog w 33 ((cs.drop 0).take (Try.prog.cellsOf 33)) := hf 0 _ rfl
  have q1 : Rd enc Try.prog w 33 ((cs.drop 6).take (Try.prog.cellsOf 33)) := hf 1 _ rfl
  have q2 : Rd enc Try.prog w 34 ((cs.drop 12).take (Try.prog.cellsOf 34)) := hf 2 _ rfl
  have q3 : Rd enc Try.prog w 3 ((cs.drop 13).take (Try.prog.cellsOf 3)) := hf 3 _ rfl
  have q4 : Rd enc Try.prog w 3 ((cs.drop 14).take (Try.prog.cellsOf 3)) := hf 4 _ rfl
  rw [cz_b6] at q0 q1
  rw [cz_tags] at q2
  rw [cz_int] at q3 q4
  obtain ⟨l0, e0, h0⟩ := q0.six6
  obtain ⟨l1, e1, h1⟩ := q1.six6
  obtain ⟨v, ts, e2, h2, _⟩ := q2.rows (R := tagR) Try.underlying34 cz_tag fun _ => Rd.tag
  obtain ⟨n3, e3, _⟩ := q3.int Try.underlying3
  obtain ⟨n4, e4, _⟩ := q4.int Try.underlying3
  refine ⟨⟨l0, l1, ts, n3, n4⟩, v, ?_, ⟨h0, h1⟩, h2⟩
  rw [cells_cut [6, 6, 1, 1, 1] cs hl]
  show [(cs.drop 0).take 6, (cs.drop 6).take 6, (cs.drop 12).take 1, (cs.drop 13).take 1, (cs.drop 14).take 1].flatten = _
  rw [e0, e1, e2, e3, e4]
  rfl
end
end Go.Proofs.Ytpjpfmnnefgnbaa
