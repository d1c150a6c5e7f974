/- IPv6 headers that come in. -/
import Derived.Test.YtdohlcakoamdhaaO
import Derived.Test.YtdohlcakoamdhaaFacts
import Derived.Test.YtdohlcakoamdhaaS09
namespace Go.Proofs.Ytdohlcakoamdhaa
open Go Go.RowKit Go.ChangeShapes Go.WideShapes

theorem cells_segs {α : Type} : ∀ (ls : List Nat) (cs : List α), cs.length = ls.sum → cs = ((List.range ls.length).map fun i => (cs.drop (ls.take i).sum).take (ls.getD i 0)).flatten := by
  intro ls
  induction ls with
  | nil => intro cs h; simpa using h
  | cons n ls ih =>
    intro cs h
    have := ih (cs.drop n) (by simp at h ⊢; omega)
    rw [List.length_cons, List.range_succ_eq_map]
    simp only [List.map_cons, List.flatten_cons, List.map_map]
    conv => lhs; rw [← List.take_append_drop n cs]
    congr 1
    rw [this]
    congr 1
    simp only [Function.comp_def, List.take_succ_cons, List.sum_cons, List.drop_drop]
    rfl
section
variable {H : Type} {enc : TypeId × Value → H} {w : World} {cs : List Value}
theorem cz_int : Try.prog.cellsOf 3 = 1 := by kernel_rfl
theorem cz_bool : Try.prog.cellsOf 4 = 1 := by kernel_rfl
theorem cz_u8 : Try.prog.cellsOf 5 = 1 := by kernel_rfl
theorem cz_b16 : Try.prog.cellsOf 24 = 16 := by kernel_rfl
theorem cz_addr : Try.prog.cellsOf 26 = 17 := by kernel_rfl
theorem cz_six : Try.prog.cellsOf 28 = 40 := by kernel_rfl
theorem Rd.adr (h : Rd enc Try.prog w 26 cs) : ∃ A : Adr, cs = adrCells A ∧ A.b.length = 16 :=
  h.addr Try.underlying26 Try.underlying4 Try.underlying24 Try.underlying5 ⟨cz_addr, cz_bool, cz_b16, cz_u8⟩
theorem Rd.six (h : Rd enc Try.prog w 28 cs) : ∃ X : SixL, cs = (sixS X).flatten ∧ SixOk X := by
  obtain ⟨hl, hf⟩ := h.struct Try.underlying28
  rw [cz_six] at hl
  have q0 : Rd enc Try.prog w 3 ((cs.drop 0).take (Try.prog.cellsOf 3)) := hf 0 _ rfl
  have q1 : Rd enc Try.prog w 3 ((cs.drop 1).take (Try.prog.cellsOf 3)) := hf 1 _ rfl
  have q2 : Rd enc Try.prog w 3 ((cs.drop 2).take (Try.prog.cellsOf 3)) := hf 2 _ rfl
  have q3 : Rd enc Try.prog w 4 ((cs.drop 3).take (Try.prog.cellsOf 4)) := hf 3 _ rfl
  have q4 : Rd enc Try.prog w 3 ((cs.drop 4).take (Try.prog.cellsOf 3)) := hf 4 _ rfl
  have q5 : Rd enc Try.prog w 3 ((cs.drop 5).take (Try.prog.cellsOf 3)) := hf 5 _ rfl
  have q6 : Rd enc Try.prog w 26 ((cs.drop 6).take (Try.prog.cellsOf 26)) := hf 6 _ rfl
  have q7 : Rd enc Try.prog w 26 ((cs.drop 23).take (Try.prog.cellsOf 26)) := hf 7 _ rfl
  rw [cz_int] at q0 q1 q2 q4 q5
  rw [cz_bool] at q3
  rw [cz_addr] at q6 q7
  obtain ⟨n0, e0, _⟩ := q0.int Try.underlying3
  obtain ⟨n1, e1, _⟩ := q1.int Try.underlying3
  obtain ⟨n2, e2, _⟩ := q2.int Try.underlying3
  obtain ⟨n3, e3⟩ := q3.bool Try.underlying4
  obtain ⟨n4, e4, _⟩ := q4.int Try.underlying3
  obtain ⟨n5, e5, _⟩ := q5.int Try.underlying3
  obtain ⟨n6, e6, l6⟩ := q6.adr
  obtain ⟨n7, e7, l7⟩ := q7.adr
  refine ⟨⟨n0, n1, n2, n3, n4, n5, n6, n7⟩, ?_, l6, l7⟩
  rw [cells_segs [1, 1, 1, 1, 1, 1, 17, 17] cs hl]
  show [(cs.drop 0).take 1, (cs.drop 1).take 1, (cs.drop 2).take 1, (cs.drop 3).take 1, (cs.drop 4).take 1, (cs.drop 5).take 1, (cs.drop 6).take 17, (cs.drop 23).take 17].flatten = _
  rw [e0, e1, e2, e3, e4, e5, e6, e7]
  rfl
end
end Go.Proofs.Ytdohlcakoamdhaa
