/- Tuples and packets that are compared with themselves. -/
import Derived.Test.YtpjpfmnnefgnbaaFacts
import Derived.Test.YtpjpfmnnefgnbaaE11
namespace Go.Proofs.Ytpjpfmnnefgnbaa
set_option linter.unusedVariables false
set_option linter.unusedSimpArgs false
open Go Go.RowKit

theorem sihAddr : Try.prog.stoodInHeld 26 = false := by kernel_rfl
theorem sihTuple : Try.prog.stoodInHeld 28 = false := by kernel_rfl
theorem sihPacket : Try.prog.stoodInHeld 30 = false := by kernel_rfl
theorem seg_one {l : List Value} {o : Nat} {c : Value} (h : (l.drop o).take 1 = [c]) : l[o]? = some c := by
  have e : ((l.drop o).take 1)[0]? = some c := by rw [h]; rfl
  rw [List.getElem?_take_of_lt (by decide), List.getElem?_drop] at e
  simpa using e
theorem eq_adr {A : Adr} {n : Nat} (hA : A.b.length = 16) : EqSelf Try.prog (n + 3) 26 (AdrV A) :=
  EqSelf.adr Try.underlying26 sihAddr (by rfl) Try.underlying4 Try.underlying24 Try.underlying5 size5 size24 hA
def tupS17 (T : TupL) : List (List Value) := [adrCells T.src, adrCells T.dst, [.int .i64 T.proto], [.int .i64 T.sport], [.int .i64 T.dport]]
theorem tupS17_flat (T : TupL) : (tupS17 T).flatten = (tupS T).flatten := by simp [tupS17, tupS, adrCells]
theorem tupS17_lens {T : TupL} (h : TupOk T) : (tupS17 T).map List.length = [17, 17, 1, 1, 1] := by
  obtain ⟨h1, h2⟩ := h
  simp [tupS17, adrCells, h1, h2]
theorem eq_tup {T : TupL} {n : Nat} (h : TupOk T) : EqSelf Try.prog (n + 4) 28 (TupV T) := by
  unfold TupV
  rw [← tupS17_flat]
  refine EqSelf.struct Try.underlying28 sihTuple fun f hf => ?_
  have hl := tupS17_lens h
  simp only [List.mem_cons, List.not_mem_nil, or_false] at hf
  rcases hf with rfl | rfl | rfl | rfl | rfl
  · exact ⟨_, part_agg Try.underlying26 rfl size26 (seg_part (i := 0) hl rfl), eq_adr h.1⟩
  · exact ⟨_, part_agg Try.underlying26 rfl size26 (seg_part (i := 1) hl rfl), eq_adr h.2⟩
  · exact ⟨_, part_one Try.underlying3 rfl (seg_one (seg_part (i := 2) hl rfl)), EqSelf.int Try.underlying3⟩
  · exact ⟨_, part_one Try.underlying3 rfl (seg_one (seg_part (i := 3) hl rfl)), EqSelf.int Try.underlying3⟩
  · exact ⟨_, part_one Try.underlying3 rfl (seg_one (seg_part (i := 4) hl rfl)), EqSelf.int Try.underlying3⟩
theorem eq_pkt {p : PktL} (h : PktOk p) : EqSelf Try.prog 10000 30 (PktV p) := by
  refine EqSelf.struct Try.underlying30 sihPacket fun f hf => ?_
  have hl := pktS_lens h
  simp only [List.mem_cons, List.not_mem_nil, or_false] at hf
  rcases hf with rfl | rfl | rfl | rfl | rfl | rfl
  · exact ⟨_, part_one Try.underlying3 rfl (seg_one (seg_part (i := 0) hl rfl)), EqSelf.int Try.underlying3⟩
  · exact ⟨_, part_agg Try.underlying28 rfl size28 (seg_part (i := 1) hl rfl), eq_tup h⟩
  · exact ⟨_, part_one Try.underlying3 rfl (seg_one (seg_part (i := 2) hl rfl)), EqSelf.int Try.underlying3⟩
  · exact ⟨_, part_one Try.underlying3 rfl (seg_one (seg_part (i := 3) hl rfl)), EqSelf.int Try.underlying3⟩
  · exact ⟨_, part_one Try.underlying3 rfl (seg_one (seg_part (i := 4) hl rfl)), EqSelf.int Try.underlying3⟩
  · exact ⟨_, part_one Try.underlying3 rfl (seg_one (seg_part (i := 5) hl rfl)), EqSelf.int Try.underlying3⟩
end Go.Proofs.Ytpjpfmnnefgnbaa
