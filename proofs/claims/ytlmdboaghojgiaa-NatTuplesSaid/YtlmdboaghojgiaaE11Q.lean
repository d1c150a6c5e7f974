/- Tuples and packets that are compared with themselves. -/
import Derived.Test.YtlmdboaghojgiaaFacts
import Derived.Test.YtlmdboaghojgiaaE11
namespace Go.Proofs.Ytlmdboaghojgiaa
set_option linter.unusedVariables false
set_option linter.unusedSimpArgs false
open Go Go.RowKit

theorem Qq6 : Try.prog.stoodInHeld 25 = false := by kernel_rfl
theorem Qns : Try.prog.stoodInHeld 35 = false := by kernel_rfl
theorem Qm4 : Try.prog.stoodInHeld 37 = false := by kernel_rfl
theorem Q7e {l : List Value} {o : Nat} {c : Value} (h : (l.drop o).take 1 = [c]) : l[o]? = some c := by
  have e : ((l.drop o).take 1)[0]? = some c := by rw [h]; rfl
  rw [List.getElem?_take_of_lt (by decide), List.getElem?_drop] at e
  simpa using e
theorem Qon {A : Adr} {n : Nat} (hA : A.b.length = 16) : EqSelf Try.prog (n + 3) 25 (AdrV A) :=
  EqSelf.adr Try.underlying25 Qq6 (by rfl) Try.underlying4 Try.underlying23 Try.underlying5 Q0t Q5e hA
def Qht (T : TupL) : List (List Value) := [Q0k T.src, Q0k T.dst, [.int .i64 T.proto], [.int .i64 T.sport], [.int .i64 T.dport]]
theorem Qgh (T : TupL) : (Qht T).flatten = (tupS T).flatten := by simp [Qht, tupS, Q0k]
theorem Qgi {T : TupL} (h : Q7u T) : (Qht T).map List.length = [17, 17, 1, 1, 1] := by
  obtain ⟨h1, h2⟩ := h
  simp [Qht, Q0k, h1, h2]
theorem Qsg {T : TupL} {n : Nat} (h : Q7u T) : EqSelf Try.prog (n + 4) 35 (TupV T) := by
  unfold TupV
  rw [← Qgh]
  refine EqSelf.struct Try.underlying35 Qns fun f hf => ?_
  have hl := Qgi h
  simp only [List.mem_cons, List.not_mem_nil, or_false] at hf
  rcases hf with rfl | rfl | rfl | rfl | rfl
  · exact ⟨_, Qad Try.underlying25 rfl Q0v (Q48 (i := 0) hl rfl), Qon h.1⟩
  · exact ⟨_, Qad Try.underlying25 rfl Q0v (Q48 (i := 1) hl rfl), Qon h.2⟩
  · exact ⟨_, Q58 Try.underlying3 rfl (Q7e (Q48 (i := 2) hl rfl)), EqSelf.int Try.underlying3⟩
  · exact ⟨_, Q58 Try.underlying3 rfl (Q7e (Q48 (i := 3) hl rfl)), EqSelf.int Try.underlying3⟩
  · exact ⟨_, Q58 Try.underlying3 rfl (Q7e (Q48 (i := 4) hl rfl)), EqSelf.int Try.underlying3⟩
theorem Qom {p : PktL} (h : Qbn p) : EqSelf Try.prog 10000 37 (PktV p) := by
  refine EqSelf.struct Try.underlying37 Qm4 fun f hf => ?_
  have hl := Qkr h
  simp only [List.mem_cons, List.not_mem_nil, or_false] at hf
  rcases hf with rfl | rfl | rfl | rfl | rfl | rfl
  · exact ⟨_, Q58 Try.underlying3 rfl (Q7e (Q48 (i := 0) hl rfl)), EqSelf.int Try.underlying3⟩
  · exact ⟨_, Qad Try.underlying35 rfl Q1y (Q48 (i := 1) hl rfl), Qsg h⟩
  · exact ⟨_, Q58 Try.underlying3 rfl (Q7e (Q48 (i := 2) hl rfl)), EqSelf.int Try.underlying3⟩
  · exact ⟨_, Q58 Try.underlying3 rfl (Q7e (Q48 (i := 3) hl rfl)), EqSelf.int Try.underlying3⟩
  · exact ⟨_, Q58 Try.underlying3 rfl (Q7e (Q48 (i := 4) hl rfl)), EqSelf.int Try.underlying3⟩
  · exact ⟨_, Q58 Try.underlying3 rfl (Q7e (Q48 (i := 5) hl rfl)), EqSelf.int Try.underlying3⟩
end Go.Proofs.Ytlmdboaghojgiaa
