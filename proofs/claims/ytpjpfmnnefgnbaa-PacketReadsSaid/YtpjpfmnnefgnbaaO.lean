/- What comes in, opened: cells of a type's reading (my own text). -/
import Derived.Test.YtpjpfmnnefgnbaaF
import Derived.OpenShut
import Derived.ChangeSlices
import Derived.WideShapes
namespace Go.Proofs.Ytpjpfmnnefgnbaa
set_option linter.unusedVariables false
set_option linter.unusedSimpArgs false
open Go Go.RowKit Go.ChangeShapes Go.WideShapes

section
variable {H : Type} {enc : TypeId × Value → H} {P : Program} {w : World} {t : TypeId} {cs : List Value}

/-- These cells read as a value of the type. -/
def Rd {H : Type} (enc : TypeId × Value → H) (P : Program) (w : World) (t : TypeId) (cs : List Value) : Prop :=
  ∃ base spare held fuel x, DataW.trod enc P w base spare held fuel t cs = some x
theorem Rd.of {base : Nat} {spare : Nat → Bool} {held : Bool} {v : Value} {d : DataW H} {ps : List MemPlace} (h : DataW.Trod enc P w base spare held t v d ps) : Rd enc P w t v.cells.toList := by
  obtain ⟨fuel, h⟩ := h
  exact ⟨_, _, _, fuel, _, h⟩
theorem Rd.bool (h : Rd enc P w t cs) (ht : P.underlying t = some .bool) : ∃ b, cs = [.bool b] := by
  obtain ⟨_, _, _, _, _, h⟩ := h
  obtain ⟨b, h, _⟩ := DataW.trod_bool ht h
  exact ⟨b, h⟩
theorem Rd.int {k : IntKind} (h : Rd enc P w t cs) (ht : P.underlying t = some (.int k)) : ∃ n, cs = [.int k n] ∧ (Lit.int k n).wf = true := by
  obtain ⟨_, _, _, _, _, h⟩ := h
  obtain ⟨n, h, _, hw⟩ := DataW.trod_int ht h
  exact ⟨n, h, hw⟩
theorem Rd.u8 (h : Rd enc P w t cs) (ht : P.underlying t = some (.int .u8)) : ∃ c, cs = [byteV c] := by
  obtain ⟨n, h, hw⟩ := h.int ht
  exact ⟨_, by rw [h, byte_of_wf hw]⟩
theorem Rd.bytes {e : TypeId} (h : Rd enc P w t cs) (ht : P.underlying t = some (.slice e)) (he : P.underlying e = some (.int .u8)) (hc : P.cellsOf e = 1) : ∃ v l, cs = [v] ∧ Bs l v w := by
  obtain ⟨_, spare, _, _, _, h⟩ := h
  rcases open_ints ht he hc h with ⟨hcs, _⟩ | ⟨x, len, c, zs, hcs, _, hl, hm, hz, _, hcell, hwz⟩
  · exact ⟨_, [], hcs, .inl ⟨rfl, rfl⟩⟩
  · refine ⟨_, (zs.take len).map fun n => UInt8.ofNat n.toNat, hcs, .inr ⟨x, c, ?_, ?_, hm, ?_⟩⟩
    · have : len ≤ zs.length := by rw [hz]; split <;> omega
      simp; omega
    · simp; omega
    · intro i hi
      have hi2 : i < len := by simp at hi; omega
      have hi3 : i < zs.length := by simp at hi; omega
      refine ⟨_, hcell i hi3, ?_⟩
      have hb := byte_of_wf (hwz (zs.getD i 0) (by rw [List.getD_eq_getElem?_getD, List.getElem?_eq_getElem hi3]; exact List.getElem_mem hi3))
      rw [getD_map _ _ _ (by simpa using hi)]
      show Value.int .u8 (zs.getD i 0) = byteV _
      rw [hb]
      congr 2
      simp [List.getD_eq_getElem?_getD, List.getElem?_eq_getElem hi3]
theorem Rd.struct {fs : Array Field} (h : Rd enc P w t cs) (ht : P.underlying t = some (.struct fs)) :
    cs.length = P.cellsOf t ∧ ∀ (i : Nat) (f : Field), fs[i]? = some f → Rd enc P w f.type ((cs.drop f.offset).take (P.cellsOf f.type)) := by
  obtain ⟨base, spare, held, _, _, h⟩ := h
  obtain ⟨xs, n, _, _, hl, hx, hf⟩ := DataW.trod_struct ht h
  refine ⟨hl, fun i f hi => ?_⟩
  have h1 := hf i f hi
  have hlt : i < xs.length := by rw [hx]; exact (Array.getElem?_eq_some_iff.1 hi).1
  rw [List.getElem?_eq_getElem hlt] at h1
  exact ⟨base, spare, held, n, _, h1⟩
theorem Rd.array {n : Nat} {e : TypeId} (h : Rd enc P w t cs) (ht : P.underlying t = some (.array n e)) :
    cs.length = P.cellsOf t ∧ ∀ i, i < n → Rd enc P w e ((cs.drop (i * P.cellsOf e)).take (P.cellsOf e)) := by
  obtain ⟨base, spare, held, _, _, h⟩ := h
  obtain ⟨xs, m, _, _, hl, hx, hf⟩ := DataW.trod_array ht h
  refine ⟨hl, fun i hi => ?_⟩
  have h1 := hf i hi
  rw [List.getElem?_eq_getElem (by omega)] at h1
  exact ⟨base, spare, held, m, _, h1⟩
end

end Go.Proofs.Ytpjpfmnnefgnbaa
