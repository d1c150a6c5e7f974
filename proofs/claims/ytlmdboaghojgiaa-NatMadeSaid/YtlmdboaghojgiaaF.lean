import Derived.OpenShut
import Derived.ChangeSlices
import Derived.WideShapes
import Derived.Test.YtlmdboaghojgiaaW
/-!
What the frame of a statement tells of an argument, in the walk's Q59 (my own text).
-/
namespace Go.Proofs.Ytlmdboaghojgiaa
set_option linter.unusedVariables false
set_option linter.unusedSimpArgs false
open Go Go.RowKit

theorem Qb4 {n : Int} (h : (Lit.int .u8 n).wf = true) : Value.int .u8 n = Q0t (UInt8.ofNat n.toNat) := by
  simp only [Lit.wf, IntKind.min, IntKind.max, Bool.and_eq_true, decide_eq_true_eq] at h
  have h0 : (0 : Int) ≤ n := by simpa [IntKind.signed] using h.1
  have h1 : n ≤ 255 := by
    have := h.2
    simpa [IntKind.signed, IntKind.bits] using this
  unfold Q0t
  congr 1
  simp
  omega

theorem Qkw {w w' : World} {e : Ending} (h : Ret (Is (.bool true)) w e w') : e = .returned (.bool true) ∧ Below w.heap.size w w' := by
  obtain ⟨v, rfl, hx, rfl⟩ := h
  exact ⟨rfl, hx⟩

end Go.Proofs.Ytlmdboaghojgiaa

/- What comes in, opened: cells of a type's reading (my own text). -/
namespace Go.Proofs.Ytlmdboaghojgiaa
set_option linter.unusedVariables false
set_option linter.unusedSimpArgs false
open Go Go.RowKit Go.ChangeShapes Go.WideShapes

section
variable {H : Type} {enc : TypeId × Value → H} {P : Program} {w : World} {t : TypeId} {cs : List Value}

def Rd {H : Type} (enc : TypeId × Value → H) (P : Program) (w : World) (t : TypeId) (cs : List Value) : Prop :=
  ∃ base spare held fuel x, DataW.trod enc P w base spare held fuel t cs = some x
theorem Rd.of {base : Nat} {spare : Nat → Bool} {held : Bool} {v : Value} {d : DataW H} {ps : List MemPlace} (h : DataW.Trod enc P w base spare held t v d ps) : Rd enc P w t v.cells.toList := by
  obtain ⟨fuel, h⟩ := h
  exact ⟨_, _, _, fuel, _, h⟩
theorem Rd.bool (h : Rd enc P w t cs) (ht : P.underlying t = some .bool) : ∃ b, cs = [.bool b] := by
  obtain ⟨_, _, _, _, _, h⟩ := h
  obtain ⟨b, h, _⟩ := DataW.trod_bool ht h
  exact ⟨b, h⟩
theorem Rd.int {k : IntKind} (h : Rd enc P w t cs) (ht : P.underlying t = some (.int k)) : ∃ n, cs = [.int k n] ∧ (Lit.int k n).wf = true := by
  obtain ⟨_, _, _, _, _, h⟩ := h
  obtain ⟨n, h, _, hw⟩ := DataW.trod_int ht h
  exact ⟨n, h, hw⟩
theorem Rd.u8 (h : Rd enc P w t cs) (ht : P.underlying t = some (.int .u8)) : ∃ c, cs = [Q0t c] := by
  obtain ⟨n, h, hw⟩ := h.int ht
  exact ⟨_, by rw [h, Qb4 hw]⟩
theorem Rd.bytes {e : TypeId} (h : Rd enc P w t cs) (ht : P.underlying t = some (.slice e)) (he : P.underlying e = some (.int .u8)) (hc : P.cellsOf e = 1) : ∃ v l, cs = [v] ∧ Bs l v w := by
  obtain ⟨_, spare, _, _, _, h⟩ := h
  rcases open_ints ht he hc h with ⟨hcs, _⟩ | ⟨x, len, c, zs, hcs, _, hl, hm, hz, _, hcell, hwz⟩
  · exact ⟨_, [], hcs, .inl ⟨rfl, rfl⟩⟩
  · refine ⟨_, (zs.take len).map fun n => UInt8.ofNat n.toNat, hcs, .inr ⟨x, c, ?_, ?_, hm, ?_⟩⟩
    · have : len ≤ zs.length := by rw [hz]; split <;> omega
      simp; omega
    · simp; omega
    · intro i hi
      have hi2 : i < len := by simp at hi; omega
      have hi3 : i < zs.length := by simp at hi; omega
      refine ⟨_, hcell i hi3, ?_⟩
      have hb := Qb4 (hwz (zs.getD i 0) (by rw [List.getD_eq_getElem?_getD, List.getElem?_eq_getElem hi3]; exact List.getElem_mem hi3))
      rw [Q26 _ _ _ (by simpa using hi)]
      show Value.int .u8 (zs.getD i 0) = Q0t _
      rw [hb]
      congr 2
      simp [List.getD_eq_getElem?_getD, List.getElem?_eq_getElem hi3]
theorem Rd.struct {fs : Array Field} (h : Rd enc P w t cs) (ht : P.underlying t = some (.struct fs)) :
    cs.length = P.cellsOf t ∧ ∀ (i : Nat) (f : Field), fs[i]? = some f → Rd enc P w f.type ((cs.drop f.offset).take (P.cellsOf f.type)) := by
  obtain ⟨base, spare, held, _, _, h⟩ := h
  obtain ⟨xs, n, _, _, hl, hx, hf⟩ := DataW.trod_struct ht h
  refine ⟨hl, fun i f hi => ?_⟩
  have h1 := hf i f hi
  have hlt : i < xs.length := by rw [hx]; exact (Array.getElem?_eq_some_iff.1 hi).1
  rw [List.getElem?_eq_getElem hlt] at h1
  exact ⟨base, spare, held, n, _, h1⟩
theorem Rd.array {n : Nat} {e : TypeId} (h : Rd enc P w t cs) (ht : P.underlying t = some (.array n e)) :
    cs.length = P.cellsOf t ∧ ∀ i, i < n → Rd enc P w e ((cs.drop (i * P.cellsOf e)).take (P.cellsOf e)) := by
  obtain ⟨base, spare, held, _, _, h⟩ := h
  obtain ⟨xs, m, _, _, hl, hx, hf⟩ := DataW.trod_array ht h
  refine ⟨hl, fun i hi => ?_⟩
  have h1 := hf i hi
  rw [List.getElem?_eq_getElem (by omega)] at h1
  exact ⟨base, spare, held, m, _, h1⟩
theorem Rd.byteArr {n : Nat} {e : TypeId} (h : Rd enc P w t cs) (ht : P.underlying t = some (.array n e)) (he : P.underlying e = some (.int .u8)) (hc : P.cellsOf e = 1) (hn : P.cellsOf t = n) :
    ∃ l : List UInt8, cs = l.map Q0t ∧ l.length = n := by
  obtain ⟨hl, hf⟩ := h.array ht
  rw [hn] at hl
  rw [hc] at hf
  have key : ∀ i (hi : i < cs.length), ∃ c, cs[i] = Q0t c := fun i hi => by
    obtain ⟨c, hc⟩ := (hf i (by omega)).u8 he
    refine ⟨c, ?_⟩
    have e : (cs.drop i).take 1 = [cs[i]] := by rw [List.drop_eq_getElem_cons hi]; rfl
    rw [Nat.mul_one, e] at hc
    exact (List.cons.inj hc).1
  have : ∀ (l : List Value), (∀ i (hi : i < l.length), ∃ c, l[i] = Q0t c) → ∃ m : List UInt8, l = m.map Q0t := by
    intro l
    induction l with
    | nil => exact fun _ => ⟨[], rfl⟩
    | cons x r ih =>
      intro hk
      obtain ⟨c, hc⟩ := hk 0 (by simp)
      obtain ⟨m, hm⟩ := ih fun i hi => by
        have := hk (i + 1) (by simp; omega)
        simpa using this
      exact ⟨c :: m, by simp at hc; simp [hc, hm]⟩
  obtain ⟨m, hm⟩ := this cs key
  exact ⟨m, hm, by rw [← hl, hm]; simp⟩
theorem Qcp {α : Type} (l : List α) (a n : Nat) : l.drop a = (l.drop a).take n ++ l.drop (a + n) := by
  rw [← List.drop_drop, List.take_append_drop]
end

theorem Rd.addr {H : Type} {enc : TypeId × Value → H} {P : Program} {w : World} {t tb ta te : TypeId} {cs : List Value} {n0 n1 : String} {b0 b1 : Bool} {s0 s1 s2 s3 : String} {o0 o1 : Nat} (h : Rd enc P w t cs)
    (ht : P.underlying t = some (.struct #[Field.mk n0 tb 0 b0 s0 s1 o0, Field.mk n1 ta 1 b1 s2 s3 o1]))
    (hb : P.underlying tb = some .bool) (ha : P.underlying ta = some (.array 16 te)) (he : P.underlying te = some (.int .u8)) (hc : P.cellsOf t = 17 ∧ P.cellsOf tb = 1 ∧ P.cellsOf ta = 16 ∧ P.cellsOf te = 1) :
    ∃ A : Adr, cs = Q0l A ∧ A.b.length = 16 := by
  obtain ⟨c1, c2, c3, c4⟩ := hc
  obtain ⟨hl, hf⟩ := h.struct ht
  have q0 : Rd enc P w tb ((cs.drop 0).take (P.cellsOf tb)) := hf 0 (Field.mk n0 tb 0 b0 s0 s1 o0) rfl
  have q1 : Rd enc P w ta ((cs.drop 1).take (P.cellsOf ta)) := hf 1 (Field.mk n1 ta 1 b1 s2 s3 o1) rfl
  obtain ⟨b, h0⟩ := q0.bool hb
  obtain ⟨l, h1, hl1⟩ := q1.byteArr ha he c4 c3
  rw [c2, List.drop_zero] at h0
  rw [c3] at h1
  refine ⟨⟨b, l⟩, ?_, hl1⟩
  have e0 := Qcp cs 0 1
  have e1 := Qcp cs 1 16
  rw [List.drop_zero, h0] at e0
  rw [h1] at e1
  rw [e0, Nat.zero_add, e1, List.drop_of_length_le (by omega)]
  simp [Q0l]
end Go.Proofs.Ytlmdboaghojgiaa
