/- Rows of structs, and arrays, that come in. -/
import Derived.Test.YtlmdboaghojgiaaF
import Derived.Test.YtlmdboaghojgiaaJ
namespace Go.Proofs.Ytlmdboaghojgiaa
set_option linter.unusedVariables false
set_option linter.unusedSimpArgs false
open Go Go.RowKit Go.ChangeShapes Go.WideShapes

theorem Q9f {α : Type} : ∀ (ls : List Nat) (cs : List α), cs.length = ls.sum → cs = ((List.range ls.length).map fun i => (cs.drop (ls.take i).sum).take (ls.getD i 0)).flatten := by
  intro ls
  induction ls with
  | nil => intro cs h; simpa using h
  | cons n ls ih =>
    intro cs h
    have := ih (cs.drop n) (by simp at h ⊢; omega)
    rw [List.length_cons, List.range_succ_eq_map]
    simp only [List.map_cons, List.flatten_cons, List.map_map]
    conv => lhs; rw [← List.take_append_drop n cs]
    congr 1
    rw [this]
    congr 1
    simp only [Function.comp_def, List.take_succ_cons, List.sum_cons, List.drop_drop]
    rfl
section
variable {H : Type} {enc : TypeId × Value → H} {P : Program} {w : World} {t e : TypeId} {cs : List Value} {α : Type} {R : RT α}
theorem Rd.rows (h : Rd enc P w t cs) (ht : P.underlying t = some (.slice e)) (hc : P.cellsOf e = R.m) {Pr : α → Prop} (he : ∀ cs, Rd enc P w e cs → ∃ x, cs = R.f x ∧ Pr x) : ∃ v l, cs = [v] ∧ Rw R l v w ∧ ∀ x ∈ l, Pr x := by
  obtain ⟨base, spare, held, fuel, x, h⟩ := h
  rcases DataW.trod_slice ht h with ⟨h0, _⟩ | ⟨a, len, cap, elems, rest, n, _, rfl, rfl, hb, hl, hm, hlen, hel, hsp, hns⟩
  · exact ⟨_, [], h0, .inl ⟨rfl, rfl⟩, fun x hx => by simp at hx⟩
  · have key : ∀ i, i < len → ∃ x : α, Pr x ∧ ∀ j, j < R.m → w.cell? ((a.add (i * R.m)).add j) = (R.f x)[j]? := fun i hi => by
      have hh := hel i hi
      rw [hc, List.getElem?_eq_getElem (by omega), Option.bind_eq_some_iff] at hh
      obtain ⟨cs', hcs, hy⟩ := hh
      obtain ⟨_, hcl, hcell⟩ := World.cells?_some hcs
      obtain ⟨x, hx, hp⟩ := he cs' ⟨base, spare, held, n, _, hy⟩
      exact ⟨x, hp, fun j hj => by rw [hcell j hj, hx]⟩
    have lst : ∀ n, n ≤ len → ∃ l : List α, l.length = n ∧ (∀ x ∈ l, Pr x) ∧ ∀ i (hi : i < l.length), ∀ j, j < R.m → w.cell? ((a.add (i * R.m)).add j) = (R.f l[i])[j]? := by
      intro n
      induction n with
      | zero => exact fun _ => ⟨[], rfl, fun x hx => by simp at hx, fun i hi => by simp at hi⟩
      | succ n ih =>
        intro hn
        obtain ⟨l, hl1, hl2, hl3⟩ := ih (by omega)
        obtain ⟨x, hx, hxc⟩ := key n (by omega)
        refine ⟨l ++ [x], by simp [hl1], fun y hy => ?_, fun i hi j hj => ?_⟩
        · simp only [List.mem_append, List.mem_cons, List.not_mem_nil, or_false] at hy
          rcases hy with hy | rfl
          · exact hl2 y hy
          · exact hx
        · by_cases h9 : i < l.length
          · rw [List.getElem_append_left h9]; exact hl3 i h9 j hj
          · have : i = n := by simp at hi; omega
            subst this
            rw [List.getElem_append_right (by omega)]
            simp only [hl1, Nat.sub_self, List.getElem_cons_zero]
            exact hxc j hj
    obtain ⟨l, hl1, hl2, hl3⟩ := lst len (Nat.le_refl _)
    refine ⟨_, l, rfl, .inr ⟨a, cap, by rw [hl1], by omega, hm, fun i hi => ?_⟩, hl2⟩
    have hp := R.pos
    rw [R.fl_len] at hi
    have hq : i / R.m < l.length := Nat.div_lt_of_lt_mul (by rw [Nat.mul_comm]; exact hi)
    have hr : i % R.m < R.m := Nat.mod_lt _ hp
    have e1 : i / R.m * R.m + i % R.m = i := by rw [Nat.mul_comm]; exact Nat.div_add_mod i R.m
    have h1 := hl3 _ hq _ hr
    have h2 := R.fl_at l _ _ hq hr
    rw [e1] at h2
    have e2 : (a.add (i / R.m * R.m)).add (i % R.m) = a.add i := by
      rw [Addr.add_add, e1]
    rw [e2, ← h2] at h1
    rw [h1, List.getD_eq_getElem?_getD, List.getElem?_eq_getElem (by rw [R.fl_len]; exact hi)]
    rfl
end
end Go.Proofs.Ytlmdboaghojgiaa
