import Derived.Laws.CopyRow
import Derived.Test.YtlmdboaghojgiaaW
/- Variables of a function's own that are written into: blocks whose cells are known, segment by segment; stores and copies into them, and into owned rows of bytes. -/
namespace Go.Proofs.Ytlmdboaghojgiaa
set_option linter.unusedVariables false
set_option linter.unusedSimpArgs false
open Go Go.RowKit
variable {dfs : List Deferred}

def Blk (g : Nat) (e : TypeId) (cs : List Value) (w : World) : Prop := w.heap[g]? = some (.cells cs.toArray e (0, 0))
section
variable {g : Nat} {e : TypeId} {cs : List Value} {w w' : World}
theorem Blk.lt (h : Blk g e cs w) : g < w.heap.size := (Array.getElem?_eq_some_iff.1 h).1
theorem Blk.ext (h : Blk g e cs w) (hx : Ext w w') : Blk g e cs w' := by
  unfold Blk; rw [hx.block g h.lt]; exact h
theorem Blk.other {β : Nat} (h : Blk g e cs w) (hc : ChgAt β w w') (hne : g + 1 ≠ β) : Blk g e cs w' := by
  unfold Blk; rw [hc.block g h.lt hne]; exact h
theorem Blk.cell (h : Blk g e cs w) (i : Nat) : w.cell? ⟨g, i, none⟩ = cs[i]? := by
  unfold World.cell?
  rw [h]; simp
theorem Blk.new {t : TypeId} (w : World) (cs : List Value) : Blk w.heap.size t cs (w.alloc (.cells cs.toArray t)) := heap_alloc_new _ _
def lay (cs : List Value) (o : Nat) (vs : List Value) : List Value := cs.take o ++ vs ++ cs.drop (o + vs.length)
theorem Blk.store {P : Program} {o : Nat} {vs : List Value} (h : Blk g e cs w) (hl : o + vs.length ≤ cs.length) (h1 : ∀ v ∈ vs, v.oneCell' = true) :
    ∃ w', (storeCells ⟨g, o, none⟩ vs).run P w = .ok () w' ∧ ChgAt (g + 1) w w' ∧ Blk g e (lay cs o vs) w' := by
  have := run_storeCells_at P g o e vs 0 cs.toArray w h (by simpa using hl) h1
  simp only [Nat.add_zero] at this
  refine ⟨_, this, ⟨rfl, rfl, rfl, by simp [World.setRow], fun k _ hne => setRow_other _ _ _ _ (by omega)⟩, ?_⟩
  unfold Blk
  rw [setRow_heap w g _ _ e (0, 0) h]
  rfl
end

theorem Q70 {S : List (List Value)} {i : Nat} {vs : List Value} (hi : i < S.length) (hl : vs.length = S[i].length) : lay S.flatten (S.take i).flatten.length vs = (S.set i vs).flatten := by
  have e1 : S = S.take i ++ S[i] :: S.drop (i + 1) := by simp
  have e2 : S.set i vs = S.take i ++ vs :: S.drop (i + 1) := by
    rw [List.set_eq_take_append_cons_drop, if_pos hi]
  have e3 : S.flatten = (S.take i).flatten ++ (S[i] ++ (S.drop (i + 1)).flatten) := by
    conv => lhs; rw [e1]
    simp only [List.flatten_append, List.flatten_cons]
  unfold lay
  rw [e2, e3]
  simp only [List.flatten_append, List.flatten_cons]
  rw [List.take_left, ← List.drop_drop, List.drop_left, hl, List.drop_left, List.append_assoc]

theorem Q3q {S : List (List Value)} {ls : List Nat} (h : S.map List.length = ls) (i : Nat) : (S.take i).flatten.length = (ls.take i).sum := by
  subst h
  rw [List.length_flatten, List.map_take]

def PxS (β B : Nat) (ls : List Nat) (S : List (List Value)) (i : Nat) : VP := fun v w =>
  S.map List.length = ls ∧ ∃ g e, β = g + 1 ∧ B ≤ g ∧ v = .pointer (some ⟨g, (ls.take i).sum, none⟩) ∧ Blk g e S.flatten w
def SxS (β B : Nat) (ls : List Nat) (S : List (List Value)) (i lo n c : Nat) : VP := fun v w =>
  S.map List.length = ls ∧ lo + n ≤ lo + c ∧ lo + c = ls.getD i 0 ∧ ∃ g e, β = g + 1 ∧ B ≤ g ∧ v = .slice (some ⟨g, (ls.take i).sum + (if c = 0 then 0 else lo), none⟩) n c ∧ Blk g e S.flatten w
def PxE (β B : Nat) (ls : List Nat) (S : List (List Value)) (i k : Nat) : VP := fun v w =>
  S.map List.length = ls ∧ k < ls.getD i 0 ∧ ∃ g e, β = g + 1 ∧ B ≤ g ∧ v = .pointer (some ⟨g, (ls.take i).sum + k, none⟩) ∧ Blk g e S.flatten w
def PxN (B : Nat) (ls : List Nat) (S : List (List Value)) : VP := fun v w => ∃ β, PxS β B ls S 0 v w
instance (β B : Nat) (ls : List Nat) (S : List (List Value)) (i : Nat) : Stb (PxS β B ls S i) := ⟨fun _ _ _ hx ⟨h0, g, e, h1, h2, h3, h4⟩ => ⟨h0, g, e, h1, h2, h3, h4.ext hx⟩⟩
instance (β B : Nat) (ls : List Nat) (S : List (List Value)) (i lo n c : Nat) : Stb (SxS β B ls S i lo n c) := ⟨fun _ _ _ hx ⟨h0, h5, h6, g, e, h1, h2, h3, h4⟩ => ⟨h0, h5, h6, g, e, h1, h2, h3, h4.ext hx⟩⟩
instance (β B : Nat) (ls : List Nat) (S : List (List Value)) (i k : Nat) : Stb (PxE β B ls S i k) := ⟨fun _ _ _ hx ⟨h0, h5, g, e, h1, h2, h3, h4⟩ => ⟨h0, h5, g, e, h1, h2, h3, h4.ext hx⟩⟩
instance (B : Nat) (ls : List Nat) (S : List (List Value)) : Stb (PxN B ls S) := ⟨fun _ _ _ hx ⟨β, h⟩ => ⟨β, Stb.st _ _ _ hx h⟩⟩

section
variable {β γ B : Nat} {ls : List Nat} {S S' : List (List Value)} {i : Nat} {v : Value} {w w' : World}
theorem PxN.at (h : PxN B ls S v w) : ∃ β, PxS β B ls S 0 v w := h
theorem PxS.lt (h : PxS β B ls S i v w) : B < β ∧ β ≤ w.heap.size := by
  obtain ⟨_, g, e, rfl, h2, _, h4⟩ := h
  have := h4.lt
  omega
theorem SxS.lt {lo n c : Nat} (h : SxS β B ls S i lo n c v w) : B < β ∧ β ≤ w.heap.size := by
  obtain ⟨_, _, _, g, e, rfl, h2, _, h4⟩ := h
  have := h4.lt
  omega
theorem SxS.other {lo n c : Nat} (h : SxS γ B ls S i lo n c v w) (hc : ChgAt β w w') (hne : γ = 0 ∨ γ ≠ β) : SxS γ B ls S i lo n c v w' := by
  obtain ⟨h0, h5, h6, g, e, rfl, h2, h3, h4⟩ := h
  exact ⟨h0, h5, h6, g, e, rfl, h2, h3, h4.other hc (by omega)⟩
theorem PxE.lt {k : Nat} (h : PxE β B ls S i k v w) : B < β ∧ β ≤ w.heap.size := by
  obtain ⟨_, _, g, e, rfl, h2, _, h4⟩ := h
  have := h4.lt
  omega
theorem PxE.other {k : Nat} (h : PxE γ B ls S i k v w) (hc : ChgAt β w w') (hne : γ = 0 ∨ γ ≠ β) : PxE γ B ls S i k v w' := by
  obtain ⟨h0, h5, g, e, rfl, h2, h3, h4⟩ := h
  exact ⟨h0, h5, g, e, rfl, h2, h3, h4.other hc (by omega)⟩
theorem PxS.pos (h : PxS β B ls S i v w) : B < β := by
  obtain ⟨_, g, e, rfl, h2, _, _⟩ := h
  omega
theorem PxS.other (h : PxS γ B ls S i v w) (hc : ChgAt β w w') (hne : γ = 0 ∨ γ ≠ β) : PxS γ B ls S i v w' := by
  obtain ⟨h0, g, e, rfl, h2, h3, h4⟩ := h
  exact ⟨h0, g, e, rfl, h2, h3, h4.other hc (by omega)⟩
theorem PxS.mono {B' : Nat} (h : PxS β B ls S i v w) (hB : B' ≤ B) : PxS β B' ls S i v w := by
  obtain ⟨h0, g, e, h1, h2, h3, h4⟩ := h
  exact ⟨h0, g, e, h1, Nat.le_trans hB h2, h3, h4⟩
theorem PxS.cast (h : PxS β B ls S i v w) (e : S = S') : PxS β B ls S' i v w := e ▸ h
theorem PxS.cells (h : PxS β B ls S i v w) : Cells (S.drop i).flatten v w := by
  obtain ⟨h0, g, e, h1, h2, h3, h4⟩ := h
  refine ⟨g, _, h3, fun j hj => ?_⟩
  rw [h4.cell, ← Q3q h0]
  have e : S.flatten = (S.take i).flatten ++ (S.drop i).flatten := by rw [← List.flatten_append, List.take_append_drop]
  rw [e, List.getElem?_append_right (by omega), Nat.add_sub_cancel_left]
  simp [List.getD_eq_getElem?_getD, List.getElem?_eq_getElem hj]

theorem Q8c {k : Nat} {s : List Value} (h0 : S.map List.length = ls) (hs : S[i]? = some s) (hk : k < s.length) : S.flatten[(ls.take i).sum + k]? = some s[k] := by
  obtain ⟨hi, rfl⟩ := List.getElem?_eq_some_iff.1 hs
  have e1 : S = S.take i ++ S[i] :: S.drop (i + 1) := by simp
  have e3 : S.flatten = (S.take i).flatten ++ (S[i] ++ (S.drop (i + 1)).flatten) := by
    conv => lhs; rw [e1]
    simp only [List.flatten_append, List.flatten_cons]
  rw [← Q3q h0, e3, List.getElem?_append_right (by omega), Nat.add_sub_cancel_left, List.getElem?_append_left hk, List.getElem?_eq_getElem hk]
theorem Q6b {s : List Value} (h0 : S.map List.length = ls) (hs : S[i]? = some s) : ls.getD i 0 = s.length := by
  subst h0
  simp [List.getD_eq_getElem?_getD, hs]
theorem SxS.bs {lo n c : Nat} {l : List UInt8} (h : SxS β B ls S i lo n c v w) (hs : S[i]? = some (l.map Q0t)) (hm : decide (c ≤ 1000000) = true) : Bs ((l.drop lo).take n) v w := by
  obtain ⟨h0, h5, h6, g, e, h1, h2, h3, h4⟩ := h
  have hl := Q6b h0 hs
  simp only [List.length_map] at hl
  have hm' := of_decide_eq_true hm
  have hlen : ((l.drop lo).take n).length = n := by simp; omega
  refine .inr ⟨_, c, by rw [h3, List.length_map, hlen], by rw [List.length_map, hlen]; omega, by unfold maxLen; omega, fun j hj => ?_⟩
  rw [List.length_map, hlen] at hj
  have hc : c ≠ 0 := by omega
  rw [if_neg hc]
  have hlo : lo + j < l.length := by omega
  refine ⟨Q0t l[lo + j], ?_, ?_⟩
  · rw [Go.WideShapes.add_plain, h4.cell, Nat.add_assoc, Q8c h0 hs (by simpa using hlo), List.getElem_map]
  · rw [Q26 _ _ _ (by omega)]
    show Q0t _ = Q0t _
    simp
end

section
variable {β B : Nat} {ls : List Nat} {S : List (List Value)} {i n k0 : Nat} {v : Value} {w : World} {l : List UInt8}
theorem SxS.all (h : SxS β B ls S i 0 n n v w) (hs : S[i]? = some (l.map Q0t)) (hm : decide (n ≤ 1000000) = true) : Bs l v w := by
  have h1 := h.bs hs hm
  have h2 := Q6b h.1 hs
  rw [List.length_map] at h2
  have h3 := h.2.2.1
  rw [List.drop_zero, List.take_of_length_le (by omega)] at h1
  exact h1
theorem SxS.hi {c : Nat} (h : SxS β B ls S i 0 n c v w) (hs : S[i]? = some (l.map Q0t)) (hm : decide (c ≤ 1000000) = true) : Bs (l.take n) v w := by
  have h1 := h.bs hs hm
  rwa [List.drop_zero] at h1
theorem SxS.lo (h : SxS β B ls S i k0 n n v w) (hs : S[i]? = some (l.map Q0t)) (hm : decide (n ≤ 1000000) = true) : Bs (l.drop k0) v w := by
  have h1 := h.bs hs hm
  have h2 := Q6b h.1 hs
  rw [List.length_map] at h2
  have h3 := h.2.2.1
  rw [List.take_of_length_le (by simp; omega)] at h1
  exact h1
end
def UpS (β : Nat) (ls : List Nat) (S S' : List (List Value)) (w w' : World) : Prop := ∀ B i v, PxS β B ls S i v w → PxS β B ls S' i v w'
def UpB (β : Nat) (l l' : List UInt8) (w w' : World) : Prop := ∀ B e u, OwnBA β B e l u w → OwnBA β B e l' u w'

section
variable {P : Program} {d : Option Tmp} {ty : TypeId} {pos : String} {af : Array Edge} {gd : Option (Nat × Bool)} {a : Act} {w : World} {β B : Nat} {ls : List Nat} {S : List (List Value)} {i : Nat} {t e : TypeId} {x y z : Operand}
theorem Q1y (S : List (List Value)) (ls : List Nat) (hx : a.eval x = .agg S.flatten.toArray) (hl : S.map List.length = ls) (hB : B ≤ w.heap.size) : OpOk P ⟨d, .box t x, ty, pos, af, gd⟩ a w (PxN B ls S) := by
  unfold OpOk
  have : (execOp a.eval ⟨d, .box t x, ty, pos, af, gd⟩).run P w = .ok (.value (.pointer (some ⟨w.heap.size, 0, none⟩))) (w.alloc (.cells S.flatten.toArray t)) := by
    simp [execOp, Instr.box, newVar, newRow, hx, Value.cells]
  rw [this]
  exact ⟨(Ext.refl w).alloc _, w.heap.size + 1, hl, w.heap.size, t, rfl, hB, by simp, Blk.new w _⟩
theorem Q0y (S : List (List Value)) (ls : List Nat) {zv : Value} (hz : ZeroIs P t zv) (hc : zv.cells = S.flatten.toArray) (hl : S.map List.length = ls) (hB : B ≤ w.heap.size) : OpOk P ⟨d, .alloc t, ty, pos, af, gd⟩ a w (PxN B ls S) := by
  unfold OpOk
  have : (execOp a.eval ⟨d, .alloc t, ty, pos, af, gd⟩).run P w = .ok (.value (.pointer (some ⟨w.heap.size, 0, none⟩))) (w.alloc (.cells S.flatten.toArray t)) := by
    simp [execOp, Instr.alloc, hz.run, newVar, newRow, hc]
  rw [this]
  exact ⟨(Ext.refl w).alloc _, w.heap.size + 1, hl, w.heap.size, t, rfl, hB, by simp, Blk.new w _⟩
theorem Q02 {fs : Array Field} {f : Field} {k n : Nat} (j : Nat) (hT : P.underlying t = some (.struct fs)) (hf : fs[k]? = some f) (hz : SizeIs P f.type n) (hn : (n == 0) = false) (hx : PxS β B ls S i (a.eval x) w) (hj : ((ls.take i).sum + f.offset == (ls.take j).sum) = true) :
    OpOk P ⟨d, .fieldAddr t x k, ty, pos, af, gd⟩ a w (PxS β B ls S j) := by
  obtain ⟨h0, g, e9, h1, h2, h3, h4⟩ := hx
  have hn' : n ≠ 0 := by simpa using hn
  have hj' : (ls.take i).sum + f.offset = (ls.take j).sum := by simpa using hj
  refine Q1g (v := .pointer (some ⟨g, (ls.take j).sum, none⟩)) ?_ ⟨h0, g, e9, h1, h2, rfl, h4⟩
  simp [execOp, Instr.fieldAt, h3, Instr.sureAddr, run_underlying hT, hf, fieldPlace, hz.run, hn', Go.WideShapes.add_plain, hj']
theorem Q0a {D : TypeDesc} {c : Value} (hT : P.underlying t = some D) (hD : (match D with | .struct _ | .array _ _ => false | _ => true) = true) (hx : PxS β B ls S i (a.eval x) w) (hs : S[i]? = some [c]) :
    OpOk P ⟨d, .load t x, ty, pos, af, gd⟩ a w (Is c) := by
  obtain ⟨h0, g, e9, h1, h2, h3, h4⟩ := hx
  refine Qbp hT hD ⟨⟨g, _, none⟩, c, h3, rfl, ?_, rfl⟩
  have := Q8c (k := 0) h0 hs (by simp)
  rw [h4.cell]; simpa using this
theorem Q0b {D : TypeDesc} {n : Nat} (j : Nat) (hT : P.underlying t = some D) (hD : (match D with | .struct _ | .array _ _ => true | _ => false) = true) (hz : SizeIs P t n) (hx : PxS β B ls S i (a.eval x) w) (hij : (decide (i ≤ j) && ((ls.take i).sum + n == (ls.take j).sum)) = true) :
    OpOk P ⟨d, .load t x, ty, pos, af, gd⟩ a w (Is (.agg ((S.drop i).take (j - i)).flatten.toArray)) := by
  have hc := hx.cells
  have h0 := hx.1
  simp only [Bool.and_eq_true, decide_eq_true_eq, beq_iff_eq] at hij
  have e1 : (S.drop i).flatten = ((S.drop i).take (j - i)).flatten ++ (S.drop j).flatten := by
    have : S.drop j = (S.drop i).drop (j - i) := by rw [List.drop_drop]; congr 1; omega
    rw [this, ← List.flatten_append, List.take_append_drop]
  have e2 : ((S.drop i).take (j - i)).flatten.length = n := by
    have h1 := Q3q h0 j
    have h2 := Q3q h0 i
    have : S.take j = S.take i ++ (S.drop i).take (j - i) := by
      have hji : j = i + (j - i) := by omega
      conv => lhs; rw [hji]
      rw [List.take_add]
    rw [this, List.flatten_append, List.length_append] at h1
    omega
  have := Qb6 (d := d) (ty := ty) (pos := pos) (af := af) (gd := gd) hT hD hz (cs := (S.drop i).flatten) (by rw [e1, List.length_append]; omega) hc
  rw [e1, ← e2, List.take_left] at this
  exact this
theorem Q4f {n : Nat} {k : IntKind} (j : Nat) (hT : P.underlying t = some (.array n e)) (hz : SizeIs P e 1) (hx : PxS β B ls S i (a.eval x) w) (hy : a.eval y = .int k (j : Int)) (hl : ls.getD i 0 = n) (hj : j < n) :
    OpOk P ⟨d, .indexAddr t x y, ty, pos, af, gd⟩ a w (PxE β B ls S i j) := by
  obtain ⟨h0, g, e9, h1, h2, h3, h4⟩ := hx
  refine Q1g (v := .pointer (some ⟨g, (ls.take i).sum + j, none⟩)) ?_ ⟨h0, by omega, g, e9, h1, h2, rfl, h4⟩
  simp [execOp, Instr.indexAt, h3, hy, asIntOf, run_underlying hT, hz.run, hj, Go.WideShapes.add_plain, Instr.sureAddr]
theorem Q5n {D : TypeDesc} {k : Nat} {l : List UInt8} (hT : P.underlying t = some D) (hD : (match D with | .struct _ | .array _ _ => false | _ => true) = true) (hx : PxE β B ls S i k (a.eval x) w) (hs : S[i]? = some (l.map Q0t)) (hk : k < l.length) :
    OpOk P ⟨d, .load t x, ty, pos, af, gd⟩ a w (ByteIs l[k]) := by
  obtain ⟨h0, h5, g, e9, h1, h2, h3, h4⟩ := hx
  refine Qbp hT hD ⟨⟨g, _, none⟩, Q0t l[k], h3, rfl, ?_, rfl⟩
  rw [h4.cell, Q8c h0 hs (by simpa using hk), List.getElem_map]
theorem Q7m {n : Nat} (hT : P.underlying t = some (.array n e)) (hz : SizeIs P e 1) (hx : PxS β B ls S i (a.eval x) w) (hl : ls.getD i 0 = n) :
    OpOk P ⟨d, .slice t x none none none, ty, pos, af, gd⟩ a w (SxS β B ls S i 0 n n) := by
  obtain ⟨h0, g, e9, h1, h2, h3, h4⟩ := hx
  obtain ⟨e1, e2, e3⟩ := Qhw hT
  have hr := run_sliceAt_array_all (P := P) w t ⟨g, (ls.take i).sum, none⟩ e1
  simp only [e2, e3, hz.run, Result.andThen_ok] at hr
  refine Q1g (v := .slice (some ⟨g, (ls.take i).sum + (if n = 0 then 0 else 0), none⟩) n n) ?_ ⟨h0, by omega, by omega, g, e9, h1, h2, rfl, h4⟩
  simp only [execOp, h3, Option.map_none]
  simp [hr, slicedAt, Go.WideShapes.add_plain]
theorem Qb8 {n : Nat} {k : IntKind} (hi : Nat) (hT : P.underlying t = some (.array n e)) (hz : SizeIs P e 1) (hx : PxS β B ls S i (a.eval x) w) (hl : ls.getD i 0 = n) (hy : a.eval y = .int k (hi : Int)) (hb : hi ≤ n) :
    OpOk P ⟨d, .slice t x none (some y) none, ty, pos, af, gd⟩ a w (SxS β B ls S i 0 hi n) := by
  obtain ⟨h0, g, e9, h1, h2, h3, h4⟩ := hx
  obtain ⟨e1, e2, e3⟩ := Qhw hT
  have hr := run_sliceAt_array_h (P := P) w t ⟨g, (ls.take i).sum, none⟩ e1 k hi (by omega) (by omega)
  simp only [e2, e3, hz.run, Result.andThen_ok, Int.toNat_natCast] at hr
  refine Q1g (v := .slice (some ⟨g, (ls.take i).sum + (if n = 0 then 0 else 0), none⟩) hi n) ?_ ⟨h0, by omega, by omega, g, e9, h1, h2, rfl, h4⟩
  simp only [execOp, h3, hy, Option.map_none, Option.map_some]
  simp [hr, slicedAt, Go.WideShapes.add_plain]
theorem Qh4 {n : Nat} {k : IntKind} (lo : Nat) (hT : P.underlying t = some (.array n e)) (hz : SizeIs P e 1) (hx : PxS β B ls S i (a.eval x) w) (hl : ls.getD i 0 = n) (hy : a.eval y = .int k (lo : Int)) (hb : lo < n) :
    OpOk P ⟨d, .slice t x (some y) none none, ty, pos, af, gd⟩ a w (SxS β B ls S i lo (n - lo) (n - lo)) := by
  obtain ⟨h0, g, e9, h1, h2, h3, h4⟩ := hx
  obtain ⟨e1, e2, e3⟩ := Qhw hT
  have hr := run_sliceAt_array_l (P := P) w t ⟨g, (ls.take i).sum, none⟩ e1 k lo (by omega) (by omega)
  simp only [e2, e3, hz.run, Result.andThen_ok, Int.toNat_natCast] at hr
  refine Q1g (v := .slice (some ⟨g, (ls.take i).sum + (if n - lo = 0 then 0 else lo), none⟩) (n - lo) (n - lo)) ?_ ⟨h0, by omega, by omega, g, e9, h1, h2, rfl, h4⟩
  simp only [execOp, h3, hy, Option.map_none, Option.map_some]
  rw [if_neg (by omega)]
  have hne : ¬ n = lo := by omega
  simp [hr, slicedAt, hne, Go.WideShapes.add_plain]
end

section
variable {P : Program} {Q : Exit → Act → World → Prop} {ops : Array Oper} {rest : List Oper} {d : Tmp} {op : Op} {ty : TypeId} {pos : String} {af : Array Edge} {a : Act} {w : World} {n : Nat} {β B : Nat} {ls : List Nat} {S : List (List Value)} {i : Nat} {t e : TypeId} {x y : Operand}

theorem SizeIs.get {m : Nat} (h : SizeIs P t m) : ∃ ti, P.info? t = some ti ∧ ti.size = m := by
  unfold SizeIs at h
  cases hi : P.info? t with
  | none => rw [hi] at h; cases h
  | some ti => rw [hi] at h; exact ⟨ti, rfl, by simpa using h⟩
theorem upS {g : Nat} {e : TypeId} {vs : List Value} {w' : World} (hβ : β = g + 1) (h0 : S.map List.length = ls) (hi : i < S.length) (hl : vs.length = ls.getD i 0) (h4 : Blk g e S.flatten w) (hb : Blk g e (lay S.flatten (ls.take i).sum vs) w') : UpS β ls S (S.set i vs) w w' := by
  have hl' : vs.length = S[i].length := by rw [hl, Q6b h0 (List.getElem?_eq_getElem hi)]
  rw [← Q3q h0, Q70 hi hl'] at hb
  rintro B' j v ⟨_, g', e', h1, h2, h3, h5⟩
  have : g' = g := by omega
  subst this
  refine ⟨?_, g', e, h1, h2, h3, hb⟩
  subst h0
  apply List.ext_getElem?
  intro m
  simp only [List.getElem?_map, List.getElem?_set]
  by_cases hm : i = m
  · subst hm; simp [hi, hl']
  · simp [hm]
theorem Q8e {e9 : TypeId} {g o : Nat} {u : Value} {cs : List Value} (hz : SizeIs P t 1) (hu : u.oneCell' = true) (hb : Blk g e9 cs w) (ho : o < cs.length) (hx : a.eval x = .pointer (some ⟨g, o, none⟩)) (hy : a.eval y = u) {gd : Option (Nat × Bool)} {dst : Option Tmp} :
    ∃ w', (∃ nx, (nx = .skip ∨ nx = .value undef) ∧ (execOp a.eval ⟨dst, .store t x y, ty, pos, af, gd⟩).run P w = .ok nx w') ∧ ChgAt (g + 1) w w' ∧ Blk g e9 (lay cs o [u]) w' := by
  obtain ⟨w', hr, hc, hb'⟩ := hb.store (P := P) (o := o) (vs := [u]) (by simp; omega) (by simpa using hu)
  obtain ⟨ti, hti, hs⟩ := hz.get
  refine ⟨w', ?_, hc, hb'⟩
  have hcu : u.cells = #[u] := by cases u <;> first | rfl | simp [Value.oneCell'] at hu
  have : (storeVar t ⟨g, o, none⟩ u).run P w = .ok () w' := by
    simp [storeVar, hcu, sizeOf, typeInfo, hti, hs, hr]
  first
    | exact ⟨.skip, .inl rfl, by simp [execOp, Instr.storeAt, Instr.sureAddr, hx, hy, this]⟩
    | exact ⟨.value undef, .inr rfl, by simp [execOp, Instr.storeAt, Instr.sureAddr, hx, hy, this]⟩
theorem Q8d {e9 : TypeId} {g o m : Nat} {vs cs : List Value} (hz : SizeIs P t m) (hm : vs.length = m) (hu : ∀ u ∈ vs, u.oneCell' = true) (hb : Blk g e9 cs w) (ho : o + vs.length ≤ cs.length) (hx : a.eval x = .pointer (some ⟨g, o, none⟩)) (hy : a.eval y = .agg vs.toArray) {gd : Option (Nat × Bool)} {dst : Option Tmp} :
    ∃ w', (∃ nx, (nx = .skip ∨ nx = .value undef) ∧ (execOp a.eval ⟨dst, .store t x y, ty, pos, af, gd⟩).run P w = .ok nx w') ∧ ChgAt (g + 1) w w' ∧ Blk g e9 (lay cs o vs) w' := by
  obtain ⟨w', hr, hc, hb'⟩ := hb.store (P := P) (o := o) (vs := vs) ho hu
  obtain ⟨ti, hti, hs⟩ := hz.get
  refine ⟨w', ?_, hc, hb'⟩
  have : (storeVar t ⟨g, o, none⟩ (.agg vs.toArray)).run P w = .ok () w' := by
    simp [storeVar, Value.cells, sizeOf, typeInfo, hti, hs, hm, hr]
  first
    | exact ⟨.skip, .inl rfl, by simp [execOp, Instr.storeAt, Instr.sureAddr, hx, hy, this]⟩
    | exact ⟨.value undef, .inr rfl, by simp [execOp, Instr.storeAt, Instr.sureAddr, hx, hy, this]⟩

theorem Q1z {u : Value} (hfr : FrD dfs n a) (hz : SizeIs P t 1) (hx : PxS β B ls S i (a.eval x) w) (hy : a.eval y = u) (hu : u.oneCell' = true) (hl : (ls[i]? == some 1) = true)
    (k : ∀ a' w', ChgAt β w w' → UpS β ls S (S.set i [u]) w w' → FrD dfs n a' → Same [] a a' → wpList P ops Q rest a' w') :
    wpList P ops Q (⟨none, .store t x y, ty, pos, af, none⟩ :: rest) a w := by
  obtain ⟨h0, g, e9, h1, h2, h3, h4⟩ := hx
  have hl : ls[i]? = some 1 := by simpa using hl
  have hiS : i < S.length := by
    have := (List.getElem?_eq_some_iff.1 hl).1
    rw [← h0] at this; simpa using this
  have hli : ls.getD i 0 = 1 := by simp [List.getD_eq_getElem?_getD, hl]
  have hoff : (ls.take i).sum < S.flatten.length := by
    have hs : S[i].length = 1 := by rw [← Q6b h0 (List.getElem?_eq_getElem hiS)]; exact hli
    have := Q8c (k := 0) h0 (List.getElem?_eq_getElem hiS) (by omega)
    have := (List.getElem?_eq_some_iff.1 this).1
    omega
  obtain ⟨w', ⟨nx, hnx, hrun⟩, hc, hb⟩ := Q8e (ty := ty) (pos := pos) (af := af) (gd := none) (dst := none) hz hu h4 hoff h3 hy
  refine wpList_plain rfl fun K hK => ?_
  have := k a w' (h1 ▸ hc) (upS h1 h0 hiS (by simpa using hli.symm) h4 hb) hfr Same.rfl
  unfold Oper.wp
  rw [hrun]
  rcases hnx with rfl | rfl <;> exact hK _ _ this
theorem Q0k {vs : List Value} {m : Nat} (hfr : FrD dfs n a) (hz : SizeIs P t m) (hx : PxS β B ls S i (a.eval x) w) (hy : a.eval y = .agg vs.toArray) (hm : vs.length = m) (hu : ∀ u ∈ vs, u.oneCell' = true) (hl : (ls[i]? == some m) = true)
    (k : ∀ a' w', ChgAt β w w' → UpS β ls S (S.set i vs) w w' → FrD dfs n a' → Same [] a a' → wpList P ops Q rest a' w') :
    wpList P ops Q (⟨none, .store t x y, ty, pos, af, none⟩ :: rest) a w := by
  obtain ⟨h0, g, e9, h1, h2, h3, h4⟩ := hx
  have hl : ls[i]? = some m := by simpa using hl
  have hiS : i < S.length := by
    have := (List.getElem?_eq_some_iff.1 hl).1
    rw [← h0] at this; simpa using this
  have hli : ls.getD i 0 = m := by simp [List.getD_eq_getElem?_getD, hl]
  have hs : S[i].length = m := by rw [← Q6b h0 (List.getElem?_eq_getElem hiS)]; exact hli
  have hoff : (ls.take i).sum + vs.length ≤ S.flatten.length := by
    have e1 : S = S.take i ++ S[i] :: S.drop (i + 1) := by simp
    have e3 : S.flatten = (S.take i).flatten ++ (S[i] ++ (S.drop (i + 1)).flatten) := by
      conv => lhs; rw [e1]
      simp only [List.flatten_append, List.flatten_cons]
    rw [e3, List.length_append, List.length_append, Q3q h0]
    omega
  obtain ⟨w', ⟨nx, hnx, hrun⟩, hc, hb⟩ := Q8d (ty := ty) (pos := pos) (af := af) (gd := none) (dst := none) hz hm hu h4 hoff h3 hy
  refine wpList_plain rfl fun K hK => ?_
  have := k a w' (h1 ▸ hc) (upS h1 h0 hiS (by rw [hm]; exact hli.symm) h4 hb) hfr Same.rfl
  unfold Oper.wp
  rw [hrun]
  rcases hnx with rfl | rfl <;> exact hK _ _ this

theorem Qnj {s : List Value} {k : Nat} {vs : List Value} (h0 : S.map List.length = ls) (hs : S[i]? = some s) (hk : k + vs.length ≤ s.length) : lay S.flatten ((ls.take i).sum + k) vs = lay S.flatten (ls.take i).sum (lay s k vs) := by
  obtain ⟨hi, rfl⟩ := List.getElem?_eq_some_iff.1 hs
  have e1 : S = S.take i ++ S[i] :: S.drop (i + 1) := by simp
  have e3 : S.flatten = (S.take i).flatten ++ (S[i] ++ (S.drop (i + 1)).flatten) := by
    conv => lhs; rw [e1]
    simp only [List.flatten_append, List.flatten_cons]
  have hll : (lay S[i] k vs).length = S[i].length := by simp [lay]; omega
  rw [← Q3q h0]
  unfold lay at *
  rw [e3]
  have f1 : ∀ m, ((S.take i).flatten ++ (S[i] ++ (S.drop (i + 1)).flatten)).take ((S.take i).flatten.length + m) = (S.take i).flatten ++ (S[i] ++ (S.drop (i + 1)).flatten).take m := fun m => List.take_length_add_append ..
  have f2 : ∀ m, ((S.take i).flatten ++ (S[i] ++ (S.drop (i + 1)).flatten)).drop ((S.take i).flatten.length + m) = (S[i] ++ (S.drop (i + 1)).flatten).drop m := fun m => List.drop_length_add_append ..
  rw [List.take_left, hll, f1, Nat.add_assoc, f2, f2, List.drop_left, List.take_append_of_le_length (by omega), List.drop_append_of_le_length (by omega)]
  simp only [List.append_assoc]
def cpy (l : List UInt8) (lo n : Nat) (m : List UInt8) : List UInt8 := l.take lo ++ m.take n ++ l.drop (lo + min n m.length)
theorem Qic {l m : List UInt8} {lo n : Nat} (h : lo + n ≤ l.length) : (cpy l lo n m).length = l.length := by
  unfold cpy; simp; omega
theorem Qid {l : List UInt8} {lo n : Nat} : cpy l lo n [] = l := by simp [cpy]
theorem Qfw {l m : List UInt8} {lo : Nat} : cpy l lo 0 m = l := by simp [cpy]

theorem Q8t {e9 : TypeId} {g o n' c : Nat} {cs us : List Value} {p : Addr} {m c' : Nat} (tt : TypeId) (hT : P.underlying t = some (.slice e)) (hz : SizeIs P e 1) (hb : Blk g e9 cs w) (hn : us.length = Nat.min m n') (hfit : o + us.length ≤ cs.length)
    (hsrc : ∀ j v, us[j]? = some v → w.cell? (p.add j) = some v) (h1 : ∀ u ∈ us, u.oneCell' = true) :
    ∃ w', (Builtin.copy_ #[t, tt] ty #[.slice (some ⟨g, o, none⟩) n' c, .slice (some p) m c']).run P w = .ok (goInt us.length) w' ∧ ChgAt (g + 1) w w' ∧ Blk g e9 (lay cs o us) w' := by
  have hr := run_copy_row P w t tt ty e g o n' c p m c' cs.toArray e9 us hT hz hb hn hsrc (by simpa using hfit) h1
  refine ⟨_, hr, ⟨rfl, rfl, rfl, by simp [World.setRow], fun k _ hne => setRow_other _ _ _ _ (by omega)⟩, ?_⟩
  unfold Blk
  rw [setRow_heap w g _ _ e9 (0, 0) hb]
  rfl

theorem Qd6 {m : List UInt8} {v : Value} (h : Bs m v w) : (v = .slice none 0 0 ∧ m = []) ∨ ∃ p c, v = .slice (some p) m.length c ∧ ∀ j u, (m.map Q0t)[j]? = some u → w.cell? (p.add j) = some u := by
  rcases h with ⟨hv, hl⟩ | ⟨p, cap, hv, h2, h3, h4⟩
  · exact .inl ⟨hv, by simpa using hl⟩
  · simp only [List.length_map] at hv h2 h4
    refine .inr ⟨p, cap, hv, fun j u hj => ?_⟩
    obtain ⟨hjl, rfl⟩ := List.getElem?_eq_some_iff.1 hj
    simp only [List.length_map] at hjl
    obtain ⟨x', hc, hr⟩ := h4 j hjl
    rw [Q26 _ _ _ hjl] at hr
    rw [hc, List.getElem_map]; exact congrArg some hr

theorem Q6c {dst : Option Tmp} {tt : TypeId} {u v : Value} {r : Value} {w' : World} (hx : a.eval x = u) (hy : a.eval y = v) (h : (Builtin.copy_ #[t, tt] ty #[u, v]).run P w = .ok r w') {gd : Option (Nat × Bool)} :
    (execOp a.eval ⟨dst, .call ⟨.builtin .copy, #[x, y], #[t, tt]⟩, ty, pos, af, gd⟩).run P w = .ok (.value r) w' := by
  simp only [execOp, resolve, invoke, builtin]
  simp [hx, hy, h]

theorem Qnk {cs : List Value} {o : Nat} (h : o ≤ cs.length) : lay cs o [] = cs := by simp [lay]
theorem Qfx {s : List Value} (h0 : S.map List.length = ls) (hs : S[i]? = some s) : lay S.flatten (ls.take i).sum s = S.flatten := by
  obtain ⟨hi, rfl⟩ := List.getElem?_eq_some_iff.1 hs
  rw [← Q3q h0, Q70 hi rfl, List.set_getElem_self]
theorem Q7n {dst : Option Tmp} {tt : TypeId} {lo n' c : Nat} {l m : List UInt8} (hfr : FrD dfs n a) (hT : P.underlying t = some (.slice e)) (hz : SizeIs P e 1) (hx : SxS β B ls S i lo n' c (a.eval x) w) (hs : S[i]? = some (l.map Q0t)) (hy : Bs m (a.eval y) w)
    (k : ∀ a' w', ChgAt β w w' → UpS β ls S (S.set i ((cpy l lo n' m).map Q0t)) w w' → FrD dfs n a' → Same dst.toList a a' → wpList P ops Q rest a' w') :
    wpList P ops Q (⟨dst, .call ⟨.builtin .copy, #[x, y], #[t, tt]⟩, ty, pos, af, none⟩ :: rest) a w := by
  obtain ⟨h0, h5, h6, g, e9, h1, h2, h3, h4⟩ := hx
  have hl := Q6b h0 hs
  rw [List.length_map] at hl
  have hiS : i < S.length := (List.getElem?_eq_some_iff.1 hs).1
  have hsame : ∀ r : Value, Same dst.toList a (a.put dst r) := fun r => by cases dst with | none => exact Same.refl | some d => exact Q2x
  rcases Qd6 hy with ⟨hv, rfl⟩ | ⟨p, c', hv, hsrc⟩
  · have hi : ((P.info? e).map (·.size)).isSome = true := by rw [show (P.info? e).map (·.size) = some 1 from hz]; rfl
    have hr := Q6c (a := a) (x := x) (y := y) (pos := pos) (af := af) (dst := dst) (gd := none) h3 hv (run_copy_nil P w t tt ty e _ n' c hT hi)
    refine wpList_plain rfl fun K hK => ?_
    unfold Oper.wp
    rw [hr]
    refine hK _ _ (k _ w (ChgAt.refl _ _) ?_ (Q47 hfr) (hsame _))
    rw [Qid]
    exact upS h1 h0 hiS (by simpa using hl.symm) h4 (by rw [Qfx h0 hs]; exact h4)
  · have hfl : (ls.take i).sum + (l.map Q0t).length ≤ S.flatten.length := by
      have e1 : S = S.take i ++ S[i] :: S.drop (i + 1) := by simp
      have e3 : S.flatten = (S.take i).flatten ++ (S[i] ++ (S.drop (i + 1)).flatten) := by
        conv => lhs; rw [e1]
        simp only [List.flatten_append, List.flatten_cons]
      have e4 : S[i] = l.map Q0t := by rw [List.getElem?_eq_getElem hiS] at hs; exact Option.some.inj hs
      rw [e3, e4, List.length_append, List.length_append, Q3q h0]; omega
    rw [List.length_map] at hfl
    have hus : ((m.take n').map Q0t).length = Nat.min m.length n' := by simp [Nat.min_comm]
    have huln : ((m.take n').map Q0t).length ≤ n' := by rw [hus]; exact Nat.min_le_right _ _
    obtain ⟨w', hr, hc, hb⟩ := Q8t (ty := ty) tt hT hz h4 (o := (ls.take i).sum + (if c = 0 then 0 else lo)) (c := c) (p := p) (c' := c') hus (by split <;> omega) (fun j u hj => hsrc j u (by
      rw [List.map_take, List.getElem?_take] at hj
      split at hj
      · exact hj
      · cases hj)) (fun u hu => by obtain ⟨q, _, rfl⟩ := List.mem_map.1 hu; rfl)
    have hr' := Q6c (a := a) (x := x) (y := y) (pos := pos) (af := af) (dst := dst) (gd := none) h3 hv hr
    refine wpList_plain rfl fun K hK => ?_
    unfold Oper.wp
    rw [hr']
    refine hK _ _ (k _ w' (h1 ▸ hc) ?_ (Q47 hfr) (hsame _))
    by_cases hc0 : c = 0
    · have hn0 : n' = 0 := by omega
      subst hn0
      rw [if_pos hc0] at hb
      rw [Qfw]
      simp only [List.take_zero, List.map_nil] at hb
      rw [Qnk (by omega)] at hb
      exact upS h1 h0 hiS (by simpa using hl.symm) h4 (by rw [Qfx h0 hs]; exact hb)
    · rw [if_neg hc0, Qnj h0 hs (by have hlm : (l.map Q0t).length = l.length := (by simp); rw [hlm]; omega)] at hb
      have e2 : lay (l.map Q0t) lo ((m.take n').map Q0t) = (cpy l lo n' m).map Q0t := by
        unfold lay cpy
        simp [Nat.min_comm]
      rw [e2] at hb
      exact upS h1 h0 hiS (by rw [List.length_map, Qic (by omega)]; exact hl.symm) h4 hb
end

/-! ## Owned rows of bytes, written into -/
section
variable {β B : Nat} {e : TypeId} {l l' : List UInt8} {u v : Value} {w w' : World}
theorem OwnBA.blk (h : OwnBA β B e l v w) : (v = .slice none 0 0 ∧ l = [] ∧ β = 0) ∨ ∃ (g : Nat) (r : List Value), β = g + 1 ∧ B ≤ g ∧ v = .slice (some ⟨g, 0, none⟩) l.length (l.length + r.length) ∧ w.heap[g]? = some (.cells (l.map Q0t ++ r).toArray e (0, 0)) ∧ l.length + r.length ≤ maxLen := by
  obtain ⟨⟨h1, h2⟩, hb⟩ := h
  rcases h2 with ⟨h3, h4⟩ | ⟨g, cap, cur, h3, h4, h5, h6, h7, h8, h9⟩
  · exact .inl ⟨h3, by simpa using h4, by rw [← hb, h3]; rfl⟩
  · rw [List.length_map] at h3 h6 h9
    refine .inr ⟨g, cur.toList.drop l.length, by rw [← hb, h3]; rfl, h4, ?_, ?_, ?_⟩
    · rw [h3]; congr 1; simp; omega
    · rw [h5]
      congr 2
      rw [Nat.mul_one] at h9
      rw [← h9, List.take_append_drop]
    · simp; omega
theorem OwnBA.mk' {g : Nat} {r : List Value} (hB : B ≤ g) (hh : w.heap[g]? = some (.cells (l.map Q0t ++ r).toArray e (0, 0))) (hm : l.length + r.length ≤ maxLen) : OwnBA (g + 1) B e l (.slice (some ⟨g, 0, none⟩) l.length (l.length + r.length)) w :=
  ⟨⟨by simp, .inr ⟨g, l.length + r.length, (l.map Q0t ++ r).toArray, by simp, hB, hh, by simp, hm, by simp, by simp⟩⟩, rfl⟩
theorem OwnBA.up (h : OwnBA β B e l v w) (hlen : l'.length = l.length) (hw : ∀ g r, β = g + 1 → w.heap[g]? = some (.cells (l.map Q0t ++ r).toArray e (0, 0)) → w'.heap[g]? = some (.cells (l'.map Q0t ++ r).toArray e (0, 0))) : UpB β l l' w w' := by
  intro B' e' u hu
  rcases hu.blk with ⟨rfl, rfl, rfl⟩ | ⟨g, r, hg, hB, rfl, hh, hm⟩
  · have : l' = [] := List.eq_nil_of_length_eq_zero (by simpa using hlen)
    subst this; exact Q2o
  · rcases h.blk with ⟨_, _, hz⟩ | ⟨g', r', hg', hB', _, hh', hm'⟩
    · omega
    · have : g' = g := by omega
      subst this
      rw [hh] at hh'
      simp only [Option.some.injEq, Obj.cells.injEq] at hh'
      obtain ⟨he, he2, _⟩ := hh'
      have he : l.map Q0t ++ r = l.map Q0t ++ r' := by simpa using he
      have hrr : r = r' := List.append_cancel_left he
      subst hrr
      subst he2
      have := OwnBA.mk' (l := l') hB (hw g' r hg hh) (by omega)
      rw [hlen] at this
      subst hg
      exact this
theorem OwnBA.upL {g : Nat} {r c' : List Value} (h : OwnBA β B e l v w) (hg : β = g + 1) (hh : w.heap[g]? = some (.cells (l.map Q0t ++ r).toArray e (0, 0))) (hb : Blk g e c' w') (hlen : l'.length = l.length) (hc : c' = l'.map Q0t ++ r) : UpB β l l' w w' :=
  h.up hlen fun g' r' hg' hh' => by
    have : g' = g := by omega
    subst this
    rw [hh] at hh'
    simp only [Option.some.injEq, Obj.cells.injEq] at hh'
    have hq : l.map Q0t ++ r = l.map Q0t ++ r' := by simpa using hh'.1
    have hrr : r = r' := List.append_cancel_left hq
    subst hrr
    subst hc
    exact hb
def SubA (β B : Nat) (e : TypeId) (l : List UInt8) (lo : Nat) : VP := fun v w => lo ≤ l.length ∧ ∃ v0, OwnBA β B e l v0 w ∧ match v0 with
  | .slice (some p) n c => v = .slice (some (if c = lo then p else p.add lo)) (n - lo) (c - lo)
  | _ => v = .slice none 0 0
instance (β B : Nat) (e : TypeId) (l : List UInt8) (lo : Nat) : Stb (SubA β B e l lo) := ⟨fun _ _ _ hx ⟨h0, v0, h1, h2⟩ => ⟨h0, v0, Stb.st _ _ _ hx h1, h2⟩⟩
def EpA (β B : Nat) (e : TypeId) (l : List UInt8) (i : Nat) : VP := fun v w => i < l.length ∧ ∃ v0, OwnBA β B e l v0 w ∧ v = Qhx v0 i
instance (β B : Nat) (e : TypeId) (l : List UInt8) (i : Nat) : Stb (EpA β B e l i) := ⟨fun _ _ _ hx ⟨h0, v0, h1, h2⟩ => ⟨h0, v0, Stb.st _ _ _ hx h1, h2⟩⟩
theorem SubA.lt {lo : Nat} (h : SubA β B e l lo v w) : (β = 0 ∨ B < β) ∧ β ≤ w.heap.size := by
  obtain ⟨_, v0, h1, _⟩ := h
  exact OwnBA.lt h1
theorem SubA.other {γ lo : Nat} (h : SubA γ B e l lo v w) (hc : ChgAt β w w') (hne : γ = 0 ∨ γ ≠ β) : SubA γ B e l lo v w' := by
  obtain ⟨h0, v0, h1, h2⟩ := h
  exact ⟨h0, v0, OwnBA.other h1 hc hne, h2⟩
theorem EpA.lt {i : Nat} (h : EpA β B e l i v w) : (β = 0 ∨ B < β) ∧ β ≤ w.heap.size := by
  obtain ⟨_, v0, h1, _⟩ := h
  exact OwnBA.lt h1
theorem EpA.other {γ i : Nat} (h : EpA γ B e l i v w) (hc : ChgAt β w w') (hne : γ = 0 ∨ γ ≠ β) : EpA γ B e l i v w' := by
  obtain ⟨h0, v0, h1, h2⟩ := h
  exact ⟨h0, v0, OwnBA.other h1 hc hne, h2⟩
theorem SubA.bs {lo : Nat} (h : SubA β B e l lo v w) : Bs (l.drop lo) v w := by
  obtain ⟨h0, v0, h1, h2⟩ := h
  rcases h1.blk with ⟨rfl, rfl, rfl⟩ | ⟨g, r, hg, hB, rfl, hh, hm⟩
  · exact .inl ⟨h2, by simp⟩
  · have h2 : v = .slice (some (if l.length + r.length = lo then ⟨g, 0, none⟩ else Addr.add ⟨g, 0, none⟩ lo)) (l.length - lo) (l.length + r.length - lo) := h2
    have hlen : (l.drop lo).length = l.length - lo := by simp
    refine .inr ⟨_, _, by rw [List.length_map, hlen]; exact h2, by rw [List.length_map, hlen]; omega, by omega, fun j hj => ?_⟩
    rw [List.length_map, hlen] at hj
    rw [if_neg (by omega), Go.WideShapes.add_plain, Go.WideShapes.add_plain]
    refine ⟨Q0t (l[lo + j]'(by omega)), ?_, ?_⟩
    · unfold World.cell?
      rw [hh]
      simp [List.getElem?_append_left, show lo + j < l.length from by omega]
    · rw [Q26 _ _ _ (by omega)]
      show Q0t _ = Q0t _
      simp
end

section
variable {P : Program} {d : Option Tmp} {ty : TypeId} {pos : String} {af : Array Edge} {gd : Option (Nat × Bool)} {a : Act} {w : World} {β B : Nat} {t e e' : TypeId} {x y : Operand} {l : List UInt8}
theorem Qeh {k : IntKind} (lo : Nat) (hT : P.underlying t = some (.slice e)) (hz : SizeIs P e 1) (hx : OwnBA β B e' l (a.eval x) w) (hy : a.eval y = .int k (lo : Int)) (h2 : lo ≤ l.length) :
    OpOk P ⟨d, .slice t x (some y) none none, ty, pos, af, gd⟩ a w (SubA β B e' l lo) := by
  have ht := Qe9 hT
  have he : P.elem t = e := by simp [Program.elem, hT]
  rcases hx.blk with ⟨hv, rfl, rfl⟩ | ⟨g, r, hg, hB, hv, hh, hm⟩
  · have h0 : lo = 0 := by simpa using h2
    subst h0
    refine Q1g (v := .slice none 0 0) ?_ ⟨Nat.zero_le _, .slice none 0 0, hv ▸ hx, rfl⟩
    have h3 := run_slice_l (P := P) w t none 0 0 ht k 0 (by decide) (by decide)
    simp only [he, hz.run, Result.andThen_ok] at h3
    have h4 : (Instr.sliceAt t (.slice none 0 0) (some (.int k 0)) none none).run P w = .ok (.slice none 0 0) w := by
      rw [run_sliceAt_slice (P := P) (w := w) (h := ht)]; rw [h3]; simp [sliced]
    have hy' : a.eval y = .int k 0 := hy
    simp only [execOp, hv, hy', Option.map_none, Option.map_some]
    simp [h4]
  · refine Q1g (v := .slice (some (if l.length + r.length = lo then ⟨g, 0, none⟩ else Addr.add ⟨g, 0, none⟩ lo)) (l.length - lo) (l.length + r.length - lo)) ?_ ⟨h2, _, hv ▸ hx, rfl⟩
    have h3 := run_slice_l (P := P) w t (some ⟨g, 0, none⟩) l.length (l.length + r.length) ht k lo (by omega) (by omega)
    simp only [he, hz.run, Result.andThen_ok] at h3
    have h4 : (Instr.sliceAt t (.slice (some ⟨g, 0, none⟩) l.length (l.length + r.length)) (some (.int k lo)) none none).run P w = .ok (.slice (some (if l.length + r.length = lo then ⟨g, 0, none⟩ else Addr.add ⟨g, 0, none⟩ lo)) (l.length - lo) (l.length + r.length - lo)) w := by
      rw [run_sliceAt_slice (P := P) (w := w) (h := ht)]; rw [h3]
      simp [sliced]
      split <;> rfl
    simp only [execOp, hv, hy, Option.map_none, Option.map_some]
    simp [h4]
theorem Q34 {k : IntKind} (i : Nat) (hT : P.underlying t = some (.slice e)) (hz : SizeIs P e 1) (hx : OwnBA β B e' l (a.eval x) w) (hy : a.eval y = .int k (i : Int)) (hi : i < l.length) :
    OpOk P ⟨d, .indexAddr t x y, ty, pos, af, gd⟩ a w (EpA β B e' l i) := by
  have h := Qcu (dst := d) (ty := ty) (pos := pos) (af := af) (gd := gd) i hT hz hx.bs.v rfl hy (by simpa using hi)
  unfold OpOk Qfl at h ⊢
  generalize (execOp a.eval _).run P w = q at h ⊢
  cases q with
  | halt x w' => exact h.elim
  | ok nx w' =>
    cases nx <;> first | exact h.elim | skip
    case value v => exact ⟨h.1, hi, _, Stb.st _ _ _ h.1 hx, h.2⟩
    case skip => exact ⟨h.1, hi, _, Stb.st _ _ _ h.1 hx, h.2⟩
    case enter f args => exact ⟨h.1, h.2.mono fun e w'' ⟨v, he, hx', hv⟩ => ⟨v, he, hx', hi, _, Stb.st _ _ _ hx' hx, hv⟩⟩
theorem EpA.ptr {i : Nat} {v : Value} (h : EpA β B e l i v w) : Ptr (ByteIs (l[i]'h.1)) v w := by
  obtain ⟨h0, v0, h1, h2⟩ := h
  rcases h1.blk with ⟨rfl, rfl, rfl⟩ | ⟨g, r, hg, hB, rfl, hh, hm⟩
  · simp at h0
  · refine ⟨_, Q0t l[i], h2, by rw [Go.WideShapes.add_plain], ?_, rfl⟩
    rw [Go.WideShapes.add_plain]
    unfold World.cell?
    rw [hh]
    simp [List.getElem?_append_left, h0]
end
section
variable {P : Program} {Q : Exit → Act → World → Prop} {ops : Array Oper} {rest : List Oper} {d : Tmp} {op : Op} {ty : TypeId} {pos : String} {af : Array Edge} {a : Act} {w : World} {n : Nat} {β B : Nat} {t e e' : TypeId} {x y : Operand} {l : List UInt8}
theorem Q35 {i : Nat} {c : UInt8} (hfr : FrD dfs n a) (hz : SizeIs P t 1) (hx : EpA β B e l i (a.eval x) w) (hy : ByteIs c (a.eval y) w)
    (k : ∀ a' w', ChgAt β w w' → UpB β l (l.set i c) w w' → FrD dfs n a' → Same [] a a' → wpList P ops Q rest a' w') :
    wpList P ops Q (⟨none, .store t x y, ty, pos, af, none⟩ :: rest) a w := by
  obtain ⟨h0, v0, h1, h2⟩ := hx
  rcases h1.blk with ⟨_, rfl, _⟩ | ⟨g, r, hg, hB, hv, hh, hm⟩
  · simp at h0
  · have hx' : a.eval x = .pointer (some ⟨g, i, none⟩) := by
      rw [h2, hv]
      show Value.pointer (some (Addr.add ⟨g, 0, none⟩ i)) = _
      rw [Go.WideShapes.add_plain, Nat.zero_add]
    obtain ⟨w', ⟨nx, hnx, hrun⟩, hc, hb⟩ := Q8e (e9 := e) (cs := l.map Q0t ++ r) (u := Q0t c) (ty := ty) (pos := pos) (af := af) (gd := none) (dst := none) hz rfl hh (by simp; omega) hx' hy
    refine wpList_plain rfl fun K hK => ?_
    have hup : UpB β l (l.set i c) w w' := h1.upL hg hh hb (by simp) (by
      rw [List.map_set]
      unfold lay
      rw [List.set_eq_take_append_cons_drop, if_pos (by simpa using h0), List.take_append_of_le_length (by simp; omega), List.drop_append_of_le_length (by simp; omega)]
      simp)
    have := k a w' (hg ▸ hc) hup hfr Same.rfl
    unfold Oper.wp
    rw [hrun]
    rcases hnx with rfl | rfl <;> exact hK _ _ this
theorem Qbt {dst : Option Tmp} {tt : TypeId} {lo : Nat} {m : List UInt8} (hfr : FrD dfs n a) (hT : P.underlying t = some (.slice e')) (hz : SizeIs P e' 1) (hx : SubA β B e l lo (a.eval x) w) (hy : Bs m (a.eval y) w)
    (k : ∀ a' w', ChgAt β w w' → UpB β l (cpy l lo (l.length - lo) m) w w' → FrD dfs n a' → Same dst.toList a a' → wpList P ops Q rest a' w') :
    wpList P ops Q (⟨dst, .call ⟨.builtin .copy, #[x, y], #[t, tt]⟩, ty, pos, af, none⟩ :: rest) a w := by
  obtain ⟨h0, v0, h1, h2⟩ := hx
  have hsame : ∀ r : Value, Same dst.toList a (a.put dst r) := fun r => by cases dst with | none => exact Same.refl | some d => exact Q2x
  have hi : ((P.info? e').map (·.size)).isSome = true := by rw [show (P.info? e').map (·.size) = some 1 from hz]; rfl
  rcases h1.blk with ⟨hv0, rfl, rfl⟩ | ⟨g, r, hg, hB, hv0, hh, hm⟩
  · subst hv0
    have h2 : a.eval x = .slice none 0 0 := h2
    have hr : (Builtin.copy_ #[t, tt] ty #[.slice none 0 0, a.eval y]).run P w = .ok (goInt 0) w := by
      obtain ⟨ti, hti, hs⟩ := hz.get
      rcases Qd6 hy with ⟨hv, _⟩ | ⟨p, c', hv, _⟩ <;> rw [hv] <;> simp [Builtin.copy_, run_underlying hT, Builtin.lenOf, Builtin.firstCells, sizeOf, typeInfo, hti, loadCells, loadCellsFrom]
    refine wpList_plain rfl fun K hK => ?_
    unfold Oper.wp
    rw [Q6c (a := a) (x := x) (y := y) (pos := pos) (af := af) (dst := dst) (gd := none) h2 rfl hr]
    refine hK _ _ (k _ w (ChgAt.refl _ _) ?_ (Q47 hfr) (hsame _))
    intro B' e'' u hu
    have : cpy [] lo (([] : List UInt8).length - lo) m = [] := by simp [cpy]
    rw [this]; exact hu
  · subst hv0
    have h2 : a.eval x = .slice (some (if l.length + r.length = lo then ⟨g, 0, none⟩ else Addr.add ⟨g, 0, none⟩ lo)) (l.length - lo) (l.length + r.length - lo) := h2
    rcases Qd6 hy with ⟨hv, rfl⟩ | ⟨p, c', hv, hsrc⟩
    · refine wpList_plain rfl fun K hK => ?_
      unfold Oper.wp
      rw [Q6c (a := a) (x := x) (y := y) (pos := pos) (af := af) (dst := dst) (gd := none) h2 hv (run_copy_nil P w t tt ty e' _ _ _ hT hi)]
      refine hK _ _ (k _ w (ChgAt.refl _ _) ?_ (Q47 hfr) (hsame _))
      intro B' e'' u hu
      rw [Qid]; exact hu
    · have hus : ((m.take (l.length - lo)).map Q0t).length = Nat.min m.length (l.length - lo) := by simp [Nat.min_comm]
      have huln : ((m.take (l.length - lo)).map Q0t).length ≤ l.length - lo := by rw [hus]; exact Nat.min_le_right _ _
      have hoff : (if l.length + r.length = lo then (⟨g, 0, none⟩ : Addr) else Addr.add ⟨g, 0, none⟩ lo) = ⟨g, if l.length + r.length = lo then 0 else lo, none⟩ := by
        split
        · rfl
        · rw [Go.WideShapes.add_plain, Nat.zero_add]
      rw [hoff] at h2
      obtain ⟨w', hr, hc, hb⟩ := Q8t (ty := ty) (e9 := e) (cs := l.map Q0t ++ r) tt hT hz hh (o := if l.length + r.length = lo then 0 else lo) (c := l.length + r.length - lo) (p := p) (c' := c') hus (by have hlm : (l.map Q0t).length = l.length := (by simp); rw [List.length_append, hlm]; split <;> omega) (fun j u hj => hsrc j u (by
        rw [List.map_take, List.getElem?_take] at hj
        split at hj
        · exact hj
        · cases hj)) (fun u hu => by obtain ⟨q, _, rfl⟩ := List.mem_map.1 hu; rfl)
      refine wpList_plain rfl fun K hK => ?_
      unfold Oper.wp
      rw [Q6c (a := a) (x := x) (y := y) (pos := pos) (af := af) (dst := dst) (gd := none) h2 hv hr]
      refine hK _ _ (k _ w' (hg ▸ hc) ?_ (Q47 hfr) (hsame _))
      refine h1.upL hg hh hb (Qic (by omega)) ?_
      by_cases hc0 : l.length + r.length = lo
      · have hl0 : l.length - lo = 0 := by omega
        rw [if_pos hc0, hl0, Qfw]
        simp [lay]
      · rw [if_neg hc0]
        have e2 : lay (l.map Q0t) lo ((m.take (l.length - lo)).map Q0t) = (cpy l lo (l.length - lo) m).map Q0t := by
          unfold lay cpy
          simp [Nat.min_comm]
        rw [← e2]
        unfold lay
        rw [List.take_append_of_le_length (by simp; omega), List.drop_append_of_le_length (by have hlm : (l.map Q0t).length = l.length := (by simp); rw [hlm]; omega)]
        simp only [List.append_assoc]
end

/-! ## Results that lie in a cell -/
section
variable {P : Program} {fn : Func} {p u : Tmp} {rty : TypeId} {n m : Nat} {V : VP} {w0 w : World} {a : Act} {cs : List Value} {D : TypeDesc} {β B : Nat}
theorem PxS.loadAll (hx : PxS β B [m] [cs] 0 (a.eval (.tmp p)) w) (hT : P.underlying rty = some D) (hD : (match D with | .struct _ | .array _ _ => true | _ => false) = true) (hz : SizeIs P rty m) :
    ((asAddr (a.tmps.getD p undef)).run P w).andThen (fun a1 w1 => (loadVar rty a1).run P w1) = .ok (.agg cs.toArray) w := by
  have hc := hx.cells
  obtain ⟨h0, g, e9, h1, h2, h3, h4⟩ := hx
  have hlen : cs.length = m := by simpa using h0
  have hagg : (isAgg rty).run P w = .ok true w := by
    unfold isAgg
    simp only [Sem.run_bind, run_underlying hT, Result.andThen_ok]
    cases D <;> first | rfl | (simp at hD)
  have hl := run_loadCells_list (P := P) (w := w) ⟨g, 0, none⟩ cs (fun j v hj => by
    rw [Go.WideShapes.add_plain, h4.cell]; simpa using hj)
  rw [hlen] at hl
  have h3' : a.tmps.getD p undef = .pointer (some ⟨g, 0, none⟩) := h3
  rw [h3']
  simp [asAddr, loadVar, hagg, hz.run, hl, Result.andThen]
theorem Q0f (hr : fn.results = #[.cell p rty, .tmp u]) (hfr : Fr n a) (hT : P.underlying rty = some D) (hD : (match D with | .struct _ | .array _ _ => true | _ => false) = true) (hz : SizeIs P rty m) (hp : PxS β B [m] [cs] 0 (a.eval (.tmp p)) w)
    (hx : Ext w0 w) (hv : V (.tuple #[.agg cs.toArray, a.eval (.tmp u)]) w) : bodyPost P fn (Ret V w0) .ret a w := by
  refine ⟨hfr.2, _, ?_, _, rfl, hx, hv⟩
  have h1 := hp.loadAll (P := P) hT hD hz
  rw [results_cell_tmp hr]
  cases h2 : (asAddr (a.tmps.getD p undef)).run P w with
  | halt x w1 => rw [h2] at h1; cases h1
  | ok a1 w1 =>
    rw [h2] at h1
    simp only [Result.andThen] at h1 ⊢
    rw [h1]; rfl
theorem Q7o (hr : fn.results = #[.cell p rty]) (hfr : Fr n a) (hT : P.underlying rty = some D) (hD : (match D with | .struct _ | .array _ _ => true | _ => false) = true) (hz : SizeIs P rty m) (hp : PxS β B [m] [cs] 0 (a.eval (.tmp p)) w)
    (hx : Ext w0 w) (hv : V (.agg cs.toArray) w) : bodyPost P fn (Ret V w0) .ret a w := by
  refine ⟨hfr.2, _, ?_, _, rfl, hx, hv⟩
  have h1 := hp.loadAll (P := P) hT hD hz
  have : (results fn a.tmps).run P w = ((asAddr (a.tmps.getD p undef)).run P w).andThen fun a1 w1 => (loadVar rty a1).run P w1 := by
    simp only [results, hr]
    simp [Sem.run_bind, Result.andThen]
  rw [this, h1]
end

/-! ## Calls that write into an argument's row -/
theorem ChgAt.ext {β : Nat} {a b c : World} (h : ChgAt β a b) (k : Ext b c) : ChgAt β a c :=
  ⟨k.os.trans h.os, k.tape.trans h.tape, k.output.trans h.output, Nat.le_trans h.size k.size, fun i hi hne => by rw [k.block i (Nat.lt_of_lt_of_le hi h.size)]; exact h.block i hi hne⟩
theorem ChgAt.trans {β : Nat} {a b c : World} (h : ChgAt β a b) (k : ChgAt β b c) : ChgAt β a c :=
  ⟨k.os.trans h.os, k.tape.trans h.tape, k.output.trans h.output, Nat.le_trans h.size k.size, fun i hi hne => by rw [k.block i (Nat.lt_of_lt_of_le hi h.size) hne]; exact h.block i hi hne⟩
theorem UpB.refl {β : Nat} {l : List UInt8} {w : World} : UpB β l l w w := fun _ _ _ h => h
theorem UpB.trans {β : Nat} {l m n : List UInt8} {a b c : World} (h : UpB β l m a b) (k : UpB β m n b c) : UpB β l n a c := fun B e u hu => k B e u (h B e u hu)
theorem UpB.ext {β : Nat} {l m : List UInt8} {a b c : World} (h : UpB β l m a b) (k : Ext b c) : UpB β l m a c := fun B e u hu => Stb.st _ _ _ k (h B e u hu)
theorem UpB.cast {β : Nat} {l m m' : List UInt8} {a b : World} (h : UpB β l m a b) (e : m = m') : UpB β l m' a b := e ▸ h
def RetW (β : Nat) (l l' : List UInt8) (V : VP) (w : World) : Ending → World → Prop := fun e w' => ∃ v, e = .returned v ∧ ChgAt β w w' ∧ UpB β l l' w w' ∧ V v w'
theorem Qpf {P : Program} {fn : Func} {β n : Nat} {l l' : List UInt8} {V : VP} {w0 w : World} {a : Act} (hr : fn.results = #[]) (hfr : Fr n a) (hc : ChgAt β w0 w) (hu : UpB β l l' w0 w) (hV : V (.tuple #[]) w) : bodyPost P fn (RetW β l l' V w0) .normal a w :=
  ⟨hfr.2, _, results_none hr _ _ _, _, rfl, hc, hu, hV⟩
section
variable {P : Program} {Q : Exit → Act → World → Prop} {ops : Array Oper} {rest : List Oper} {dst : Option Tmp} {ty : TypeId} {pos : String} {af : Array Edge} {a : Act} {w : World} {n : Nat} {β : Nat} {l l' : List UInt8} {V : VP} {f : FuncId} {ats : Array TypeId}
theorem Qd7 (hfr : FrD dfs n a) (hb : Body P f) (xs : Array Operand) (hc : Calls P f (xs.map a.eval) w (RetW β l l' V w))
    (k : ∀ a' w', ChgAt β w w' → UpB β l l' w w' → FrD dfs n a' → Same dst.toList a a' → wpList P ops Q rest a' w') :
    wpList P ops Q (⟨dst, .call ⟨.value (.func f), xs, ats⟩, ty, pos, af, none⟩ :: rest) a w := by
  refine wpList_plain rfl fun K hK => ?_
  unfold Oper.wp
  rw [Qbq hb]
  exact hc.mono fun e w'' ⟨v, he, h1, h2, h3⟩ => by
    subst he
    exact hK _ _ (k _ w'' h1 h2 (Q47 hfr) (by cases dst with | none => exact Same.refl | some d => exact Q2x))
theorem Qie {x0 : Operand} (hfr : FrD dfs n a) (hb : Body P f) (hc : Calls P f #[a.eval x0] w (RetW β l l' V w))
    (k : ∀ a' w', ChgAt β w w' → UpB β l l' w w' → FrD dfs n a' → Same dst.toList a a' → wpList P ops Q rest a' w') :
    wpList P ops Q (⟨dst, .call ⟨.value (.func f), #[x0], ats⟩, ty, pos, af, none⟩ :: rest) a w := Qd7 hfr hb _ (by simpa using hc) k
theorem Qd8 {x0 x1 x2 : Operand} (hfr : FrD dfs n a) (hb : Body P f) (hc : Calls P f #[a.eval x0, a.eval x1, a.eval x2] w (RetW β l l' V w))
    (k : ∀ a' w', ChgAt β w w' → UpB β l l' w w' → FrD dfs n a' → Same dst.toList a a' → wpList P ops Q rest a' w') :
    wpList P ops Q (⟨dst, .call ⟨.value (.func f), #[x0, x1, x2], ats⟩, ty, pos, af, none⟩ :: rest) a w := Qd7 hfr hb _ (by simpa using hc) k
end
end Go.Proofs.Ytlmdboaghojgiaa

/- A region that draws its order: first what yields the same in every world, then what only reads, in any order, then what writes, in one. -/
namespace Go.Proofs.Ytlmdboaghojgiaa
set_option linter.unusedVariables false
set_option linter.unusedSimpArgs false
open Go.RowKit
variable {dfs : List Deferred}

instance : Stb VP.top := ⟨fun _ _ _ _ _ => trivial⟩
def Qfy (B : Array Nat) : List Nat → Bool
  | [] => true
  | j :: T => T.all (fun k => k != j && (B.getD k 0).testBit j) && Qfy B T
def Qh5 (ops : Array Oper) (B : Array Nat) (L : Array Bool) : Nat → List Oper → List Bool → Plan → Bool
  | j, _ :: os, s :: sk, p :: ps => (s || p.all fun x => match x with
      | (t, some k) => ((ops[k]?).bind (·.dst)) == some t && (B.getD j 0).testBit k && !L.getD k false
      | (t, none) => ops.zipIdx.all fun (o', k) => o'.dst != some t || k == j || L.getD k false || (B.getD k 0).testBit j) && Qh5 ops B L (j + 1) os sk ps
  | _, [], _, _ => true
  | _, _, _, _ => false
def selB (ops : Array Oper) (L : Array Bool) (sk : List Bool) (T : List Nat) (n : Nat) (pl : Plan) : Bool :=
  Q5h ops (Region.before ops) && Qb5 ops n && Qh5 ops (Region.before ops) L 0 ops.toList sk pl && Qfy (Region.before ops) T &&
  L.size == ops.size && T.all (fun j => decide (j < ops.size) && !L.getD j false) &&
  (List.range ops.size).all (fun i => L.getD i false || T.contains i || T.all fun j => ((Region.before ops).getD j 0).testBit i) &&
  (List.range ops.size).all (fun i => sk.getD i false == (L.getD i false || T.contains i)) &&
  ops.zipIdx.all fun (o, j) => !L.getD j false || o.after.all fun e => !Region.binds .any e || L.getD e.on false

def Q7p (P : Program) (ops : Array Oper) (a0 : Act) (w0 : World) (Vs : List VP) : List Oper → List Bool → Plan → List VP → Prop
  | o :: os, s :: sk, p :: ps, V :: Vr => (s = false → ∀ a w, Ext w0 w → Q5y Vs a0 a w p → Obl P ops o a w V) ∧ Q7p P ops a0 w0 Vs os sk ps Vr
  | [], _, _, _ => True
  | _, _, _, _ => False

section
variable {P : Program} {ops : Array Oper} {Q : Exit → Act → World → Prop}

structure FreeL (ops : Array Oper) (L : Array Bool) (Vs : List VP) (a0 : Act) (w0 : World) (listed : Array Bool) (a : Act) (w : World) : Prop where
  ext : Ext w0 w
  size : a.tmps.size = a0.tmps.size
  defers : a.defers = a0.defers
  vals : ∀ i o t, ops[i]? = some o → o.dst = some t → L.getD i false = false → listed.getD i false = true → (Vs.getD i VP.top) (a.tmps.getD t undef) w
  rest : ∀ t, (∀ i o, ops[i]? = some o → o.dst = some t → listed.getD i false = false ∨ L.getD i false = true) → a.tmps.getD t undef = a0.tmps.getD t undef
  closed : ∀ j o, ops[j]? = some o → listed.getD j false = true → ∀ e ∈ o.after, Region.binds .any e = true → listed.getD e.on false = true
  lsize : listed.size = ops.size
  sub : ∀ i, L.getD i false = true → listed.getD i false = true

theorem Qif {L : Array Bool} {Vs : List VP} {a0 a : Act} {w0 w w' : World} {listed : Array Bool} {n i : Nat} {o : Oper} {v : Value}
    (hst : ∀ k, (Vs.getD k VP.top).Stable) (hn : a0.tmps.size = n) (hd : Qb5 ops n = true) (h : FreeL ops L Vs a0 w0 listed a w)
    (hi : i ∈ Region.ready .any ops listed) (ho : ops[i]? = some o) (he : Ext w w') (hv : (Vs.getD i VP.top) v w') :
    FreeL ops L Vs a0 w0 (listed.setIfInBounds i true) (a.put o.dst v) w' := by
  obtain ⟨hun, o1, ho1, hall⟩ := mem_ready.1 hi
  rw [ho] at ho1
  obtain rfl : o = o1 := by simpa using ho1
  have his : i < ops.size := (Array.getElem?_eq_some_iff.1 ho).1
  have hil : i < listed.size := by rw [h.lsize]; exact his
  have hun' : listed.getD i false = false := by
    simp only [Array.getD_eq_getD_getElem?, Array.getElem?_eq_getElem hil, Option.getD_some] at hun ⊢
    exact hun
  have hLi : L.getD i false = false := by
    cases hb : L.getD i false with
    | false => rfl
    | true => have := h.sub i hb; rw [hun'] at this; cases this
  have hset : ∀ j, (listed.setIfInBounds i true).getD j false = true → j = i ∨ listed.getD j false = true := fun j hj => by
    by_cases e : i = j
    · exact .inl e.symm
    · rw [getD_set_ne false e] at hj; exact .inr hj
  have hti : (listed.setIfInBounds i true).getD i false = true := by
    simp only [Array.getD_eq_getD_getElem?, Array.getElem?_setIfInBounds, if_pos, hil]
    simp
  refine ⟨h.ext.trans he, ?_, ?_, fun k o' t hk hdk hL hl => ?_, fun t ht => ?_, fun j o' hj hl e hm hb => ?_, by simp [h.lsize], fun k hk => getD_set_true (h.sub k hk)⟩
  · rw [← h.size]; cases o.dst <;> simp [Act.put]
  · rw [← h.defers]; cases o.dst <;> rfl
  · rcases hset k hl with rfl | hl'
    · rw [hk] at ho
      obtain rfl : o' = o := by simpa using ho
      rw [hdk, Q3l (by rw [h.size, hn]; exact (Q6p hd hk hdk).1), if_pos rfl]
      exact hv
    · have := hst k _ _ _ he (h.vals k o' t hk hdk hL hl')
      cases hdo : o.dst with
      | none => exact this
      | some d =>
        have hb := (Q6p hd ho hdo)
        rw [Q3l (by rw [h.size, hn]; exact hb.1)]
        by_cases e : t = d
        · subst e
          obtain rfl := hb.2 k o' hk hdk
          rw [hk] at ho
          obtain rfl : o' = o := by simpa using ho
          rw [if_pos rfl]; exact hv
        · rw [if_neg e]; exact this
  · have hprev := h.rest t (fun k o' hk hdk => by
      have := ht k o' hk hdk
      by_cases e : i = k
      · subst e
        rcases this with this | this
        · rw [hti] at this; cases this
        · exact .inr this
      · rwa [getD_set_ne false e] at this)
    cases hdo : o.dst with
    | none => exact hprev
    | some d =>
      rw [Q3l (by rw [h.size, hn]; exact (Q6p hd ho hdo).1)]
      by_cases e : t = d
      · subst e
        have := ht i o ho hdo
        rcases this with this | this
        · rw [hti] at this; cases this
        · rw [hLi] at this; cases this
      · rw [if_neg e]; exact hprev
  · rcases hset j hl with rfl | hl'
    · rw [hj] at ho
      obtain rfl : o' = o := by simpa using ho
      exact getD_set_true (hall e hm hb)
    · exact getD_set_true (h.closed j o' hj hl' e hm hb)

theorem Qh6 {B : Array Nat} {L : Array Bool} {Vs : List VP} {a0 a : Act} {w0 w : World} {listed : Array Bool} {j : Nat} {o : Oper} (hW : Q5h ops B = true)
    (h : FreeL ops L Vs a0 w0 listed a w) (ho : ops[j]? = some o) (hun : listed.getD j false = false)
    (hall : ∀ e ∈ o.after, Region.binds .any e = true → listed.getD e.on false = true) : ∀ (p : List (Tmp × Option Nat)),
    (p.all fun x => match x with
      | (t, some k) => ((ops[k]?).bind (·.dst)) == some t && (B.getD j 0).testBit k && !L.getD k false
      | (t, none) => ops.zipIdx.all fun (o', k) => o'.dst != some t || k == j || L.getD k false || (B.getD k 0).testBit j) = true → Q5y Vs a0 a w p := by
  intro p
  induction p with
  | nil => intro _; trivial
  | cons x p ih =>
    intro hp
    rw [List.all_cons, Bool.and_eq_true] at hp
    obtain ⟨h1, h2⟩ := hp
    obtain ⟨t, s⟩ := x
    cases s with
    | none =>
      refine ⟨?_, ih h2⟩
      show a.tmps.getD t undef = a0.tmps.getD t undef
      refine h.rest t fun k o' hk hdk => ?_
      simp only [Array.all_eq_true_iff_forall_mem] at h1
      have := h1 (o', k) (by rw [Array.mem_zipIdx_iff_getElem?]; exact hk)
      simp only [hdk, bne_self_eq_false, Bool.false_or, Bool.or_eq_true, beq_iff_eq] at this
      rcases this with (rfl | hL) | hb
      · exact .inl hun
      · exact .inr hL
      · left
        cases hl : listed.getD k false with
        | false => rfl
        | true =>
          have := Q3k hW h.closed k o' hk (h.closed k o' hk hl) j ((Array.getElem?_eq_some_iff.1 ho).1) hb
          rw [hun] at this; cases this
    | some k =>
      simp only [Bool.and_eq_true, beq_iff_eq, Bool.not_eq_true'] at h1
      obtain ⟨⟨hd, hb⟩, hL⟩ := h1
      obtain ⟨o', hk, hdk⟩ : ∃ o', ops[k]? = some o' ∧ o'.dst = some t := by
        cases hk : ops[k]? with
        | none => rw [hk] at hd; cases hd
        | some o' => rw [hk] at hd; exact ⟨o', rfl, hd⟩
      refine ⟨h.vals k o' t hk hdk hL ?_, ih h2⟩
      exact Q3k hW h.closed j o ho hall k ((Array.getElem?_eq_some_iff.1 hk).1) hb

theorem Qig {a0 : Act} {w0 : World} {Vs : List VP} {B : Array Nat} {L : Array Bool} : ∀ (l : List Oper) (sk : List Bool) (pl : Plan) (Vr : List VP) (s : Nat),
    Q7p P ops a0 w0 Vs l sk pl Vr → Qh5 ops B L s l sk pl = true → ∀ j o, l[j]? = some o → sk.getD j false = false → ∃ p,
      (p.all fun x => match x with
        | (t, some k) => ((ops[k]?).bind (·.dst)) == some t && (B.getD (s + j) 0).testBit k && !L.getD k false
        | (t, none) => ops.zipIdx.all fun (o', k) => o'.dst != some t || k == (s + j) || L.getD k false || (B.getD k 0).testBit (s + j)) = true ∧
      ∀ a w, Ext w0 w → Q5y Vs a0 a w p → Obl P ops o a w (Vr.getD j VP.top) := by
  intro l
  induction l with
  | nil => intro sk pl Vr s _ _ j o hj; simp at hj
  | cons o1 l ih =>
    intro sk pl Vr s h hp j o hj hsk
    cases sk with
    | nil => simp [Qh5] at hp
    | cons s1 sk =>
      cases pl with
      | nil => simp [Qh5] at hp
      | cons p pl =>
        cases Vr with
        | nil => exact h.elim
        | cons V Vr =>
          unfold Qh5 at hp
          rw [Bool.and_eq_true] at hp
          cases j with
          | zero =>
            obtain rfl : o1 = o := by simpa using hj
            have hs1 : s1 = false := by simpa using hsk
            subst hs1
            exact ⟨p, by simpa using hp.1, h.1 rfl⟩
          | succ j =>
            obtain ⟨q, hq, hr⟩ := ih sk pl Vr (s + 1) h.2 hp.2 j o (by simpa using hj) (by simpa using hsk)
            refine ⟨q, ?_, ?_⟩
            · rw [show s + (j + 1) = s + 1 + j from by omega]; exact hq
            · simpa using hr

theorem Q72 {listed : Array Bool} {i : Nat} (h : i < listed.size) : listed.getD i true = listed.getD i false := by simp [h]

theorem Q9l {B : Array Nat} (hW : Q5h ops B = true) : ∀ (T : List Nat) (fuel : Nat) (listed : Array Bool) (a : Act) (w : World), Qfy B T = true → (∀ j ∈ T, j < ops.size) → listed.size = ops.size →
      (∀ i, i < ops.size → listed.getD i false = !T.contains i) → (∀ j o, ops[j]? = some o → listed.getD j false = true → ∀ e ∈ o.after, Region.binds .any e = true → listed.getD e.on false = true) →
      Q3d listed ≤ fuel → wpList P ops Q (T.filterMap (ops[·]?)) a w → wpAny P .any ops Q fuel listed a w := by
  intro T
  induction T with
  | nil =>
    intro fuel listed a w _ _ hls hl _ hu h
    have hall : ∀ i, listed.getD i true = true := fun i => by
      rcases Nat.lt_or_ge i listed.size with hi | hi
      · rw [Q72 hi, hl i (by omega)]; simp
      · simp [Array.getElem?_eq_none hi]
    have hr : Region.ready .any ops listed = [] := by
      cases hr : Region.ready .any ops listed with
      | nil => rfl
      | cons i l =>
        have : i ∈ Region.ready .any ops listed := by rw [hr]; exact List.mem_cons_self
        have := (mem_ready.1 this).1
        rw [hall i] at this; cases this
    cases fuel with
    | zero => exact ⟨hr, h⟩
    | succ fuel => exact ⟨fun _ => h, fun i hi => by rw [hr] at hi; cases hi⟩
  | cons j T ih =>
    intro fuel listed a w hT hlt hls hl hc hu h
    unfold Qfy at hT
    simp only [Bool.and_eq_true, List.all_eq_true, bne_iff_ne, ne_eq] at hT
    obtain ⟨hT1, hT2⟩ := hT
    have hjs : j < ops.size := hlt j List.mem_cons_self
    have ho : ops[j]? = some ops[j] := Array.getElem?_eq_getElem hjs
    have hjl : j < listed.size := by omega
    have hunf : listed.getD j false = false := by rw [hl j hjs]; simp
    have hun : listed.getD j true = false := by rw [Q72 hjl]; exact hunf
    cases fuel with
    | zero => have := Q8b (Nat.le_zero.1 hu) j; rw [hun] at this; cases this
    | succ fuel =>
      refine ⟨fun hr => ?_, fun i hi => ?_⟩
      · have := Q5i hW hr j hjs; rw [hun] at this; cases this
      · obtain ⟨h0, o', ho', hall⟩ := mem_ready.1 hi
        have his : i < ops.size := (Array.getElem?_eq_some_iff.1 ho').1
        have hiT : i = j ∨ i ∈ T := by
          rw [Q72 (by omega), hl i his] at h0
          rcases Nat.decEq i j with h | h
          · exact .inr (by simpa [h] using h0)
          · exact .inl h
        have hij : i = j := by
          rcases hiT with h | h
          · exact h
          · have := Q3k hW hc i o' ho' hall j hjs (hT1 i h).2
            rw [hunf] at this; cases this
        subst hij
        obtain rfl : ops[i] = o' := by rw [ho] at ho'; exact Option.some.inj ho'
        have hu' : Q3d (listed.setIfInBounds i true) ≤ fuel := by have := Q4t hjl hun; omega
        have hnT : T.contains i = false := by
          cases hb : T.contains i with
          | false => rfl
          | true => rw [List.contains_iff_mem] at hb; exact absurd rfl (hT1 i hb).1
        have hti : (listed.setIfInBounds i true).getD i false = true := by simp [hjl]
        have next : ∀ a w, wpList P ops Q (T.filterMap (ops[·]?)) a w → wpAny P .any ops Q fuel (listed.setIfInBounds i true) a w := fun a w h =>
          ih fuel _ a w hT2 (fun k hk => hlt k (List.mem_cons_of_mem _ hk)) (by simpa using hls) (fun k hk => by
            by_cases e : i = k
            · subst e; rw [hti, hnT]; rfl
            · rw [getD_set_ne false e, hl k hk]
              have : ¬ k = i := fun h => e h.symm
              simp [this]) (fun k o hk hlk e he hb => by
            by_cases ek : i = k
            · subst ek
              rw [ho] at hk
              obtain rfl := Option.some.inj hk
              exact getD_set_true (hall e he hb)
            · rw [getD_set_ne false ek] at hlk
              exact getD_set_true (hc k o hk hlk e he hb)) hu' h
        rw [List.filterMap_cons_some ho] at h
        unfold wpOp
        simp only [ho]
        unfold wpList at h
        split
        · rename_i hw
          rw [if_pos hw] at h
          exact h.imp (Oper.wp_mono next) id
        · rename_i hw
          rw [if_neg hw] at h
          exact next _ _ h

theorem Qd9 {l : List Oper} (hlo : ops = l.toArray) {L : Array Bool} {sk : List Bool} {T : List Nat} {Vs : List VP} {a0 : Act} {w0 : World} {n : Nat} {pl : Plan} (hn : a0.tmps.size = n) (hB : selB ops L sk T n pl = true) (hst : Q5a Vs)
    (hops : Q7p P ops a0 w0 Vs l sk pl Vs)
    (hend : ∀ a w listed, FreeL ops L Vs a0 w0 listed a w → (∀ i, i < ops.size → listed.getD i false = !T.contains i) → wpList P ops Q (T.filterMap (ops[·]?)) a w) :
    ∀ (fuel : Nat) (listed : Array Bool) (a : Act) (w : World), FreeL ops L Vs a0 w0 listed a w → (∀ i ∈ T, listed.getD i false = false) → Q3d listed ≤ fuel → wpAny P .any ops Q fuel listed a w := by
  unfold selB at hB
  simp only [Bool.and_eq_true, beq_iff_eq] at hB
  obtain ⟨⟨⟨⟨⟨⟨⟨⟨hW, hD⟩, hP⟩, hT⟩, hLs⟩, hTl⟩, hTp⟩, hsk⟩, hLc⟩ := hB
  simp only [List.all_eq_true, Bool.and_eq_true, decide_eq_true_eq, Bool.not_eq_true', List.mem_range, Bool.or_eq_true, beq_iff_eq] at hTl hTp hsk
  intro fuel
  induction fuel with
  | zero =>
    intro listed a w h ht hu
    have ha := Q8b (Nat.le_zero.1 hu)
    have hTe : T = [] := by
      cases T with
      | nil => rfl
      | cons j T =>
        have h1 := ht j List.mem_cons_self
        have hj := (hTl j List.mem_cons_self).1
        have h2 := ha j
        rw [Q72 (by rw [h.lsize]; exact hj), h1] at h2; cases h2
    subst hTe
    have hl : ∀ i, i < ops.size → listed.getD i false = !([] : List Nat).contains i := fun i hi => by
      have := ha i
      rw [Q72 (by rw [h.lsize]; exact hi)] at this
      rw [this]; rfl
    exact Q9l hW [] 0 listed a w rfl (fun _ h => by cases h) h.lsize hl h.closed hu (hend a w listed h hl)
  | succ fuel ih =>
    intro listed a w h ht hu
    by_cases hall : ∀ i, i < ops.size → T.contains i = false → listed.getD i false = true
    · have hl : ∀ i, i < ops.size → listed.getD i false = !T.contains i := fun i hi => by
        cases hc : T.contains i with
        | false => rw [hall i hi hc]; rfl
        | true => rw [ht i (List.contains_iff_mem.1 hc)]; rfl
      exact Q9l hW T (fuel + 1) listed a w hT (fun j hj => (hTl j hj).1) h.lsize hl h.closed hu (hend a w listed h hl)
    · refine ⟨fun hr => ?_, fun i hi => ?_⟩
      · exfalso
        apply hall
        intro i hi _
        have := Q5i hW hr i hi
        rw [Q72 (by rw [h.lsize]; exact hi)] at this
        exact this
      · obtain ⟨hun, o, ho, hal⟩ := mem_ready.1 hi
        have his : i < ops.size := (Array.getElem?_eq_some_iff.1 ho).1
        have hil : i < listed.size := by rw [h.lsize]; exact his
        have hun' : listed.getD i false = false := by rw [← Q72 hil]; exact hun
        have hLi : L.getD i false = false := by
          cases hb : L.getD i false with
          | false => rfl
          | true => have := h.sub i hb; rw [hun'] at this; cases this
        have hiT : T.contains i = false := by
          cases hc : T.contains i with
          | false => rfl
          | true =>
            exfalso
            apply hall
            intro k hk hkT
            rcases hTp k hk with (h1 | h1) | h1
            · exact h.sub k h1
            · rw [hkT] at h1; cases h1
            · exact Q3k hW h.closed i o ho hal k hk (h1 i (List.contains_iff_mem.1 hc))
        have hu' : Q3d (listed.setIfInBounds i true) ≤ fuel := by have := Q4t hil hun; omega
        have hsi : sk.getD i false = false := by rw [hsk i his, hLi, hiT]; rfl
        obtain ⟨p, hp, hobl⟩ := Qig (B := Region.before ops) (L := L) l sk pl Vs 0 hops (by rw [hlo] at hP ⊢; exact hP) i o (by rw [hlo] at ho; simpa using ho) hsi
        simp only [Nat.zero_add] at hp
        have hf := Qh6 hW h ho hun' hal p hp
        have hob := hobl a w h.ext hf
        have next : ∀ v w', Ext w w' → (Vs.getD i VP.top) v w' → wpAny P .any ops Q fuel (listed.setIfInBounds i true) (a.put o.dst v) w' :=
          fun v w' he hv => ih _ _ _ (Qif (Q7d Vs hst) hn hD h hi ho he hv) (fun k hk => by
            have : i ≠ k := fun e => by subst e; rw [List.contains_iff_mem.2 hk] at hiT; cases hiT
            rw [getD_set_ne false this]; exact ht k hk) hu'
        unfold wpOp
        simp only [ho]
        unfold Obl at hob
        split
        · rename_i hw
          rw [if_pos hw] at hob
          left
          unfold OpOk at hob
          unfold Oper.wp
          generalize (execOp a.eval o).run P w = r at hob
          cases r with
          | halt x w' => exact hob.elim
          | ok nx w' =>
            cases nx <;> first | exact hob.elim | skip
            case value v => exact next v w' hob.1 hob.2
            case skip => exact next undef w' hob.1 hob.2
            case enter f args =>
              exact hob.2.mono fun e w'' ⟨v, he, hx, hv⟩ => by subst he; exact next v w'' hx hv
        · rename_i hw
          rw [if_neg hw] at hob
          exact next undef w (Ext.refl _) hob

def Qih (l : List Oper) (sk : List Bool) (Vs : List VP) (a : Act) (w : World) : Prop := ∀ i t, (l[i]?).bind (·.dst) = some t → sk.getD i false = false → (Vs.getD i VP.top) (a.eval (.tmp t)) w
def Qii (l : List Oper) (sk : List Bool) : List Tmp := (l.zip sk).filterMap fun (o, s) => if s then none else o.dst

theorem Q60 {l : List Oper} {a : Act} {w : World} (n : Nat) (L : Array Bool) (sk : List Bool) (T : List Nat) (pl : Plan) (Vs : List VP) {fuel : Nat} (hB : selB l.toArray L sk T n pl = true) (hsl : (sk.length == l.length) = true) (hfl : decide (Q3d L ≤ fuel) = true) (hfr : FrD dfs n a) (hst : StbAll Vs)
    (hops : Q7p P l.toArray a w Vs l sk pl Vs)
    (hend : ∀ a' w', Ext w w' → FrD dfs n a' → Qih l sk Vs a' w' → Same (Qii l sk) a a' → wpList P l.toArray Q (T.filterMap (l.toArray[·]?)) a' w') : wpAny P .any l.toArray Q fuel L a w := by
  have hB' := hB
  unfold selB at hB'
  simp only [Bool.and_eq_true, beq_iff_eq] at hB'
  obtain ⟨⟨⟨⟨⟨⟨⟨⟨hW, hD⟩, hP⟩, hT⟩, hLs⟩, hTl⟩, hTp⟩, hsk⟩, hLc⟩ := hB'
  simp only [List.all_eq_true, Bool.and_eq_true, decide_eq_true_eq, Bool.not_eq_true', List.mem_range, Bool.or_eq_true, beq_iff_eq] at hTl hTp hsk
  have hsl' : sk.length = l.length := by simpa using hsl
  refine Qd9 (w0 := w) rfl hfr.1 hB hst.st hops (fun a' w' listed h hl => ?_) fuel L a w ⟨Ext.refl _, rfl, rfl, fun i o t _ _ h1 h2 => (by rw [h1] at h2; cases h2), fun _ _ => rfl, fun j o hj hl e he hb => ?_, hLs, fun _ h => h⟩ (fun i hi => (hTl i hi).2) (of_decide_eq_true hfl)
  · refine hend a' w' h.ext ⟨h.size.trans hfr.1, h.defers.trans hfr.2⟩ (fun i t hi hs => ?_) (fun t ht => ?_)
    · cases ho : l[i]? with
      | none => rw [ho] at hi; cases hi
      | some o =>
        rw [ho] at hi
        have hil : i < l.length := (List.getElem?_eq_some_iff.1 ho).1
        have h2 := hsk i (by simpa using hil)
        rw [hs] at h2
        have h2 := h2.symm
        rw [Bool.or_eq_false_iff] at h2
        exact h.vals i o t (by simpa using ho) hi h2.1 (by rw [hl i (by simpa using hil), h2.2]; rfl)
    · refine h.rest t fun i o ho hd => ?_
      have his : i < l.toArray.size := (Array.getElem?_eq_some_iff.1 ho).1
      have hil : i < l.length := by simpa using his
      cases hs : sk.getD i false with
      | true =>
        have h2 := hsk i his
        rw [hs] at h2
        have h2 := h2.symm
        rw [Bool.or_eq_true] at h2
        rcases h2 with h2 | h2
        · exact .inr h2
        · left; rw [hl i his, h2]; rfl
      | false =>
        exfalso
        have hm : t ∈ Qii l sk := by
          refine List.mem_filterMap.2 ⟨(o, false), ?_, by simpa using hd⟩
          have ho' : l[i]? = some o := by simpa using ho
          have hs' : sk[i]? = some false := by
            rw [List.getD_eq_getElem?_getD, List.getElem?_eq_getElem (by omega)] at hs
            rw [List.getElem?_eq_getElem (by omega)]
            simpa using hs
          exact List.mem_of_getElem? (i := i) (by rw [List.getElem?_zip_eq_some]; exact ⟨ho', hs'⟩)
        rw [← List.contains_iff_mem] at hm
        rw [hm] at ht; cases ht
  · rw [Array.all_eq_true_iff_forall_mem] at hLc
    have := hLc (o, j) (by rw [Array.mem_zipIdx_iff_getElem?]; exact hj)
    simp only [Bool.or_eq_true, Bool.not_eq_true', Array.all_eq_true_iff_forall_mem] at this
    rcases this with h1 | h1
    · rw [hl] at h1; cases h1
    · rcases h1 e he with h2 | h2
      · rw [hb] at h2; cases h2
      · exact h2

theorem Qmj {i d : Nat} {op : Op} {ty : TypeId} {pos : String} {af : Array Edge} {fuel n : Nat} {L : Array Bool} {a : Act} {w : World} {V : VP} (hfr : FrD dfs n a) (hi : ops[i]? = some ⟨some d, op, ty, pos, af, none⟩) (hd : decide (d < n) = true)
    (hc : (Region.noSelect ops && Region.free .any ops L i && (Region.ready .any ops L).contains i) = true) (hQ : ∀ c a w v, Q (.panic c) (a.put (some d) v) w → Q (.panic c) a w)
    (hy : ∃ v, (∀ w, (execOp a.eval ⟨some d, op, ty, pos, af, none⟩).run P w = .ok (.value v) w) ∧ V v w)
    (k : ∀ a', FrD dfs n a' → V (a'.eval (.tmp d)) w → Same [d] a a' → wpAny P .any ops Q fuel (L.setIfInBounds i true) a' w) : wpAny P .any ops Q (fuel + 1) L a w := by
  simp only [Bool.and_eq_true] at hc
  obtain ⟨⟨h1, h2⟩, h3⟩ := hc
  obtain ⟨v, hv, hV⟩ := hy
  refine wpAny_take hi h1 h2 h3 (fun c a w h => hQ c a w v h) (.inl ⟨rfl, hv⟩) (k _ (Q47 hfr) ?_ Q2x)
  rw [Q41 (by rw [hfr.1]; simpa using hd)]
  exact hV
theorem Q1s {id : Nat} {l : List Oper} {a : Act} {w : World} (hm : P.follows .mixedOrders = true) (h : ∀ w', Ext w w' → wpAny P .any l.toArray Q l.toArray.size (Array.replicate l.toArray.size false) a w') : (Code.region id l.toArray true).wp P Q a w :=
  wp_region_any hm (h _ (Ext.draw1 w))
end

/-! ## Obligations, one by one; what yields the same in every world -/
section
variable {P : Program} {ops : Array Oper} {a0 : Act} {w0 : World} {Vs : List VP} {d : Option Tmp} {op : Op} {ty : TypeId} {pos : String} {af : Array Edge} {os : List Oper} {sk : List Bool} {p : List (Tmp × Option Nat)} {ps : Plan} {V : VP} {Vr : List VP}
theorem lcs {o : Oper} (k : Q7p P ops a0 w0 Vs os sk ps Vr) : Q7p P ops a0 w0 Vs (o :: os) (true :: sk) (p :: ps) (V :: Vr) := ⟨fun h => (by cases h), k⟩
theorem lc0 (h : ∀ a w, Ext w0 w → Q5y Vs a0 a w p → OpOk P ⟨d, op, ty, pos, af, none⟩ a w V) (k : Q7p P ops a0 w0 Vs os sk ps Vr) : Q7p P ops a0 w0 Vs (⟨d, op, ty, pos, af, none⟩ :: os) (false :: sk) (p :: ps) (V :: Vr) :=
  ⟨fun _ => (oc0 (os := []) (ps := []) (Vr := []) h trivial).1, k⟩
theorem lcn : Q7p P ops a0 w0 Vs [] [] [] [] := trivial
end
section
variable {P : Program} {d : Option Tmp} {ty : TypeId} {pos : String} {af : Array Edge} {gd : Option (Nat × Bool)} {a : Act} {w : World} {V : VP} {o : Oper} {t e : TypeId} {x y : Operand}
theorem Q1p (h : OpOk P o a w V) (hv : ∃ v, ∀ w, (execOp a.eval o).run P w = .ok (.value v) w) : ∃ v, (∀ w, (execOp a.eval o).run P w = .ok (.value v) w) ∧ V v w := by
  obtain ⟨v, hv⟩ := hv
  unfold OpOk at h
  rw [hv w] at h
  exact ⟨v, hv, h.2⟩
theorem Q3s : ∃ v, ∀ w, (execOp a.eval ⟨d, .move x, ty, pos, af, gd⟩).run P w = .ok (.value v) w := ⟨_, fun _ => rfl⟩
theorem Q36 : ∃ v, ∀ w, (execOp a.eval ⟨d, .assign x, ty, pos, af, gd⟩).run P w = .ok (.value v) w := ⟨_, fun _ => rfl⟩
theorem Q42 {fs : Array Field} {f : Field} {k n : Nat} {cs : List Value} (hT : P.underlying t = some (.struct fs)) (hf : fs[k]? = some f) (hz : SizeIs P f.type n) (hn : (n == 0) = false) (hx : Cells cs (a.eval x) w) :
    ∃ v, ∀ w, (execOp a.eval ⟨d, .fieldAddr t x k, ty, pos, af, gd⟩).run P w = .ok (.value v) w := by
  obtain ⟨b, o, hv, _⟩ := hx
  have hn' : n ≠ 0 := by simpa using hn
  exact ⟨.pointer (some ⟨b, o + f.offset, none⟩), fun w => by simp [execOp, Instr.fieldAt, hv, Instr.sureAddr, run_underlying hT, hf, fieldPlace, hz.run, hn', Go.WideShapes.add_plain]⟩
theorem Qfz {k : IntKind} {l : List UInt8} {i : Nat} (hT : P.underlying t = some (.slice e)) (hz : SizeIs P e 1) (hx : Bs l (a.eval x) w) (hy : a.eval y = .int k (i : Int)) (hi : i < l.length) :
    ∃ v, ∀ w, (execOp a.eval ⟨d, .indexAddr t x y, ty, pos, af, gd⟩).run P w = .ok (.value v) w := by
  rcases Qd6 hx with ⟨_, rfl⟩ | ⟨p, c, hv, _⟩
  · simp at hi
  · exact ⟨.pointer (some (p.add i)), fun w => by simp [execOp, Instr.indexAt, hv, hy, asIntOf, run_underlying hT, hz.run, hi]⟩
end
end Go.Proofs.Ytlmdboaghojgiaa

/- Guards behind writes; rows that are turned and handed back. -/
namespace Go.Proofs.Ytlmdboaghojgiaa
set_option linter.unusedVariables false
set_option linter.unusedSimpArgs false
open Go Go.RowKit
variable {dfs : List Deferred}
theorem G.of {c : Bool} {V : VP} {v : Value} {w : World} (hc : c = true) (h : V v w) : G c V v w := ⟨fun _ => h, fun h0 => (by rw [hc] at h0; cases h0)⟩
section
variable {P : Program} {Q : Exit → Act → World → Prop} {ops : Array Oper} {rest : List Oper} {d : Option Tmp} {op : Op} {ty : TypeId} {pos : String} {af : Array Edge} {a : Act} {w : World} {n : Nat} {j : Nat} {b p : Bool}
end
section
variable {P : Program} {Q : Exit → Act → World → Prop} {ops : Array Oper} {rest : List Oper} {d : Tmp} {ty : TypeId} {pos : String} {af : Array Edge} {a : Act} {w : World} {n : Nat} {β : Nat} {l l' : List UInt8} {V : VP} {f : FuncId} {ats : Array TypeId}
end
theorem Qnl {S T' : List (List Value)} {i : Nat} (hi : i + T'.length ≤ S.length) (hl : (S.take i ++ T' ++ S.drop (i + T'.length)).map List.length = S.map List.length) : lay S.flatten (S.take i).flatten.length T'.flatten = (S.take i ++ T' ++ S.drop (i + T'.length)).flatten := by
  have e0 : S.flatten = (S.take i).flatten ++ (((S.drop i).take T'.length).flatten ++ (S.drop (i + T'.length)).flatten) := by
    rw [← List.flatten_append, ← List.drop_drop, List.take_append_drop, ← List.flatten_append, List.take_append_drop]
  have e1 : T'.map List.length = ((S.drop i).take T'.length).map List.length := by
    have h1 : S.map List.length = (S.take i).map List.length ++ (((S.drop i).take T'.length).map List.length ++ (S.drop (i + T'.length)).map List.length) := by
      rw [← List.map_append, ← List.drop_drop, List.take_append_drop, ← List.map_append, List.take_append_drop]
    rw [h1, List.map_append, List.map_append, List.append_assoc] at hl
    have h2 := List.append_cancel_left hl
    exact List.append_cancel_right h2
  have e2 : T'.flatten.length = ((S.drop i).take T'.length).flatten.length := by rw [List.length_flatten, List.length_flatten, e1]
  unfold lay
  rw [e0, List.take_left, ← List.drop_drop, List.drop_left, e2, List.drop_left]
  simp only [List.flatten_append, List.append_assoc]
section
variable {P : Program} {Q : Exit → Act → World → Prop} {ops : Array Oper} {rest : List Oper} {ty : TypeId} {pos : String} {af : Array Edge} {a : Act} {w : World} {n : Nat} {β B : Nat} {ls : List Nat} {S : List (List Value)} {i : Nat} {t : TypeId} {x y : Operand}
theorem Q9m (S' T' : List (List Value)) {m : Nat} (hfr : FrD dfs n a) (hz : SizeIs P t m) (hx : PxS β B ls S i (a.eval x) w) (hy : a.eval y = .agg T'.flatten.toArray) (hS : S.take i ++ T' ++ S.drop (i + T'.length) = S') (hi : i + T'.length ≤ S.length) (hl : S'.map List.length = ls) (hm : T'.flatten.length = m) (hu : ∀ u ∈ T'.flatten, u.oneCell' = true)
    (k : ∀ a' w', ChgAt β w w' → UpS β ls S S' w w' → FrD dfs n a' → Same [] a a' → wpList P ops Q rest a' w') :
    wpList P ops Q (⟨none, .store t x y, ty, pos, af, none⟩ :: rest) a w := by
  obtain ⟨h0, g, e9, h1, h2, h3, h4⟩ := hx
  have hlS : (S.take i ++ T' ++ S.drop (i + T'.length)).map List.length = S.map List.length := by rw [hS, hl, h0]
  have hlay := Qnl hi hlS
  have hoff : (ls.take i).sum + T'.flatten.length ≤ S.flatten.length := by
    have e1 : S'.flatten.length = S.flatten.length := by rw [List.length_flatten, List.length_flatten, hl, h0]
    have e2 : S'.flatten.length = (S.take i).flatten.length + T'.flatten.length + (S.drop (i + T'.length)).flatten.length := by rw [← hS]; simp only [List.flatten_append, List.length_append]
    rw [Q3q h0] at e2
    omega
  obtain ⟨w', ⟨nx, hnx, hrun⟩, hc, hb⟩ := Q8d (ty := ty) (pos := pos) (af := af) (gd := none) (dst := none) hz hm hu h4 hoff h3 hy
  rw [← Q3q h0, hlay, hS] at hb
  refine wpList_plain rfl fun K hK => ?_
  have := k a w' (h1 ▸ hc) (by
    rintro B' j v ⟨_, g', e', q1, q2, q3, q4⟩
    have : g' = g := by omega
    subst this
    exact ⟨hl, g', e9, q1, q2, q3, hb⟩) hfr Same.rfl
  unfold Oper.wp
  rw [hrun]
  rcases hnx with rfl | rfl <;> exact hK _ _ this
end
end Go.Proofs.Ytlmdboaghojgiaa
