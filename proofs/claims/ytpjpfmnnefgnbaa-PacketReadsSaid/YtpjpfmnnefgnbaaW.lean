/- Rules for what writes into memory of the function's own: append. -/
import Derived.Test.YtpjpfmnnefgnbaaR
import Derived.Lib.AppendZeros
namespace Go.Proofs.Ytpjpfmnnefgnbaa
set_option linter.unusedVariables false
set_option linter.unusedSimpArgs false
open Go.RowKit
variable {dfs : List Deferred}

def InfoIs (P : Program) (e : TypeId) (z : Value) (bytes : Nat) : Prop := (P.info? e).map (fun i => (i.zero, i.size, i.bytes)) = some (some z, 1, bytes)
theorem InfoIs.get {P : Program} {e : TypeId} {z : Value} {bytes : Nat} (h : InfoIs P e z bytes) : ∃ i, P.info? e = some i ∧ i.zero = some z ∧ i.size = 1 ∧ i.bytes = bytes := by
  unfold InfoIs at h
  cases hi : P.info? e with
  | none => rw [hi] at h; cases h
  | some i => rw [hi] at h; simp at h; exact ⟨i, rfl, h⟩

/-- A slice whose cells are just these. -/
def SlV (vs : List Value) : VP := Sl (vs.map Is)
instance (vs : List Value) : Stb (SlV vs) := ⟨Sl.stable fun i hi => by
  rw [getD_map _ _ _ (by simpa using hi)]; exact Stb.st⟩
theorem Bs.v {l : List UInt8} {v : Value} {w : World} (h : Bs l v w) : SlV (l.map byteV) v w := by
  unfold SlV; rw [List.map_map]; exact h
theorem Bs.of_v {l : List UInt8} {v : Value} {w : World} (h : SlV (l.map byteV) v w) : Bs l v w := by
  unfold SlV at h; rw [List.map_map] at h; exact h
theorem Ns.v {k : IntKind} {l : List Int} {v : Value} {w : World} (h : Ns k l v w) : SlV (l.map fun n => .int k n) v w := by
  unfold SlV; rw [List.map_map]; exact h
theorem Ns.of_v {k : IntKind} {l : List Int} {v : Value} {w : World} (h : SlV (l.map fun n => .int k n) v w) : Ns k l v w := by
  unfold SlV at h; rw [List.map_map] at h; exact h

/-- A slice that this call itself has made: its row lies from block 'B' on. -/
def Own (B : Nat) (e : TypeId) (vs : List Value) : VP := fun v w => w.ownsRow B e 1 v vs.length vs
instance (B : Nat) (e : TypeId) (vs : List Value) : Stb (Own B e vs) := ⟨fun v w w' hx h => by
  obtain ⟨h1, h2⟩ := h
  refine ⟨h1, ?_⟩
  rcases h2 with h2 | ⟨g, cap, cur, h3, h4, h5, h6⟩
  · exact .inl h2
  · have hlt : g < w.heap.size := (Array.getElem?_eq_some_iff.1 h5).1
    exact .inr ⟨g, cap, cur, h3, h4, by rw [hx.block g hlt]; exact h5, h6⟩⟩
def OwnB (B : Nat) (e : TypeId) (l : List UInt8) : VP := Own B e (l.map byteV)
instance (B : Nat) (e : TypeId) (l : List UInt8) : Stb (OwnB B e l) := inferInstanceAs (Stb (Own _ _ _))
def OwnN (B : Nat) (e : TypeId) (k : IntKind) (l : List Int) : VP := Own B e (l.map fun n => .int k n)
instance (B : Nat) (e : TypeId) (k : IntKind) (l : List Int) : Stb (OwnN B e k l) := inferInstanceAs (Stb (Own _ _ _))

theorem Own.nil {B : Nat} {e : TypeId} {w : World} : Own B e [] (.slice none 0 0) w := World.ownsRow_nil _ _ _ _
theorem ownB_nil {B : Nat} {e : TypeId} {w : World} : OwnB B e [] (.slice none 0 0) w := Own.nil
theorem ownN_nil {B : Nat} {e : TypeId} {k : IntKind} {w : World} : OwnN B e k [] (.slice none 0 0) w := Own.nil

theorem Own.v {B : Nat} {e : TypeId} {vs : List Value} {v : Value} {w : World} (h : Own B e vs v w) : SlV vs v w := by
  obtain ⟨h1, h2⟩ := h
  rcases h2 with ⟨h3, h4⟩ | ⟨g, cap, cur, h3, h4, h5, h6, h7, h8, h9⟩
  · exact .inl ⟨h3, by simpa using h4⟩
  · refine .inr ⟨⟨g, 0, none⟩, cap, by simpa using h3, by simpa using h6, h7, fun i hi => ?_⟩
    simp only [List.length_map] at hi
    refine ⟨vs[i], ?_, by rw [getD_map _ _ _ hi]; rfl⟩
    rw [Go.WideShapes.add_plain, Nat.zero_add, cell_of_row w g i cur e _ h5]
    have : (cur.toList.take (vs.length * 1))[i]? = some vs[i] := by rw [h9]; simp [hi]
    rw [List.getElem?_take_of_lt (by omega)] at this
    simpa using this
theorem OwnB.bs {B : Nat} {e : TypeId} {l : List UInt8} {v : Value} {w : World} (h : OwnB B e l v w) : Bs l v w := Bs.of_v (Own.v h)
theorem OwnN.ns {B : Nat} {e : TypeId} {k : IntKind} {l : List Int} {v : Value} {w : World} (h : OwnN B e k l v w) : Ns k l v w := Ns.of_v (Own.v h)

theorem Own.mono {B B' : Nat} {e : TypeId} {vs : List Value} {v : Value} {w : World} (h : Own B e vs v w) (hB : B' ≤ B) : Own B' e vs v w := by
  obtain ⟨h1, h2⟩ := h
  refine ⟨h1, ?_⟩
  rcases h2 with h2 | ⟨g, cap, cur, h3, h4, h5⟩
  · exact .inl h2
  · exact .inr ⟨g, cap, cur, h3, Nat.le_trans hB h4, h5⟩
theorem OwnB.mono {B B' : Nat} {e : TypeId} {l : List UInt8} {v : Value} {w : World} (h : OwnB B e l v w) (hB : B' ≤ B) : OwnB B' e l v w := Own.mono h hB
theorem OwnN.mono {B B' : Nat} {e : TypeId} {k : IntKind} {l : List Int} {v : Value} {w : World} (h : OwnN B e k l v w) (hB : B' ≤ B) : OwnN B' e k l v w := Own.mono h hB

theorem own_new {w : World} {B : Nat} {e : TypeId} {vs : List Value} (hB : B ≤ w.heap.size) (hn : vs.length ≤ 1000) : Own B e vs (.slice (some ⟨w.heap.size, 0, none⟩) vs.length vs.length) (w.alloc (.cells vs.toArray e)) :=
  ⟨by simp, .inr ⟨w.heap.size, vs.length, vs.toArray, rfl, hB, heap_alloc_new _ _, Nat.le_refl _, by unfold maxLen; omega, by simp, by simp⟩⟩

section
variable {P : Program} {d : Option Tmp} {ty : TypeId} {pos : String} {af : Array Edge} {gd : Option (Nat × Bool)} {a : Act} {w : World}
/-- '[]T{..}', to be written into later. -/
theorem ok_ownV {t e : TypeId} {n B : Nat} {parts : Array (Nat × Operand)} {z : Value} (xs : List Operand) (vs : List Value) (hT : P.underlying t = some (.slice e)) (hz : SizeIs P e 1) (hz0 : ZeroIs P e z)
    (hp : parts = (xs.zipIdx.map fun p => (p.2, p.1)).toArray) (hn : xs.length = n) (hn2 : n ≤ 1000) (hB : B ≤ w.heap.size) (hR : PartsOk a w xs (vs.map Is)) :
    OpOk P ⟨d, .buildSlice t n parts, ty, pos, af, gd⟩ a w (Own B e vs) := by
  obtain ⟨hl, hg⟩ := hR.get
  have hrun := run_buildSlice (a := a) (w := w) (d := d) (ty := ty) (pos := pos) (af := af) (gd := gd) xs _ hT hz hz0 hp hn hn2 hR
  have hvs : xs.map a.eval = vs := by
    apply List.ext_getElem (by simpa using hl)
    intro i h1 h2
    have := (hg i (by simpa using h1)).1
    rw [getD_map _ _ _ h2] at this
    rw [List.getElem_map]; exact this
  have hln : vs.length = n := by rw [← hvs]; simpa using hn
  unfold OpOk
  rw [hrun, hvs, ← hln]
  exact ⟨(Ext.refl w).alloc _, own_new hB (by omega)⟩
theorem ok_ownBs {t e : TypeId} {n B : Nat} {parts : Array (Nat × Operand)} {z : Value} (xs : List Operand) (l : List UInt8) (hT : P.underlying t = some (.slice e)) (hz : SizeIs P e 1) (hz0 : ZeroIs P e z)
    (hp : parts = (xs.zipIdx.map fun p => (p.2, p.1)).toArray) (hn : xs.length = n) (hn2 : n ≤ 1000) (hB : B ≤ w.heap.size) (hR : PartsOk a w xs (l.map ByteIs)) :
    OpOk P ⟨d, .buildSlice t n parts, ty, pos, af, gd⟩ a w (OwnB B e l) := ok_ownV xs _ hT hz hz0 hp hn hn2 hB (by rw [List.map_map]; exact hR)
theorem ok_ownNs {t e : TypeId} {n B : Nat} {parts : Array (Nat × Operand)} {z : Value} {k : IntKind} (xs : List Operand) (l : List Int) (hT : P.underlying t = some (.slice e)) (hz : SizeIs P e 1) (hz0 : ZeroIs P e z)
    (hp : parts = (xs.zipIdx.map fun p => (p.2, p.1)).toArray) (hn : xs.length = n) (hn2 : n ≤ 1000) (hB : B ≤ w.heap.size) (hR : PartsOk a w xs (l.map fun m => Is (.int k m))) :
    OpOk P ⟨d, .buildSlice t n parts, ty, pos, af, gd⟩ a w (OwnN B e k l) := ok_ownV xs _ hT hz hz0 hp hn hn2 hB (by rw [List.map_map]; exact hR)

/-- Of a nil slice. -/
theorem ok_len_nil {t e : TypeId} {x : Operand} (hT : P.underlying t = some (.slice e)) (hx : a.eval x = .slice none 0 0) : OpOk P ⟨d, .call ⟨.builtin .len, #[x], #[t]⟩, ty, pos, af, gd⟩ a w (Is (.int .i64 0)) := by
  have := ok_len (P := P) (d := d) (ty := ty) (pos := pos) (af := af) (gd := gd) (x := x) (Rs := []) (n := 0) hT (show Sl [] (a.eval x) w from .inl ⟨hx, rfl⟩) rfl
  exact this
theorem ok_cap_nil {t e : TypeId} {x : Operand} (hT : P.underlying t = some (.slice e)) (hx : a.eval x = .slice none 0 0) : OpOk P ⟨d, .call ⟨.builtin .cap, #[x], #[t]⟩, ty, pos, af, gd⟩ a w (Is (.int .i64 0)) :=
by
  refine ok_val (v := .int .i64 0) ?_ rfl
  have hc := run_cap_slice (P := P) w t ty none 0 0 (elem_of hT)
  simp only [execOp, resolve, invoke, builtin]
  simp [hx, hc]
  rfl
theorem ok_slice_nil {t e : TypeId} {x y : Operand} {k : IntKind} (hT : P.underlying t = some (.slice e)) (hz : SizeIs P e 1) (hx : a.eval x = .slice none 0 0) (hy : a.eval y = .int k 0) : OpOk P ⟨d, .slice t x none (some y) none, ty, pos, af, gd⟩ a w (Is (.slice none 0 0)) := by
  refine ok_val (v := .slice none 0 0) ?_ rfl
  have ht := elem_of hT
  have he : P.elem t = e := by simp [Program.elem, hT]
  have h3 := run_slice_h (P := P) w t none 0 0 ht k 0 (by decide) (by decide)
  simp only [he, hz.run, Result.andThen_ok] at h3
  have h4 : (Instr.sliceAt t (.slice none 0 0) none (some (.int k 0)) none).run P w = .ok (.slice none 0 0) w := by
    rw [run_sliceAt_slice (P := P) (w := w) (h := ht)]; rw [h3]; simp [sliced]
  simp only [execOp, hx, hy, Option.map_none, Option.map_some]
  simp [h4]
/-- 'append(nil, make([]T, n)...)'. -/
theorem ok_append_zeros {t tn e : TypeId} {z : Value} {bytes B : Nat} {k kn : IntKind} {x y : Operand} {n : Nat} (hT : P.underlying t = some (.slice e)) (hN : P.underlying tn = some (.int kn)) (hI : InfoIs P e z bytes) (hzc : z.cells.size = 1)
    (hx : a.eval x = .slice none 0 0) (hy : a.eval y = .int k (n : Int)) (h0 : 0 < n) (hb : n ≤ 9223372036854775807 ∧ n * bytes ≤ 281474976710656) (hB : B ≤ w.heap.size) :
    OpOk P ⟨d, .call ⟨.builtin .append, #[x, y], #[t, tn]⟩, ty, pos, af, gd⟩ a w (Own B e ((Builtin.zeroCells z.cells n).toList)) := by
  obtain ⟨i, hi, hz, hsz, hby⟩ := hI.get
  have hr := Lib.run_append_nil_zeros (P := P) w t tn ty e i z k kn hT hN hi hz n h0 (by omega) (by have := hb.1; omega) (by rw [hby]; exact hb.2)
  have hrun : (execOp a.eval ⟨d, .call ⟨.builtin .append, #[x, y], #[t, tn]⟩, ty, pos, af, gd⟩).run P w = .ok (.value (.slice (some ⟨w.heap.size, 0, none⟩) n (grownCap w n 0 e))) (w.drew.alloc (.cells (Builtin.zeroCells z.cells n ++ Builtin.zeroCells z.cells (grownCap w n 0 e - n)) e)) := by
    simp only [execOp, resolve, invoke, builtin]
    simp [hx, hy, hr]
  have hge := grownCap_ge w n 0 e
  have hlm := grownCap_le_maxLen w n 0 e (by unfold maxLen; exact hb.1)
  have hs : ∀ m, (Builtin.zeroCells z.cells m).size = m := fun m => (size_zeroCells z.cells m).trans (by rw [hzc, Nat.mul_one])
  generalize grownCap w n 0 e = c at hge hlm hrun
  unfold OpOk
  rw [hrun]
  refine ⟨(Ext.refl w).drew.alloc _, ?_⟩
  have hln : (Builtin.zeroCells z.cells n).toList.length = n := by rw [Array.length_toList]; exact hs n
  refine ⟨by simp, .inr ⟨w.heap.size, c, _, by rw [hln], hB, heap_alloc_new w.drew _, by rw [hln]; exact hge, hlm, by rw [Array.size_append, hs, hs]; omega, ?_⟩⟩
  rw [hln, Array.toList_append, List.take_append_of_le_length (by rw [hln]; omega), List.take_of_length_le (by rw [hln]; omega)]
theorem ok_slice_own {t e : TypeId} {x y : Operand} {k : IntKind} {B : Nat} {vs : List Value} (hi : Nat) (hT : P.underlying t = some (.slice e)) (hz : SizeIs P e 1) (hx : Own B e vs (a.eval x) w) (hy : a.eval y = .int k (hi : Int)) (h2 : hi ≤ vs.length) :
    OpOk P ⟨d, .slice t x none (some y) none, ty, pos, af, gd⟩ a w (Own B e (vs.take hi)) := by
  have ht := elem_of hT
  have he : P.elem t = e := by simp [Program.elem, hT]
  obtain ⟨h1, h3⟩ := hx
  rcases h3 with ⟨h4, h5⟩ | ⟨g, cap, cur, h4, h5, h6, h7, h8, h9, h10⟩
  · have hvs : vs = [] := by simpa using h5
    subst hvs
    have h0 : hi = 0 := by simpa using h2
    subst h0
    exact ok_val (v := .slice none 0 0) (by
      have h3 := run_slice_h (P := P) w t none 0 0 ht k 0 (by decide) (by decide)
      simp only [he, hz.run, Result.andThen_ok] at h3
      have h5 : (Instr.sliceAt t (.slice none 0 0) none (some (.int k 0)) none).run P w = .ok (.slice none 0 0) w := by
        rw [run_sliceAt_slice (P := P) (w := w) (h := ht)]; rw [h3]; simp [sliced]
      have hy' : a.eval y = .int k 0 := hy
      simp only [execOp, h4, hy', Option.map_none, Option.map_some]
      simp [h5]) Own.nil
  · refine ok_val (v := .slice (some ⟨g, 0, none⟩) hi cap) ?_ ?_
    · have h3 := run_slice_h (P := P) w t (some ⟨g, 0, none⟩) vs.length cap ht k hi (by omega) (by omega)
      simp only [he, hz.run, Result.andThen_ok] at h3
      have h11 : (Instr.sliceAt t (.slice (some ⟨g, 0, none⟩) vs.length cap) none (some (.int k hi)) none).run P w = .ok (.slice (some ⟨g, 0, none⟩) hi cap) w := by
        rw [run_sliceAt_slice (P := P) (w := w) (h := ht)]; rw [h3]; simp [sliced, Addr.add]
      simp only [execOp, h4, hy, Option.map_none, Option.map_some]
      simp [h11]
    · have hl : (vs.take hi).length = hi := by simp; omega
      refine ⟨by simp, .inr ⟨g, cap, cur, by rw [hl], h5, h6, by rw [hl]; omega, h8, h9, ?_⟩⟩
      rw [hl, ← h10, List.take_take, Nat.mul_one, Nat.mul_one, Nat.min_eq_left h2]
end

section
variable {P : Program} {Q : Exit → Act → World → Prop} {ops : Array Oper} {rest : List Oper} {d : Tmp} {op : Op} {ty : TypeId} {pos : String} {af : Array Edge} {a : Act} {w : World} {n : Nat}

theorem put_same {v : Value} : Same [d] a (a.put (some d) v) := fun t ht => by
  have h : ¬ d = t := fun e => by subst e; simp at ht
  show (a.tmps.setIfInBounds d v).getD t undef = a.tmps.getD t undef
  simp [Array.getElem?_setIfInBounds_ne h]
theorem put_eval {v : Value} (hd : d < a.tmps.size) : (a.put (some d) v).eval (.tmp d) = v := by
  show (a.tmps.setIfInBounds d v).getD d undef = v
  simp [hd]
theorem put_fr {dst : Option Tmp} {v : Value} (h : FrD dfs n a) : FrD dfs n (a.put dst v) := by
  cases dst with
  | none => exact h
  | some d => exact ⟨by simp [Act.put, h.1], h.2⟩

theorem wl_op {dst : Option Tmp} {V : VP} (hfr : FrD dfs n a) (h : OpOk P ⟨dst, op, ty, pos, af, none⟩ a w V) (_hs : Stb V)
    (k : ∀ a' w', Ext w w' → FrD dfs n a' → (∀ d, dst = some d → d < n → V (a'.eval (.tmp d)) w') → Same dst.toList a a' → wpList P ops Q rest a' w') : wpList P ops Q (⟨dst, op, ty, pos, af, none⟩ :: rest) a w := by
  refine wpList_plain rfl fun K hK => ?_
  have next : ∀ v w', Ext w w' → V v w' → K (a.put dst v) w' := fun v w' hx hv => hK _ _ (k _ _ hx (put_fr hfr) (fun d hd hlt => by
    subst hd; rw [put_eval (by rw [hfr.1]; exact hlt)]; exact hv) (by cases dst with | none => exact Same.refl | some d => exact put_same))
  unfold OpOk at h
  unfold Oper.wp
  generalize (execOp a.eval _).run P w = r at h ⊢
  cases r with
  | halt x w' => exact h.elim
  | ok nx w' =>
    cases nx <;> first | exact h.elim | skip
    case value v => exact next v w' h.1 h.2
    case skip => exact next undef w' h.1 h.2
    case enter f args => exact h.2.mono fun e w'' ⟨v, he, hx, hv⟩ => by subst he; exact next v w'' hx hv

theorem wl_append {B : Nat} {t e : TypeId} {z : Value} {bytes : Nat} {x y : Operand} {vs us : List Value} (hfr : FrD dfs n a) (hd : decide (d < n) = true) (hT : P.underlying t = some (.slice e)) (hI : InfoIs P e z bytes) (hzc : z.cells.size = 1)
    (hx : Own B e vs (a.eval x) w) (hy : SlV us (a.eval y) w) (hone : ∀ u ∈ us, u.oneCell' = true) (hB : B ≤ w.heap.size) (hmax : vs.length + us.length ≤ maxLen) (hroom : (vs.length + us.length) * bytes ≤ 140737488355328)
    (k : ∀ a' w', Below B w w' → FrD dfs n a' → Own B e (vs ++ us) (a'.eval (.tmp d)) w' → Same [d] a a' → wpList P ops Q rest a' w') :
    wpList P ops Q (⟨some d, .call ⟨.builtin .append, #[x, y], #[t, t]⟩, ty, pos, af, none⟩ :: rest) a w := by
  obtain ⟨i, hi, hz, hsz, hby⟩ := hI.get
  have hdn : d < a.tmps.size := by rw [hfr.1]; simpa using hd
  rcases hy with ⟨hy, hus⟩ | ⟨p, cap, hy, h2, h3, h4⟩
  · -- nothing is appended
    have hus' : us = [] := by simpa using hus
    subst hus'
    refine wpList_plain rfl fun K hK => ?_
    have hrun : (execOp a.eval ⟨some d, .call ⟨.builtin .append, #[x, y], #[t, t]⟩, ty, pos, af, none⟩).run P w = .ok (.value (a.eval x)) w := by
      obtain ⟨_, h2⟩ := hx
      rcases h2 with ⟨h3, h4⟩ | ⟨g, cap, cur, h3, h4, h5, h6, h7, h8, h9⟩
      · simp [execOp, resolve, invoke, builtin, Builtin.append_, h3, hy, run_underlying hT, sizeOf, typeInfo, hi, Builtin.lenOf, Builtin.firstCells]
      · simp [execOp, resolve, invoke, builtin, Builtin.append_, h3, hy, run_underlying hT, sizeOf, typeInfo, hi, Builtin.lenOf, Builtin.firstCells, h6, storeCells]
    unfold Oper.wp
    rw [hrun]
    refine hK _ _ (k _ w (Below.refl _ _) (put_fr hfr) ?_ put_same)
    rw [put_eval hdn, List.append_nil]
    exact hx
  · simp only [List.length_map] at hy h2 h4
    refine wpList_append_own w rfl x y t rfl B e i z 1 bytes hT hi hz hsz hby hzc (by decide) _ vs.length vs rfl hx p us.length cap us hy (by simp) (fun j u hj => ?_) hone hmax hroom hB ?_
    · obtain ⟨hjl, rfl⟩ := List.getElem?_eq_some_iff.1 hj
      obtain ⟨x', hc, hr⟩ := h4 j hjl
      rw [getD_map _ _ _ hjl] at hr
      rw [hc]; exact congrArg some hr
    · intro v' w' hown hg _
      refine k _ w' ?_ (put_fr hfr) ?_ put_same
      · exact (Below.refl B w).grown hg hB (fun q hq => (hx.lt q hq).1)
      · rw [put_eval hdn]
        unfold Own
        rw [List.length_append]
        exact hown

theorem wl_append_bs {B : Nat} {t e : TypeId} {z : Value} {bytes : Nat} {x y : Operand} {l m : List UInt8} (hfr : FrD dfs n a) (hd : decide (d < n) = true) (hT : P.underlying t = some (.slice e)) (hI : InfoIs P e z bytes) (hzc : z.cells.size = 1)
    (hx : OwnB B e l (a.eval x) w) (hy : Bs m (a.eval y) w) (hB : B ≤ w.heap.size) (hroom : (l.length + m.length) * bytes ≤ 140737488355328 ∧ l.length + m.length ≤ 9223372036854775807)
    (k : ∀ a' w', Below B w w' → FrD dfs n a' → OwnB B e (l ++ m) (a'.eval (.tmp d)) w' → Same [d] a a' → wpList P ops Q rest a' w') :
    wpList P ops Q (⟨some d, .call ⟨.builtin .append, #[x, y], #[t, t]⟩, ty, pos, af, none⟩ :: rest) a w :=
  wl_append hfr hd hT hI hzc hx hy.v (fun u hu => by obtain ⟨c, _, rfl⟩ := List.mem_map.1 hu; rfl) hB (by unfold maxLen; simpa using hroom.2) (by simpa using hroom.1) fun a' w' h1 h2 h3 h4 => k a' w' h1 h2 (by unfold OwnB; rw [List.map_append]; exact h3) h4
theorem wl_append_ns {B : Nat} {t e : TypeId} {z : Value} {bytes : Nat} {x y : Operand} {k' : IntKind} {l m : List Int} (hfr : FrD dfs n a) (hd : decide (d < n) = true) (hT : P.underlying t = some (.slice e)) (hI : InfoIs P e z bytes) (hzc : z.cells.size = 1)
    (hx : OwnN B e k' l (a.eval x) w) (hy : Ns k' m (a.eval y) w) (hB : B ≤ w.heap.size) (hroom : (l.length + m.length) * bytes ≤ 140737488355328 ∧ l.length + m.length ≤ 9223372036854775807)
    (k : ∀ a' w', Below B w w' → FrD dfs n a' → OwnN B e k' (l ++ m) (a'.eval (.tmp d)) w' → Same [d] a a' → wpList P ops Q rest a' w') :
    wpList P ops Q (⟨some d, .call ⟨.builtin .append, #[x, y], #[t, t]⟩, ty, pos, af, none⟩ :: rest) a w :=
  wl_append hfr hd hT hI hzc hx hy.v (fun u hu => by obtain ⟨c, _, rfl⟩ := List.mem_map.1 hu; rfl) hB (by unfold maxLen; simpa using hroom.2) (by simpa using hroom.1) fun a' w' h1 h2 h3 h4 => k a' w' h1 h2 (by unfold OwnN; rw [List.map_append]; exact h3) h4
end
end Go.Proofs.Ytpjpfmnnefgnbaa
