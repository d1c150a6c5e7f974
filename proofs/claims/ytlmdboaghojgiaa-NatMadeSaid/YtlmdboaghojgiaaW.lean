import Derived.Lib.AppendZeros
import Derived.Lib.ReflectliteSwap
import Derived.Test.YtlmdboaghojgiaaK
/- Rules for what writes into memory of the function's own: append. -/
namespace Go.Proofs.Ytlmdboaghojgiaa
set_option linter.unusedVariables false
set_option linter.unusedSimpArgs false
open Go.RowKit
variable {dfs : List Deferred}

def InfoIs (P : Program) (e : TypeId) (z : Value) (bytes : Nat) : Prop := (P.info? e).map (fun i => (i.zero, i.size, i.bytes)) = some (some z, 1, bytes)
theorem InfoIs.get {P : Program} {e : TypeId} {z : Value} {bytes : Nat} (h : InfoIs P e z bytes) : ∃ i, P.info? e = some i ∧ i.zero = some z ∧ i.size = 1 ∧ i.bytes = bytes := by
  unfold InfoIs at h
  cases hi : P.info? e with
  | none => rw [hi] at h; cases h
  | some i => rw [hi] at h; simp at h; exact ⟨i, rfl, h⟩

def SlV (vs : List Value) : VP := Sl (vs.map Is)
instance (vs : List Value) : Stb (SlV vs) := ⟨Sl.stable fun i hi => by
  rw [Q26 _ _ _ (by simpa using hi)]; exact Stb.st⟩
theorem Bs.v {l : List UInt8} {v : Value} {w : World} (h : Bs l v w) : SlV (l.map Q0t) v w := by
  unfold SlV; rw [List.map_map]; exact h
theorem Bs.of_v {l : List UInt8} {v : Value} {w : World} (h : SlV (l.map Q0t) v w) : Bs l v w := by
  unfold SlV at h; rw [List.map_map] at h; exact h
theorem Ns.v {k : IntKind} {l : List Int} {v : Value} {w : World} (h : Ns k l v w) : SlV (l.map fun n => .int k n) v w := by
  unfold SlV; rw [List.map_map]; exact h
theorem Ns.of_v {k : IntKind} {l : List Int} {v : Value} {w : World} (h : SlV (l.map fun n => .int k n) v w) : Ns k l v w := by
  unfold SlV at h; rw [List.map_map] at h; exact h

def Own (B : Nat) (e : TypeId) (vs : List Value) : VP := fun v w => w.ownsRow B e 1 v vs.length vs
instance (B : Nat) (e : TypeId) (vs : List Value) : Stb (Own B e vs) := ⟨fun v w w' hx h => by
  obtain ⟨h1, h2⟩ := h
  refine ⟨h1, ?_⟩
  rcases h2 with h2 | ⟨g, cap, cur, h3, h4, h5, h6⟩
  · exact .inl h2
  · have hlt : g < w.heap.size := (Array.getElem?_eq_some_iff.1 h5).1
    exact .inr ⟨g, cap, cur, h3, h4, by rw [hx.block g hlt]; exact h5, h6⟩⟩
def OwnB (B : Nat) (e : TypeId) (l : List UInt8) : VP := Own B e (l.map Q0t)
instance (B : Nat) (e : TypeId) (l : List UInt8) : Stb (OwnB B e l) := inferInstanceAs (Stb (Own _ _ _))
def OwnN (B : Nat) (e : TypeId) (k : IntKind) (l : List Int) : VP := Own B e (l.map fun n => .int k n)
instance (B : Nat) (e : TypeId) (k : IntKind) (l : List Int) : Stb (OwnN B e k l) := inferInstanceAs (Stb (Own _ _ _))

theorem Own.nil {B : Nat} {e : TypeId} {w : World} : Own B e [] (.slice none 0 0) w := World.ownsRow_nil _ _ _ _
theorem Qkx {B : Nat} {e : TypeId} {w : World} : OwnB B e [] (.slice none 0 0) w := Own.nil
theorem Qky {B : Nat} {e : TypeId} {k : IntKind} {w : World} : OwnN B e k [] (.slice none 0 0) w := Own.nil

theorem Own.v {B : Nat} {e : TypeId} {vs : List Value} {v : Value} {w : World} (h : Own B e vs v w) : SlV vs v w := by
  obtain ⟨h1, h2⟩ := h
  rcases h2 with ⟨h3, h4⟩ | ⟨g, cap, cur, h3, h4, h5, h6, h7, h8, h9⟩
  · exact .inl ⟨h3, by simpa using h4⟩
  · refine .inr ⟨⟨g, 0, none⟩, cap, by simpa using h3, by simpa using h6, h7, fun i hi => ?_⟩
    simp only [List.length_map] at hi
    refine ⟨vs[i], ?_, by rw [Q26 _ _ _ hi]; rfl⟩
    rw [Go.WideShapes.add_plain, Nat.zero_add, cell_of_row w g i cur e _ h5]
    have : (cur.toList.take (vs.length * 1))[i]? = some vs[i] := by rw [h9]; simp [hi]
    rw [List.getElem?_take_of_lt (by omega)] at this
    simpa using this
theorem OwnB.bs {B : Nat} {e : TypeId} {l : List UInt8} {v : Value} {w : World} (h : OwnB B e l v w) : Bs l v w := Bs.of_v (Own.v h)
theorem OwnN.ns {B : Nat} {e : TypeId} {k : IntKind} {l : List Int} {v : Value} {w : World} (h : OwnN B e k l v w) : Ns k l v w := Ns.of_v (Own.v h)

theorem Own.mono {B B' : Nat} {e : TypeId} {vs : List Value} {v : Value} {w : World} (h : Own B e vs v w) (hB : B' ≤ B) : Own B' e vs v w := by
  obtain ⟨h1, h2⟩ := h
  refine ⟨h1, ?_⟩
  rcases h2 with h2 | ⟨g, cap, cur, h3, h4, h5⟩
  · exact .inl h2
  · exact .inr ⟨g, cap, cur, h3, Nat.le_trans hB h4, h5⟩
theorem OwnB.mono {B B' : Nat} {e : TypeId} {l : List UInt8} {v : Value} {w : World} (h : OwnB B e l v w) (hB : B' ≤ B) : OwnB B' e l v w := Own.mono h hB
theorem OwnN.mono {B B' : Nat} {e : TypeId} {k : IntKind} {l : List Int} {v : Value} {w : World} (h : OwnN B e k l v w) (hB : B' ≤ B) : OwnN B' e k l v w := Own.mono h hB

theorem Qnf {w : World} {B : Nat} {e : TypeId} {vs : List Value} (hB : B ≤ w.heap.size) (hn : vs.length ≤ 1000) : Own B e vs (.slice (some ⟨w.heap.size, 0, none⟩) vs.length vs.length) (w.alloc (.cells vs.toArray e)) :=
  ⟨by simp, .inr ⟨w.heap.size, vs.length, vs.toArray, rfl, hB, heap_alloc_new _ _, Nat.le_refl _, by unfold maxLen; omega, by simp, by simp⟩⟩

section
variable {P : Program} {d : Option Tmp} {ty : TypeId} {pos : String} {af : Array Edge} {gd : Option (Nat × Bool)} {a : Act} {w : World}
theorem Qng {t e : TypeId} {n B : Nat} {parts : Array (Nat × Operand)} {z : Value} (xs : List Operand) (vs : List Value) (hT : P.underlying t = some (.slice e)) (hz : SizeIs P e 1) (hz0 : ZeroIs P e z)
    (hp : parts = (xs.zipIdx.map fun p => (p.2, p.1)).toArray) (hn : xs.length = n) (hn2 : n ≤ 1000) (hB : B ≤ w.heap.size) (hR : PartsOk a w xs (vs.map Is)) :
    OpOk P ⟨d, .buildSlice t n parts, ty, pos, af, gd⟩ a w (Own B e vs) := by
  obtain ⟨hl, hg⟩ := hR.get
  have hrun := Q6y (a := a) (w := w) (d := d) (ty := ty) (pos := pos) (af := af) (gd := gd) xs _ hT hz hz0 hp hn hn2 hR
  have hvs : xs.map a.eval = vs := by
    apply List.ext_getElem (by simpa using hl)
    intro i h1 h2
    have := (hg i (by simpa using h1)).1
    rw [Q26 _ _ _ h2] at this
    rw [List.getElem_map]; exact this
  have hln : vs.length = n := by rw [← hvs]; simpa using hn
  unfold OpOk
  rw [hrun, hvs, ← hln]
  exact ⟨(Ext.refl w).alloc _, Qnf hB (by omega)⟩
theorem Q3c {t e : TypeId} {n B : Nat} {parts : Array (Nat × Operand)} {z : Value} (xs : List Operand) (l : List UInt8) (hT : P.underlying t = some (.slice e)) (hz : SizeIs P e 1) (hz0 : ZeroIs P e z)
    (hp : parts = (xs.zipIdx.map fun p => (p.2, p.1)).toArray) (hn : xs.length = n) (hn2 : n ≤ 1000) (hB : B ≤ w.heap.size) (hR : PartsOk a w xs (l.map ByteIs)) :
    OpOk P ⟨d, .buildSlice t n parts, ty, pos, af, gd⟩ a w (OwnB B e l) := Qng xs _ hT hz hz0 hp hn hn2 hB (by rw [List.map_map]; exact hR)
end

section
variable {P : Program} {Q : Exit → Act → World → Prop} {ops : Array Oper} {rest : List Oper} {d : Tmp} {op : Op} {ty : TypeId} {pos : String} {af : Array Edge} {a : Act} {w : World} {n : Nat}

theorem Q2x {v : Value} : Same [d] a (a.put (some d) v) := fun t ht => by
  have h : ¬ d = t := fun e => by subst e; simp at ht
  show (a.tmps.setIfInBounds d v).getD t undef = a.tmps.getD t undef
  simp [Array.getElem?_setIfInBounds_ne h]
theorem Q41 {v : Value} (hd : d < a.tmps.size) : (a.put (some d) v).eval (.tmp d) = v := by
  show (a.tmps.setIfInBounds d v).getD d undef = v
  simp [hd]
theorem Q47 {dst : Option Tmp} {v : Value} (h : FrD dfs n a) : FrD dfs n (a.put dst v) := by
  cases dst with
  | none => exact h
  | some d => exact ⟨by simp [Act.put, h.1], h.2⟩

theorem Q11 {dst : Option Tmp} {V : VP} (hfr : FrD dfs n a) (h : OpOk P ⟨dst, op, ty, pos, af, none⟩ a w V) (_hs : Stb V)
    (k : ∀ a' w', Ext w w' → FrD dfs n a' → (∀ d, dst = some d → d < n → V (a'.eval (.tmp d)) w') → Same dst.toList a a' → wpList P ops Q rest a' w') : wpList P ops Q (⟨dst, op, ty, pos, af, none⟩ :: rest) a w := by
  refine wpList_plain rfl fun K hK => ?_
  have next : ∀ v w', Ext w w' → V v w' → K (a.put dst v) w' := fun v w' hx hv => hK _ _ (k _ _ hx (Q47 hfr) (fun d hd hlt => by
    subst hd; rw [Q41 (by rw [hfr.1]; exact hlt)]; exact hv) (by cases dst with | none => exact Same.refl | some d => exact Q2x))
  unfold OpOk at h
  unfold Oper.wp
  generalize (execOp a.eval _).run P w = r at h ⊢
  cases r with
  | halt x w' => exact h.elim
  | ok nx w' =>
    cases nx <;> first | exact h.elim | skip
    case value v => exact next v w' h.1 h.2
    case skip => exact next undef w' h.1 h.2
    case enter f args => exact h.2.mono fun e w'' ⟨v, he, hx, hv⟩ => by subst he; exact next v w'' hx hv

theorem Qcq {B : Nat} {t e : TypeId} {z : Value} {bytes : Nat} {x y : Operand} {vs us : List Value} (hfr : FrD dfs n a) (hd : decide (d < n) = true) (hT : P.underlying t = some (.slice e)) (hI : InfoIs P e z bytes) (hzc : z.cells.size = 1)
    (hx : Own B e vs (a.eval x) w) (hy : SlV us (a.eval y) w) (hone : ∀ u ∈ us, u.oneCell' = true) (hB : B ≤ w.heap.size) (hmax : vs.length + us.length ≤ maxLen) (hroom : (vs.length + us.length) * bytes ≤ 140737488355328)
    (k : ∀ a' w', Below B w w' → FrD dfs n a' → Own B e (vs ++ us) (a'.eval (.tmp d)) w' → Same [d] a a' → wpList P ops Q rest a' w') :
    wpList P ops Q (⟨some d, .call ⟨.builtin .append, #[x, y], #[t, t]⟩, ty, pos, af, none⟩ :: rest) a w := by
  obtain ⟨i, hi, hz, hsz, hby⟩ := hI.get
  have hdn : d < a.tmps.size := by rw [hfr.1]; simpa using hd
  rcases hy with ⟨hy, hus⟩ | ⟨p, cap, hy, h2, h3, h4⟩
  · -- nothing is appended
    have hus' : us = [] := by simpa using hus
    subst hus'
    refine wpList_plain rfl fun K hK => ?_
    have hrun : (execOp a.eval ⟨some d, .call ⟨.builtin .append, #[x, y], #[t, t]⟩, ty, pos, af, none⟩).run P w = .ok (.value (a.eval x)) w := by
      obtain ⟨_, h2⟩ := hx
      rcases h2 with ⟨h3, h4⟩ | ⟨g, cap, cur, h3, h4, h5, h6, h7, h8, h9⟩
      · simp [execOp, resolve, invoke, builtin, Builtin.append_, h3, hy, run_underlying hT, sizeOf, typeInfo, hi, Builtin.lenOf, Builtin.firstCells]
      · simp [execOp, resolve, invoke, builtin, Builtin.append_, h3, hy, run_underlying hT, sizeOf, typeInfo, hi, Builtin.lenOf, Builtin.firstCells, h6, storeCells]
    unfold Oper.wp
    rw [hrun]
    refine hK _ _ (k _ w (Below.refl _ _) (Q47 hfr) ?_ Q2x)
    rw [Q41 hdn, List.append_nil]
    exact hx
  · simp only [List.length_map] at hy h2 h4
    refine wpList_append_own w rfl x y t rfl B e i z 1 bytes hT hi hz hsz hby hzc (by decide) _ vs.length vs rfl hx p us.length cap us hy (by simp) (fun j u hj => ?_) hone hmax hroom hB ?_
    · obtain ⟨hjl, rfl⟩ := List.getElem?_eq_some_iff.1 hj
      obtain ⟨x', hc, hr⟩ := h4 j hjl
      rw [Q26 _ _ _ hjl] at hr
      rw [hc]; exact congrArg some hr
    · intro v' w' hown hg _
      refine k _ w' ?_ (Q47 hfr) ?_ Q2x
      · exact (Below.refl B w).grown hg hB (fun q hq => (hx.lt q hq).1)
      · rw [Q41 hdn]
        unfold Own
        rw [List.length_append]
        exact hown

theorem Q4s {B : Nat} {t e : TypeId} {z : Value} {bytes : Nat} {x y : Operand} {l m : List UInt8} (hfr : FrD dfs n a) (hd : decide (d < n) = true) (hT : P.underlying t = some (.slice e)) (hI : InfoIs P e z bytes) (hzc : z.cells.size = 1)
    (hx : OwnB B e l (a.eval x) w) (hy : Bs m (a.eval y) w) (hB : B ≤ w.heap.size) (hroom : (l.length + m.length) * bytes ≤ 140737488355328 ∧ l.length + m.length ≤ 9223372036854775807)
    (k : ∀ a' w', Below B w w' → FrD dfs n a' → OwnB B e (l ++ m) (a'.eval (.tmp d)) w' → Same [d] a a' → wpList P ops Q rest a' w') :
    wpList P ops Q (⟨some d, .call ⟨.builtin .append, #[x, y], #[t, t]⟩, ty, pos, af, none⟩ :: rest) a w :=
  Qcq hfr hd hT hI hzc hx hy.v (fun u hu => by obtain ⟨c, _, rfl⟩ := List.mem_map.1 hu; rfl) hB (by unfold maxLen; simpa using hroom.2) (by simpa using hroom.1) fun a' w' h1 h2 h3 h4 => k a' w' h1 h2 (by unfold OwnB; rw [List.map_append]; exact h3) h4
theorem Qcr {B : Nat} {t e : TypeId} {z : Value} {bytes : Nat} {x y : Operand} {k' : IntKind} {l m : List Int} (hfr : FrD dfs n a) (hd : decide (d < n) = true) (hT : P.underlying t = some (.slice e)) (hI : InfoIs P e z bytes) (hzc : z.cells.size = 1)
    (hx : OwnN B e k' l (a.eval x) w) (hy : Ns k' m (a.eval y) w) (hB : B ≤ w.heap.size) (hroom : (l.length + m.length) * bytes ≤ 140737488355328 ∧ l.length + m.length ≤ 9223372036854775807)
    (k : ∀ a' w', Below B w w' → FrD dfs n a' → OwnN B e k' (l ++ m) (a'.eval (.tmp d)) w' → Same [d] a a' → wpList P ops Q rest a' w') :
    wpList P ops Q (⟨some d, .call ⟨.builtin .append, #[x, y], #[t, t]⟩, ty, pos, af, none⟩ :: rest) a w :=
  Qcq hfr hd hT hI hzc hx hy.v (fun u hu => by obtain ⟨c, _, rfl⟩ := List.mem_map.1 hu; rfl) hB (by unfold maxLen; simpa using hroom.2) (by simpa using hroom.1) fun a' w' h1 h2 h3 h4 => k a' w' h1 h2 (by unfold OwnN; rw [List.map_append]; exact h3) h4
end
end Go.Proofs.Ytlmdboaghojgiaa

/- More rules: texts, arrays, addresses, max. -/
namespace Go.Proofs.Ytlmdboaghojgiaa
set_option linter.unusedVariables false
set_option linter.unusedSimpArgs false
open Go.RowKit

theorem Qhu {k : IntKind} {r : Int} (h0 : 0 ≤ r) (h1 : r ≤ k.max) : k.wrap r = r := by
  cases k <;> simp [IntKind.max, IntKind.signed, IntKind.bits] at h1
  · exact IntWalk.i8_in _ (by omega)
  · exact IntWalk.i16_in _ (by omega)
  · exact IntWalk.i32_in _ (by omega)
  · exact IntWalk.i64_in _ (by omega)
  · exact IntWalk.u8_in _ (by omega)
  · exact IntWalk.u16_in _ (by omega)
  · exact IntWalk.u32_in _ (by omega)
  · exact IntWalk.u64_in _ (by omega)

section
variable {P : Program} {d : Option Tmp} {ty : TypeId} {pos : String} {af : Array Edge} {gd : Option (Nat × Bool)} {a : Act} {w : World}

def bstr (l : List UInt8) : ByteArray := l.foldl (fun r c => r.push c) ByteArray.empty
theorem Qgu (l : List UInt8) : ∀ s : ByteArray, (l.foldl (fun r c => r.push c) s).toList = s.toList ++ l := by
  induction l with
  | nil => intro s; simp
  | cons c l ih =>
    intro s
    rw [List.foldl_cons, ih]
    have : (s.push c).toList = s.toList ++ [c] := by
      simp [ByteArray.toList_eq, ByteArray.push]
    rw [this]; simp
theorem Q9g (l : List UInt8) : (bstr l).toList = l := by
  unfold bstr; rw [Qgu]; simp [ByteArray.toList_eq]

theorem Qmf {src dst e : TypeId} {x : Operand} {l : List UInt8} (hs : P.underlying src = some (.slice e)) (he : P.underlying e = some (.int .u8)) (hd : P.underlying dst = some .string) (hx : Bs l (a.eval x) w) :
    OpOk P ⟨d, .convert src dst x, ty, pos, af, gd⟩ a w (Is (.string (bstr l))) := by
  refine Q1g (v := .string (bstr l)) ?_ rfl
  have hrun : (convert src dst (a.eval x)).run P w = .ok (.string (bstr l)) w := by
    rcases hx with ⟨hv, hl⟩ | ⟨p, cap, hv, h2, h3, h4⟩
    · have : l = [] := by simpa using hl
      subst this
      rw [hv]
      simp [convert, run_underlying hs, run_underlying hd, run_underlying he, Conv.bytesToString, bstr]
    · simp only [List.length_map] at hv h2 h4
      rw [hv, run_convert_bytes_string w src dst e _ _ _ hs he hd]
      have hc := run_loadCells_list (P := P) (w := w) p (l.map Q0t) (fun j v hj => by
        obtain ⟨hjl, rfl⟩ := List.getElem?_eq_some_iff.1 hj
        simp only [List.length_map] at hjl
        obtain ⟨x', hc, hr⟩ := h4 j hjl
        rw [Q26 _ _ _ hjl] at hr
        rw [hc, List.getElem_map]; exact congrArg some hr)
      have e1 : l.map Q0t = (l.map fun c => (c.toNat : Int)).map (Value.int .u8) := by rw [List.map_map]; rfl
      rw [e1] at hc
      simp only [List.length_map] at hc
      rw [run_bytesToString w p l.length cap _ hc]
      have e2 : ∀ s : ByteArray, (l.map fun c => (c.toNat : Int)).foldl (fun r n => r.push (UInt8.ofNat n.toNat)) s = l.foldl (fun r c => r.push c) s := by
        intro s; rw [List.foldl_map]; simp
      rw [e2]; rfl
  simp only [execOp]
  simp [hrun]

theorem Qp9 {t t' : TypeId} {x y : Operand} {u v : ByteArray} (hx : a.eval x = .string u) (hy : a.eval y = .string v) : OpOk P ⟨d, .binOp .eql t x y t', ty, pos, af, gd⟩ a w (Is (.bool (u.toList == v.toList))) := by
  refine Q1g (v := .bool (u.toList == v.toList)) ?_ rfl
  have he : (eqGuard .eql t x y (.string u) (.string v)).run P w = .ok () w := rfl
  simp only [execOp, hx, hy, binOp_string_eql]
  simp [he]

/-! ## max -/
theorem Qbl {x y : Operand} {k : IntKind} {m n : Int} {ats : Array TypeId} (hx : a.eval x = .int k m) (hy : a.eval y = .int k n) : OpOk P ⟨d, .call ⟨.builtin .max, #[x, y], ats⟩, ty, pos, af, gd⟩ a w (Is (.int k (if n > m then n else m))) := by
  refine Q1g (v := .int k (if n > m then n else m)) ?_ rfl
  simp only [execOp, resolve, invoke, builtin]
  simp [hx, hy, Builtin.max_, Builtin.max2]
theorem Qhv {x y : Operand} {k : IntKind} {m n : Int} {ats : Array TypeId} (hx : a.eval x = .int k m) (hy : a.eval y = .int k n) : OpOk P ⟨d, .call ⟨.builtin .min, #[x, y], ats⟩, ty, pos, af, gd⟩ a w (Is (.int k (if n < m then n else m))) := by
  refine Q1g (v := .int k (if n < m then n else m)) ?_ rfl
  simp only [execOp, resolve, invoke, builtin]
  simp [hx, hy, Builtin.min_, Builtin.min2]

/-! ## Slices of arrays -/
theorem Qhw {t e : TypeId} {n : Nat} (hT : P.underlying t = some (.array n e)) : P.underlying t = some (.array (P.arrayLen t) (P.elem t)) ∧ P.arrayLen t = n ∧ P.elem t = e := by
  have h1 : P.arrayLen t = n := by simp [Program.arrayLen, hT]
  have h2 : P.elem t = e := by simp [Program.elem, hT]
  rw [h1, h2]; exact ⟨hT, rfl, rfl⟩

section
variable {t e : TypeId} {n : Nat} {x y z : Operand} {cs : List Value} {l : List UInt8} {k k' : IntKind}
theorem Q7b (i : Nat) (hT : P.underlying t = some (.array n e)) (hz : SizeIs P e 1) (hc : cs.take n = l.map Q0t) (hn : l.length = n) (_hm : n ≤ 1000) (hx : Cells cs (a.eval x) w) (hy : a.eval y = .int k (i : Int)) (hi : i < n) :
    OpOk P ⟨d, .indexAddr t x y, ty, pos, af, gd⟩ a w (Ptr (ByteIs (l[i]'(by omega)))) := by
  obtain ⟨b, o, hv, h⟩ := hx
  have hcl : n ≤ cs.length := by have := congrArg List.length hc; simp at this; omega
  refine Q1g (v := .pointer (some ⟨b, o + i, none⟩)) ?_ ⟨⟨b, o + i, none⟩, Q0t (l[i]'(by omega)), rfl, rfl, ?_, rfl⟩
  · simp [execOp, Instr.indexAt, hv, hy, asIntOf, run_underlying hT, hz.run, hi, Go.WideShapes.add_plain, Instr.sureAddr]
  · rw [h i (by omega)]
    have : (cs.take n)[i]? = (l.map Q0t)[i]? := by rw [hc]
    rw [List.getElem?_take_of_lt hi, List.getElem?_map, List.getElem?_eq_getElem (by omega), List.getElem?_eq_getElem (by omega)] at this
    simp only [Option.map_some, Option.some.injEq] at this
    rw [← this]
    simp [List.getD_eq_getElem?_getD, List.getElem?_eq_getElem (show i < cs.length by omega)]
end

/-! ## Addresses -/
structure Adr where
  six : Bool
  b : List UInt8
def Q0l (A : Adr) : List Value := .bool A.six :: A.b.map Q0t
def AdrV (A : Adr) : Value := .agg (Q0l A).toArray
def adr0 : Adr := ⟨false, List.replicate 16 0⟩
theorem Qfk {A : Adr} (h : A.b.length = 16) : ((Q0l A).drop 1).take 16 = A.b.map Q0t := by
  simp [Q0l, List.take_of_length_le, h]

/-! ## Numbers made wider; zero values -/
theorem Q2k {src dst : TypeId} {D : TypeDesc} {k' : IntKind} {x : Operand} {c : UInt8} (hs : P.underlying src = some D) (hd : P.underlying dst = some (.int k')) (hk : decide (255 ≤ k'.max) = true) (hx : ByteIs c (a.eval x) w) :
    OpOk P ⟨d, .convert src dst x, ty, pos, af, gd⟩ a w (Is (.int k' (c.toNat : Int))) := by
  have := Qe6 (d := d) (ty := ty) (pos := pos) (af := af) (gd := gd) (w := w) hs hd (show a.eval x = .int .u8 (c.toNat : Int) from hx)
  rwa [Qhu (by omega) (by have := c.toNat_lt; have h2 := of_decide_eq_true hk; omega)] at this
theorem Q2d {src dst : TypeId} {D : TypeDesc} {k k' : IntKind} {x : Operand} {n : Int} (hs : P.underlying src = some D) (hd : P.underlying dst = some (.int k')) (hk : k'.wrap n = n) (hx : a.eval x = .int k n) :
    OpOk P ⟨d, .convert src dst x, ty, pos, af, gd⟩ a w (Is (.int k' n)) := by
  have := Qe6 (d := d) (ty := ty) (pos := pos) (af := af) (gd := gd) (w := w) hs hd hx
  rwa [hk] at this
theorem Q13 {t : TypeId} {cs : Array Value} (h : P.built t [] = some cs) : OpOk P ⟨d, .build t #[], ty, pos, af, gd⟩ a w (Is (.agg cs)) := by
  refine Q1g (v := .agg cs) ?_ rfl
  have := run_build (P := P) w t #[] cs h
  simp only [execOp]
  simp [this]
end
end Go.Proofs.Ytlmdboaghojgiaa

/- Memory of the function's own, where several rows are written into: each owned row at its place ('bk'); stores into an owned row. -/
namespace Go.Proofs.Ytlmdboaghojgiaa
set_option linter.unusedVariables false
set_option linter.unusedSimpArgs false
open Go Go.RowKit
variable {dfs : List Deferred}

def bk : Value → Nat
  | .slice (some p) _ _ => p.block + 1
  | _ => 0
theorem Qcs {v : Value} : (∀ k, v.ownBlock = some k → bk v = k + 1) ∧ (v.ownBlock = none → bk v = 0) := by
  cases v with
  | slice p l c =>
    cases p with
    | none => exact ⟨fun k h => (by cases h), fun _ => rfl⟩
    | some p => exact ⟨fun k h => (by cases h; rfl), fun h => (by cases h)⟩
  | _ => exact ⟨fun k h => (by simp [Value.ownBlock] at h), fun _ => rfl⟩

structure ChgAt (β : Nat) (w w' : World) : Prop where
  os : w'.os = w.os
  tape : w'.tape = w.tape
  output : w'.output = w.output
  size : w.heap.size ≤ w'.heap.size
  block : ∀ k, k < w.heap.size → k + 1 ≠ β → w'.heap[k]? = w.heap[k]?
theorem ChgAt.of_grown {v : Value} {w w' : World} (h : w.grownBy w' v.ownBlock) : ChgAt (bk v) w w' :=
  ⟨h.os, h.tape, h.output, h.size, fun k hk hne => h.block k hk fun e => hne (Qcs.1 k e.symm).symm⟩
theorem ChgAt.below {β B : Nat} {w w' : World} (h : ChgAt β w w') (hb : B ≤ w.heap.size) (hβ : β = 0 ∨ B < β) : Below B w w' :=
  ⟨h.os, h.tape, h.output, h.size, fun k hk => h.block k (by omega) (by omega)⟩
theorem ChgAt.refl (β : Nat) (w : World) : ChgAt β w w := ⟨rfl, rfl, rfl, Nat.le_refl _, fun _ _ _ => rfl⟩

def OwnAt (β B : Nat) (e : TypeId) (vs : List Value) : VP := fun v w => Own B e vs v w ∧ bk v = β
instance (β B : Nat) (e : TypeId) (vs : List Value) : Stb (OwnAt β B e vs) := ⟨fun v w w' hx h => ⟨Stb.st v w w' hx h.1, h.2⟩⟩
def OwnBA (β B : Nat) (e : TypeId) (l : List UInt8) : VP := OwnAt β B e (l.map Q0t)
instance (β B : Nat) (e : TypeId) (l : List UInt8) : Stb (OwnBA β B e l) := inferInstanceAs (Stb (OwnAt _ _ _ _))
def OwnNA (β B : Nat) (e : TypeId) (k : IntKind) (l : List Int) : VP := OwnAt β B e (l.map fun n => .int k n)
instance (β B : Nat) (e : TypeId) (k : IntKind) (l : List Int) : Stb (OwnNA β B e k l) := inferInstanceAs (Stb (OwnAt _ _ _ _))

theorem Q2o {B : Nat} {e : TypeId} {w : World} : OwnBA 0 B e [] (.slice none 0 0) w := ⟨Own.nil, rfl⟩
theorem OwnBA.bs {β B : Nat} {e : TypeId} {l : List UInt8} {v : Value} {w : World} (h : OwnBA β B e l v w) : Bs l v w := OwnB.bs h.1
theorem OwnNA.ns {β B : Nat} {e : TypeId} {k : IntKind} {l : List Int} {v : Value} {w : World} (h : OwnNA β B e k l v w) : Ns k l v w := OwnN.ns h.1
theorem OwnBA.own {β B : Nat} {e : TypeId} {l : List UInt8} {v : Value} {w : World} (h : OwnBA β B e l v w) : OwnB B e l v w := h.1
theorem OwnNA.own {β B : Nat} {e : TypeId} {k : IntKind} {l : List Int} {v : Value} {w : World} (h : OwnNA β B e k l v w) : OwnN B e k l v w := h.1
theorem OwnB.at {B : Nat} {e : TypeId} {l : List UInt8} {v : Value} {w : World} (h : OwnB B e l v w) : ∃ β, OwnBA β B e l v w := ⟨_, h, rfl⟩
theorem OwnN.at {B : Nat} {e : TypeId} {k : IntKind} {l : List Int} {v : Value} {w : World} (h : OwnN B e k l v w) : ∃ β, OwnNA β B e k l v w := ⟨_, h, rfl⟩

theorem OwnBA.mono {β B B' : Nat} {e : TypeId} {l : List UInt8} {v : Value} {w : World} (h : OwnBA β B e l v w) (hB : B' ≤ B) : OwnBA β B' e l v w := ⟨OwnB.mono h.1 hB, h.2⟩
theorem OwnNA.mono {β B B' : Nat} {e : TypeId} {k : IntKind} {l : List Int} {v : Value} {w : World} (h : OwnNA β B e k l v w) (hB : B' ≤ B) : OwnNA β B' e k l v w := ⟨OwnN.mono h.1 hB, h.2⟩
theorem OwnBA.cast {β B : Nat} {e : TypeId} {l m : List UInt8} {v : Value} {w : World} (h : OwnBA β B e l v w) (e' : l = m) : OwnBA β B e m v w := e' ▸ h
theorem OwnNA.cast {β B : Nat} {e : TypeId} {k : IntKind} {l m : List Int} {v : Value} {w : World} (h : OwnNA β B e k l v w) (e' : l = m) : OwnNA β B e k m v w := e' ▸ h
theorem OwnB.cast {B : Nat} {e : TypeId} {l m : List UInt8} {v : Value} {w : World} (h : OwnB B e l v w) (e' : l = m) : OwnB B e m v w := e' ▸ h
theorem Own.blk {B : Nat} {e : TypeId} {vs : List Value} {v : Value} {w : World} (h : Own B e vs v w) : (bk v = 0 ∨ B < bk v) ∧ bk v ≤ w.heap.size := by
  have hl := h.lt
  cases hb : v.ownBlock with
  | none => rw [Qcs.2 hb]; exact ⟨.inl rfl, by omega⟩
  | some k => rw [Qcs.1 k hb]; have := hl k hb; omega
theorem OwnAt.lt {β B : Nat} {e : TypeId} {vs : List Value} {v : Value} {w : World} (h : OwnAt β B e vs v w) : (β = 0 ∨ B < β) ∧ β ≤ w.heap.size := by
  have := h.1.blk; rw [h.2] at this; exact this
theorem OwnBA.lt {β B : Nat} {e : TypeId} {l : List UInt8} {v : Value} {w : World} (h : OwnBA β B e l v w) : (β = 0 ∨ B < β) ∧ β ≤ w.heap.size := OwnAt.lt h
theorem OwnNA.lt {β B : Nat} {e : TypeId} {k : IntKind} {l : List Int} {v : Value} {w : World} (h : OwnNA β B e k l v w) : (β = 0 ∨ B < β) ∧ β ≤ w.heap.size := OwnAt.lt h

theorem Own.other {β B : Nat} {e : TypeId} {vs : List Value} {v : Value} {w w' : World} (h : Own B e vs v w) (hc : ChgAt β w w') (hne : bk v = 0 ∨ bk v ≠ β) : Own B e vs v w' := by
  obtain ⟨h1, h2⟩ := h
  refine ⟨h1, ?_⟩
  rcases h2 with h2 | ⟨g, cap, cur, h3, h4, h5, h6⟩
  · exact .inl h2
  · have hlt : g < w.heap.size := (Array.getElem?_eq_some_iff.1 h5).1
    have hg : g + 1 ≠ β := by
      have : bk v = g + 1 := by rw [h3]; rfl
      omega
    exact .inr ⟨g, cap, cur, h3, h4, by rw [hc.block g hlt hg]; exact h5, h6⟩
theorem OwnAt.other {β γ B : Nat} {e : TypeId} {vs : List Value} {v : Value} {w w' : World} (h : OwnAt γ B e vs v w) (hc : ChgAt β w w') (hne : γ = 0 ∨ γ ≠ β) : OwnAt γ B e vs v w' :=
  ⟨h.1.other hc (by rw [h.2]; exact hne), h.2⟩
theorem OwnBA.other {β γ B : Nat} {e : TypeId} {l : List UInt8} {v : Value} {w w' : World} (h : OwnBA γ B e l v w) (hc : ChgAt β w w') (hne : γ = 0 ∨ γ ≠ β) : OwnBA γ B e l v w' := OwnAt.other h hc hne
theorem OwnNA.other {β γ B : Nat} {e : TypeId} {k : IntKind} {l : List Int} {v : Value} {w w' : World} (h : OwnNA γ B e k l v w) (hc : ChgAt β w w') (hne : γ = 0 ∨ γ ≠ β) : OwnNA γ B e k l v w' := OwnAt.other h hc hne

theorem Q7c {P : Program} (w : World) (base : Nat) (t ty e : TypeId) (i : TypeInfo) (z : Value) (size bytes : Nat) (ht : P.underlying t = some (.slice e)) (hi : P.info? e = some i) (hz : i.zero = some z)
    (hsize : i.size = size) (hby : i.bytes = bytes) (hzs : z.cells.size = size) (hsz : 0 < size)
    (v : Value) (n : Nat) (xs : List Value) (hown : w.ownsRow base e size v n xs)
    (a : Addr) (m c : Nat) (news : List Value) (hl : news.length = m * size) (hnews : ∀ j u, news[j]? = some u → w.cell? (a.add j) = some u) (h1 : ∀ u ∈ news, u.oneCell' = true)
    (h63 : n + m ≤ maxLen) (hbytes : (n + m) * bytes ≤ 140737488355328) (hbase : base ≤ w.heap.size) :
    ∃ v' w', (Builtin.append_ #[t, t] ty #[v, .slice (some a) m c]).run P w = .ok v' w' ∧ w'.ownsRow base e size v' (n + m) (xs ++ news) ∧ w.grownBy w' v.ownBlock ∧
      (bk v' = bk v ∨ bk v' = w.heap.size + 1) := by
  obtain ⟨v', w', hr, h2, h3, _⟩ := run_append_own (P := P) w base t ty e i z size bytes ht hi hz hsize hby hzs hsz v n xs hown a m c news hl hnews h1 h63 hbytes hbase
  refine ⟨v', w', hr, h2, h3, ?_⟩
  subst hsize
  subst hby
  have hsmall : n + m ≤ 9223372036854775807 := by simp only [maxLen] at h63; omega
  rcases hown.2 with ⟨rfl, rfl⟩ | ⟨g, cap, cur, rfl, hbg, hg, hnc, hcm, hcs, htake⟩
  · have hx : xs = [] := List.eq_nil_of_length_eq_zero (by simpa using hown.1)
    subst hx
    by_cases hm : m = 0
    · subst hm
      have hn : news = [] := List.eq_nil_of_length_eq_zero (by simpa using hl)
      subst hn
      have : (Builtin.append_ #[t, t] ty #[.slice none 0 0, .slice (some a) 0 c]).run P w = .ok (.slice none 0 0) w := by
        simp [Builtin.append_, run_underlying ht, sizeOf, typeInfo, hi, Builtin.lenOf, Builtin.firstCells, loadCells, loadCellsFrom]
      rw [this] at hr
      cases hr
      exact .inl rfl
    · have h := run_append_nil (P := P) w t ty e i z ht hi hz a m c news hl hnews (by omega) (by omega) (by have hb := hbytes; simp only [Nat.zero_add] at hb; omega)
      rw [h] at hr
      cases hr
      exact .inr rfl
  · by_cases hroom : n + m ≤ cap
    · have hfit : n * i.size + news.length ≤ cur.size := by rw [hl, hcs, ← Nat.add_mul]; exact Nat.mul_le_mul_right _ hroom
      have h := run_append_room (P := P) w t ty e i ht hi g n cap cur hg a m c news hl hnews h1 hroom hfit
      rw [h] at hr
      cases hr
      exact .inl rfl
    · have holds : ∀ j u, xs[j]? = some u → w.cell? ((⟨g, 0, none⟩ : Addr).add j) = some u := hown.cells (g := g) rfl
      have h := run_append_grow (P := P) w t ty e i z ht hi hz ⟨g, 0, none⟩ n cap xs hown.1 holds a m c news hl hnews (by omega) (by omega) (growslice_fits (by omega) hbytes)
      rw [h] at hr
      cases hr
      exact .inr rfl

section
variable {P : Program} {Q : Exit → Act → World → Prop} {ops : Array Oper} {rest : List Oper} {d : Tmp} {op : Op} {ty : TypeId} {pos : String} {af : Array Edge} {a : Act} {w : World} {n : Nat}

theorem Qct {β B : Nat} {t e : TypeId} {z : Value} {bytes : Nat} {x y : Operand} {vs us : List Value} (hfr : FrD dfs n a) (hd : decide (d < n) = true) (hT : P.underlying t = some (.slice e)) (hI : InfoIs P e z bytes) (hzc : z.cells.size = 1)
    (hx : OwnAt β B e vs (a.eval x) w) (hy : SlV us (a.eval y) w) (hone : ∀ u ∈ us, u.oneCell' = true) (hB : B ≤ w.heap.size) (hmax : vs.length + us.length ≤ maxLen) (hroom : (vs.length + us.length) * bytes ≤ 140737488355328)
    (k : ∀ β' a' w', (β' = β ∨ β' = w.heap.size + 1) → ChgAt β w w' → FrD dfs n a' → OwnAt β' B e (vs ++ us) (a'.eval (.tmp d)) w' → Same [d] a a' → wpList P ops Q rest a' w') :
    wpList P ops Q (⟨some d, .call ⟨.builtin .append, #[x, y], #[t, t]⟩, ty, pos, af, none⟩ :: rest) a w := by
  obtain ⟨i, hi, hz, hsz, hby⟩ := hI.get
  have hdn : d < a.tmps.size := by rw [hfr.1]; simpa using hd
  obtain ⟨hx, rfl⟩ := hx
  rcases hy with ⟨hy, hus⟩ | ⟨p, cap, hy, h2, h3, h4⟩
  · -- nothing is appended
    have hus' : us = [] := by simpa using hus
    subst hus'
    refine wpList_plain rfl fun K hK => ?_
    have hrun : (execOp a.eval ⟨some d, .call ⟨.builtin .append, #[x, y], #[t, t]⟩, ty, pos, af, none⟩).run P w = .ok (.value (a.eval x)) w := by
      obtain ⟨_, h2⟩ := hx
      rcases h2 with ⟨h3, h4⟩ | ⟨g, cap, cur, h3, h4, h5, h6, h7, h8, h9⟩
      · simp [execOp, resolve, invoke, builtin, Builtin.append_, h3, hy, run_underlying hT, sizeOf, typeInfo, hi, Builtin.lenOf, Builtin.firstCells]
      · simp [execOp, resolve, invoke, builtin, Builtin.append_, h3, hy, run_underlying hT, sizeOf, typeInfo, hi, Builtin.lenOf, Builtin.firstCells, h6, storeCells]
    unfold Oper.wp
    rw [hrun]
    refine hK _ _ (k (bk (a.eval x)) _ w (.inl rfl) (ChgAt.refl _ _) (Q47 hfr) ?_ Q2x)
    rw [Q41 hdn, List.append_nil]
    exact ⟨hx, rfl⟩
  · simp only [List.length_map] at hy h2 h4
    refine wpList_plain rfl fun K hK => ?_
    obtain ⟨v', w', hr, hown, hg, hbk⟩ := Q7c (P := P) w B t ty e i z 1 bytes hT hi hz hsz hby hzc (by decide) (a.eval x) vs.length vs hx p us.length cap us (by simp) (fun j u hj => by
      obtain ⟨hjl, rfl⟩ := List.getElem?_eq_some_iff.1 hj
      obtain ⟨x', hc, hr⟩ := h4 j hjl
      rw [Q26 _ _ _ hjl] at hr
      rw [hc]; exact congrArg some hr) hone hmax hroom hB
    unfold Oper.wp execOp
    simp only [resolve, invoke, builtin, Sem.run_bind, Sem.run_pure, Result.andThen_ok, List.map_toArray, List.map_cons, List.map_nil, hy, hr]
    refine hK _ _ (k (bk v') _ w' hbk (ChgAt.of_grown hg) (Q47 hfr) ?_ Q2x)
    rw [Q41 hdn]
    refine ⟨?_, rfl⟩
    unfold Own
    rw [List.length_append]
    exact hown

theorem Q0u {β B : Nat} {t e : TypeId} {z : Value} {bytes : Nat} {x y : Operand} {l m : List UInt8} (hfr : FrD dfs n a) (hd : decide (d < n) = true) (hT : P.underlying t = some (.slice e)) (hI : InfoIs P e z bytes) (hzc : z.cells.size = 1)
    (hx : OwnBA β B e l (a.eval x) w) (hy : Bs m (a.eval y) w) (hB : B ≤ w.heap.size) (hroom : (l.length + m.length) * bytes ≤ 140737488355328 ∧ l.length + m.length ≤ 9223372036854775807)
    (k : ∀ β' a' w', (β' = β ∨ β' = w.heap.size + 1) → ChgAt β w w' → FrD dfs n a' → OwnBA β' B e (l ++ m) (a'.eval (.tmp d)) w' → Same [d] a a' → wpList P ops Q rest a' w') :
    wpList P ops Q (⟨some d, .call ⟨.builtin .append, #[x, y], #[t, t]⟩, ty, pos, af, none⟩ :: rest) a w :=
  Qct hfr hd hT hI hzc hx hy.v (fun u hu => by obtain ⟨c, _, rfl⟩ := List.mem_map.1 hu; rfl) hB (by unfold maxLen; simpa using hroom.2) (by simpa using hroom.1) fun β' a' w' h0 h1 h2 h3 h4 => k β' a' w' h0 h1 h2 (by unfold OwnBA; rw [List.map_append]; exact h3) h4
def Qhx (v : Value) (i : Nat) : Value := match v with | .slice (some p) _ _ => .pointer (some (p.add i)) | _ => undef
theorem Qcu {dst : Option Tmp} {gd : Option (Nat × Bool)} {t e : TypeId} {x y : Operand} {k : IntKind} {vs : List Value} {v : Value} (i : Nat) (hT : P.underlying t = some (.slice e)) (hz : SizeIs P e 1) (hx : SlV vs (a.eval x) w) (hv : a.eval x = v) (hy : a.eval y = .int k (i : Int)) (hi : i < vs.length) :
    OpOk P ⟨dst, .indexAddr t x y, ty, pos, af, gd⟩ a w (Is (Qhx v i)) := by
  have hi' : i < (vs.map Is).length := by simpa using hi
  obtain ⟨p, cap, u, hv', hs, hc, hr⟩ := hx.some_of hi'
  refine Q1g (v := .pointer (some (p.add i))) ?_ ?_
  · have h1 : (0 : Int) ≤ i ∧ (i : Int) < ((vs.map Is).length : Int) := by omega
    have h2 : i < (vs.map Is).length := hi'
    simp [execOp, Instr.indexAt, hv', hy, asIntOf, run_underlying hT, hz.run, hi]
  · rw [← hv, hv']; rfl

end

def OwnV (v : Value) (B : Nat) (e : TypeId) (l : List UInt8) : VP := fun u w => u = v ∧ OwnB B e l u w
instance (v : Value) (B : Nat) (e : TypeId) (l : List UInt8) : Stb (OwnV v B e l) := ⟨fun u w w' hx h => ⟨h.1, Stb.st u w w' hx h.2⟩⟩
theorem OwnB.v {B : Nat} {e : TypeId} {l : List UInt8} {u : Value} {w : World} (h : OwnB B e l u w) : ∃ v, OwnV v B e l u w := ⟨u, rfl, h⟩
theorem OwnV.own {v : Value} {B : Nat} {e : TypeId} {l : List UInt8} {u : Value} {w : World} (h : OwnV v B e l u w) : OwnB B e l v w := h.1 ▸ h.2
theorem OwnV.set {v : Value} {B : Nat} {e : TypeId} {l l' : List UInt8} {a a' : Act} {t : Tmp} {w w' : World} (h : OwnV v B e l (a.eval (.tmp t)) w) (hs : Same [] a a') (k : OwnB B e l' v w') : OwnV v B e l' (a'.eval (.tmp t)) w' := by
  have e1 : a'.eval (.tmp t) = a.eval (.tmp t) := hs t (by simp)
  refine ⟨e1.trans h.1, ?_⟩
  rw [e1, h.1]; exact k
section
variable {P : Program} {ty : TypeId} {pos : String} {af : Array Edge} {a : Act} {w : World} {d : Option Tmp} {gd : Option (Nat × Bool)}
end
end Go.Proofs.Ytlmdboaghojgiaa
