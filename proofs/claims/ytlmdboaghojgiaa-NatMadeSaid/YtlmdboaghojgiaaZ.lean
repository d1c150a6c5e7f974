import Derived.Laws.StructEq
import Derived.Stop.BytesEq
import Derived.Lib.SliceRun
import Derived.OrdersHeld
import Derived.Test.YtlmdboaghojgiaaY
/- More rules: made slices, structs that are built, calls of function values, structs that are compared. -/
namespace Go.Proofs.Ytlmdboaghojgiaa
set_option linter.unusedVariables false
set_option linter.unusedSimpArgs false
open Go Go.RowKit
variable {dfs : List Deferred}

section
variable {P : Program} {d : Option Tmp} {ty : TypeId} {pos : String} {af : Array Edge} {gd : Option (Nat × Bool)} {a : Act} {w : World} {t e : TypeId} {x y : Operand}

theorem Qd5 {B n : Nat} {k k' : IntKind} (hT : P.underlying t = some (.slice e)) (hI : InfoIs P e (.int .u8 0) 1) (hx : a.eval x = .int k (n : Int)) (hy : a.eval y = .int k' (n : Int)) (hn : n ≤ 10000000) (hB : B ≤ w.heap.size) :
    OpOk P ⟨d, .makeSlice t x y, ty, pos, af, gd⟩ a w (OwnB B e (List.replicate n 0)) := by
  obtain ⟨i, hi, hz, hsz, hby⟩ := hI.get
  have hr := run_makeSlice (P := P) (w := w) t e i (.int .u8 0) hT hi hz k k' n n (by omega) (by omega) (by rw [hsz, Int.toNat_natCast]; omega) (by rw [hby]; omega) (by omega)
  unfold OpOk
  have hrun : (execOp a.eval ⟨d, .makeSlice t x y, ty, pos, af, gd⟩).run P w = .ok (.value (.slice (some ⟨w.heap.size, 0, none⟩) n n)) (w.alloc (.cells (List.replicate n (Value.int .u8 0)).toArray e)) := by
    simp only [execOp, hx, hy]
    have hm : madeCells (Value.int IntKind.u8 0).cells (n * i.size) = (List.replicate n (Value.int .u8 0)).toArray := by
      rw [hsz]
      apply Array.ext
      · simp [madeCells]
      · intro j h1 h2; simp [madeCells, Value.cells, Nat.mod_one]
    simp only [Int.toNat_natCast] at hr
    rw [hm] at hr
    simp [hr]
  rw [hrun]
  refine ⟨(Ext.refl w).alloc _, ?_⟩
  have e1 : (List.replicate n (0 : UInt8)).map Q0t = List.replicate n (Value.int .u8 0) := by simp [Q0t]
  unfold OwnB Own
  rw [e1]
  refine ⟨by simp, .inr ⟨w.heap.size, n, (List.replicate n (Value.int .u8 0)).toArray, by simp, hB, heap_alloc_new _ _, by simp, by unfold maxLen; omega, by simp, by simp⟩⟩

/-! ## Structs that are built -/
def PartsC (a : Act) : List (Nat × Operand) → List (Nat × List Value) → Prop
  | (i, x) :: xs, (j, cs) :: qs => i = j ∧ (a.eval x).cells = cs.toArray ∧ PartsC a xs qs
  | [], [] => True
  | _, _ => False
theorem PartsC.nil : PartsC a [] [] := trivial
theorem PartsC.one {i : Nat} {u : Value} {xs : List (Nat × Operand)} {qs : List (Nat × List Value)} (hx : a.eval x = u) (hu : u.oneCell' = true) (h : PartsC a xs qs) : PartsC a ((i, x) :: xs) ((i, [u]) :: qs) :=
  ⟨rfl, by rw [hx]; cases u <;> first | rfl | simp [Value.oneCell'] at hu, h⟩
theorem PartsC.agg {i : Nat} {cs : List Value} {xs : List (Nat × Operand)} {qs : List (Nat × List Value)} (hx : a.eval x = .agg cs.toArray) (h : PartsC a xs qs) : PartsC a ((i, x) :: xs) ((i, cs) :: qs) :=
  ⟨rfl, by rw [hx]; rfl, h⟩
def Q5b (Z : List (List Value)) : List (Nat × List Value) → List (List Value)
  | [] => Z
  | (i, cs) :: r => Q5b (Z.set i cs) r
theorem Qkz (vs : List Value) : ∀ (cs : List Value) (o k : Nat) , o + k + vs.length ≤ cs.length →
    (vs.zipIdx k).foldl (fun (b : Array Value) (c, j) => b.setIfInBounds (o + j) c) cs.toArray = (lay cs (o + k) vs).toArray := by
  induction vs with
  | nil => intro cs o k h; simp [lay]
  | cons v vs ih =>
    intro cs o k h
    simp only [List.length_cons] at h
    rw [List.zipIdx_cons, List.foldl_cons]
    have e1 : cs.toArray.setIfInBounds (o + k) v = (cs.set (o + k) v).toArray := by simp
    show (vs.zipIdx (k + 1)).foldl _ (cs.toArray.setIfInBounds (o + k) v) = _
    rw [e1, ih (cs.set (o + k) v) o (k + 1) (by simp; omega)]
    congr 1
    have := list_seg_step cs (o + k) v vs (by omega)
    unfold lay
    rw [show o + (k + 1) = o + k + 1 from by omega]
    simpa using this
theorem Q9j (place : Nat → Option (Nat × Nat)) (ls : List Nat) (hp : ∀ i, i < ls.length → place i = some ((ls.take i).sum, ls.getD i 0)) : ∀ (xs : List (Nat × Operand)) (qs : List (Nat × List Value)) (Z : List (List Value)),
    Z.map List.length = ls → (qs.all fun q => q.2.length == ls.getD q.1 0 && decide (q.1 < ls.length)) = true → PartsC a xs qs →
    Instr.fill place Z.flatten.toArray (xs.map fun q => (q.1, a.eval q.2)) = some (Q5b Z qs).flatten.toArray
  | [], [], Z, _, _, _ => rfl
  | (i, x) :: xs, (j, cs) :: qs, Z, hZ, hq, h => by
    obtain ⟨rfl, hc, hr⟩ := h
    simp only [List.all_cons, Bool.and_eq_true, beq_iff_eq, decide_eq_true_eq] at hq
    obtain ⟨⟨hl, hi⟩, hq⟩ := hq
    have hiZ : i < Z.length := by rw [← hZ] at hi; simpa using hi
    have hZi : cs.length = Z[i].length := by
      rw [hl, ← hZ]; simp [List.getD_eq_getElem?_getD, hiZ]
    have hoff := Q3q hZ i
    have hfit : (ls.take i).sum + cs.length ≤ Z.flatten.length := by
      have e1 : Z = Z.take i ++ Z[i] :: Z.drop (i + 1) := by simp
      have e3 : Z.flatten = (Z.take i).flatten ++ (Z[i] ++ (Z.drop (i + 1)).flatten) := by
        conv => lhs; rw [e1]
        simp only [List.flatten_append, List.flatten_cons]
      rw [e3, List.length_append, List.length_append, hoff]
      omega
    simp only [List.map_cons, Instr.fill, hp i hi, hc]
    rw [if_neg (by rw [Bool.or_eq_true, decide_eq_true_eq, decide_eq_true_eq]; simp only [List.size_toArray]; omega)]
    have hfold := Qkz cs Z.flatten (ls.take i).sum 0 (by omega)
    have hzi : cs.toArray.zipIdx = (cs.zipIdx 0).toArray := by simp
    rw [hzi]
    simp only [List.foldl_toArray']
    rw [hfold, Nat.add_zero, ← hoff, Q70 hiZ hZi]
    rw [Q9j place ls hp xs qs (Z.set i cs) ?_ hq hr]
    · rfl
    · rw [← hZ]
      apply List.ext_getElem?
      intro m
      simp only [List.getElem?_map, List.getElem?_set]
      by_cases hm : i = m
      · subst hm; simp [hiZ, hZi]
      · simp [hm]
  | [], _ :: _, _, _, _, h => h.elim
  | _ :: _, [], _, _, _, h => h.elim

def Q96 (P : Program) (t : TypeId) (ls : List Nat) (Z : List (List Value)) : Prop :=
  Z.map List.length = ls ∧ (P.info? t).map (·.zero) = some (some (.agg Z.flatten.toArray)) ∧ ∃ fs, P.underlying t = some (.struct fs) ∧ fs.toList.mapM (fun f => (P.info? f.type).map fun i => (f.offset, i.size)) = some ((List.range ls.length).map fun i => ((ls.take i).sum, ls.getD i 0))
theorem Q1e {ls : List Nat} {Z : List (List Value)} {parts : Array (Nat × Operand)} (xs : List (Nat × Operand)) (qs : List (Nat × List Value)) (hL : Q96 P t ls Z) (hp : parts = xs.toArray) (hR : PartsC a xs qs)
    (hq : (qs.all fun q => q.2.length == ls.getD q.1 0 && decide (q.1 < ls.length)) = true) : OpOk P ⟨d, .build t parts, ty, pos, af, gd⟩ a w (Is (.agg (Q5b Z qs).flatten.toArray)) := by
  obtain ⟨hZ, hz, fs, hT, hm⟩ := hL
  refine Q1g (v := .agg (Q5b Z qs).flatten.toArray) ?_ rfl
  have hb : P.built t (xs.map fun q => (q.1, a.eval q.2)) = some (Q5b Z qs).flatten.toArray := by
    unfold Program.built
    cases hi : P.info? t with
    | none => rw [hi] at hz; cases hz
    | some it =>
      rw [hi] at hz
      simp only [Option.map_some, Option.some.injEq] at hz
      simp only [hT, hz, hm]
      refine Q9j _ ls (fun i hil => ?_) xs qs Z hZ hq hR
      simp [hil]
  have := run_build (P := P) w t ((xs.map fun q => (q.1, a.eval q.2)).toArray) _ (by simpa using hb)
  subst hp
  simp only [execOp]
  simp only [List.map_toArray]
  simp [this]
theorem Q71 {parts : Array (Nat × Operand)} (l : List UInt8) (ps : List (Nat × Value)) (hp : parts = (ps.map fun q => (q.1, Operand.const q.2)).toArray) (h : P.built t ps = some (l.map Q0t).toArray) :
    OpOk P ⟨d, .build t parts, ty, pos, af, gd⟩ a w (Is (.agg (l.map Q0t).toArray)) := by
  refine Q1g (v := .agg (l.map Q0t).toArray) ?_ rfl
  have := run_build (P := P) w t ps.toArray _ (by simpa using h)
  subst hp
  simp only [execOp, List.map_toArray, List.map_map]
  have e : (ps.map ((fun q : Nat × Operand => (q.1, a.eval q.2)) ∘ fun q => (q.1, Operand.const q.2))) = ps := by
    conv => rhs; rw [← List.map_id ps]
    rfl
  rw [show (List.map ((fun x : Nat × Operand => match x with | (i, x) => (i, a.eval x)) ∘ fun q => (q.1, Operand.const q.2)) ps) = ps from e]
  simp [this]

/-! ## Function values -/
def FnV (f : FuncId) : Value := .func (.func f) #[] #[]
theorem Ql0 {f : FuncId} {ats : Array TypeId} {V : VP} {g : Operand} (hg : a.eval g = FnV f) (hb : Body P f) (xs : Array Operand) (hc : Calls P f (xs.map a.eval) w (Ret V w)) : OpOk P ⟨d, .call ⟨.value g, xs, ats⟩, ty, pos, af, gd⟩ a w V := by
  have h := Q5k (d := d) (ty := ty) (pos := pos) (af := af) (gd := gd) (ats := ats) hb xs hc
  unfold OpOk at h ⊢
  have e : (execOp a.eval ⟨d, .call ⟨.value g, xs, ats⟩, ty, pos, af, gd⟩) = (execOp a.eval ⟨d, .call ⟨.value (.func f), xs, ats⟩, ty, pos, af, gd⟩) := by
    simp only [execOp, resolve]
    rw [show a.eval g = a.eval (.func f) from hg]
  rw [e]; exact h
theorem Qia {f : FuncId} {ats : Array TypeId} {V : VP} {g x0 : Operand} (hg : a.eval g = FnV f) (hb : Body P f) (hc : Calls P f #[a.eval x0] w (Ret V w)) : OpOk P ⟨d, .call ⟨.value g, #[x0], ats⟩, ty, pos, af, gd⟩ a w (vp V) := Ql0 hg hb _ (by simpa using hc)

/-! ## Equal structs -/
def EqSelf (P : Program) (n : Nat) (t : TypeId) (v : Value) : Prop := ∀ w, (Op.equalIn n t v v).run P w = .ok true w
theorem EqSelf.int {n : Nat} {k k' : IntKind} {m : Int} (h : P.underlying t = some (.int k')) : EqSelf P (n + 1) t (.int k m) := fun w => by
  have := run_equalIn_int (P := P) w n t k k' m m h; simpa using this
theorem EqSelf.bool {n : Nat} {b : Bool} (h : P.underlying t = some .bool) : EqSelf P (n + 1) t (.bool b) := fun w => by
  have := run_equalIn_bool' (P := P) w n t b b h; simpa using this
theorem EqSelf.bytes {n m : Nat} {l : List UInt8} (ht : P.underlying t = some (.array m e)) (he : P.underlying e = some (.int .u8)) (hz : SizeIs P e 1) (hl : l.length = m) : EqSelf P (n + 2) t (.agg (l.map Q0t).toArray) := fun w => by
  have := run_equalIn_bytes (P := P) w n t e m ht he (fun w => hz.run w) l l hl hl
  rw [beq_self_eq_true] at this
  exact this
theorem Q7l {n : Nat} {xs : Array Value} : ∀ (fs : List Field), (∀ f ∈ fs, ∃ v, (∀ w, (part f.type xs f.offset).run P w = .ok v w) ∧ EqSelf P n f.type v) → ∀ w, (Op.eqFields n xs xs fs).run P w = .ok true w
  | [], _, w => by simp [Op.eqFields]
  | f :: fs, h, w => by
    obtain ⟨v, hp, he⟩ := h f List.mem_cons_self
    have ih := Q7l fs (fun g hg => h g (List.mem_cons_of_mem _ hg)) w
    simp only [Op.eqFields, Sem.run_bind, Sem.run_ite]
    split
    all_goals first
      | exact ih
      | (rw [hp w]
         simp only [Result.andThen_ok, hp w, he w, Bool.not_true, Bool.false_eq_true, if_false]
         exact ih)
theorem EqSelf.struct {n : Nat} {fs : Array Field} {cs : List Value} (ht : P.underlying t = some (.struct fs)) (hp : P.stoodInHeld t = false) (h : ∀ f ∈ fs.toList, ∃ v, (∀ w, (part f.type cs.toArray f.offset).run P w = .ok v w) ∧ EqSelf P n f.type v) :
    EqSelf P (n + 1) t (.agg cs.toArray) := fun w => by
  have hf : P.fieldsOf t = fs := by simp [Program.fieldsOf, ht]
  rw [run_equalIn_struct w n t _ _ (by rw [hf]; exact ht) hp, hf]
  exact Q7l _ h w
theorem Ql1 {D : TypeDesc} {cs : List Value} {o : Nat} {c : Value} (hF : P.underlying t = some D) (hD : (match D with | .struct _ | .array _ _ => false | _ => true) = true) (hc : cs[o]? = some c) : ∀ w, (part t cs.toArray o).run P w = .ok c w := fun w => by
  have hagg : (isAgg t).run P w = .ok false w := by
    unfold isAgg
    simp only [Sem.run_bind, run_underlying hF, Result.andThen_ok]
    cases D <;> first | rfl | (simp at hD)
  simp [part, hagg, hc]
theorem Ql2 {D : TypeDesc} {cs ds : List Value} {o m : Nat} (hF : P.underlying t = some D) (hD : (match D with | .struct _ | .array _ _ => true | _ => false) = true) (hz : SizeIs P t m) (hc : (cs.drop o).take m = ds) : ∀ w, (part t cs.toArray o).run P w = .ok (.agg ds.toArray) w := fun w => by
  have hagg : (isAgg t).run P w = .ok true w := by
    unfold isAgg
    simp only [Sem.run_bind, run_underlying hF, Result.andThen_ok]
    cases D <;> first | rfl | (simp at hD)
  simp [part, hagg, hz.run, hc]
theorem EqSelf.adr {n : Nat} {A : Adr} {fs : Array Field} {tb ta tu : TypeId} (ht : P.underlying t = some (.struct fs)) (hp : P.stoodInHeld t = false) (hfs : fs.toList.map (fun f => (f.type, f.offset)) = [(tb, 0), (ta, 1)])
    (hb : P.underlying tb = some .bool) (ha : P.underlying ta = some (.array 16 tu)) (hu : P.underlying tu = some (.int .u8)) (hz : SizeIs P tu 1) (hz2 : SizeIs P ta 16) (hA : A.b.length = 16) : EqSelf P (n + 3) t (AdrV A) := by
  refine EqSelf.struct ht hp fun f hf => ?_
  have hm : (f.type, f.offset) ∈ fs.toList.map (fun f => (f.type, f.offset)) := List.mem_map.2 ⟨f, hf, rfl⟩
  rw [hfs] at hm
  simp only [List.mem_cons, Prod.mk.injEq, List.not_mem_nil, or_false] at hm
  rcases hm with ⟨h1, h2⟩ | ⟨h1, h2⟩ <;> rw [h1, h2]
  · exact ⟨_, Ql1 hb rfl rfl, EqSelf.bool hb⟩
  · exact ⟨_, Ql2 ha rfl hz2 (by simp only [Q0l, List.drop_succ_cons, List.drop_zero]; rw [List.take_of_length_le (by simp [hA])]), EqSelf.bytes ha hu hz hA⟩
end
section
variable {ls : List Nat} {S : List (List Value)} {i : Nat} {s : List Value}
end
section
variable {P : Program} {d : Option Tmp} {ty : TypeId} {pos : String} {af : Array Edge} {gd : Option (Nat × Bool)} {a : Act} {w : World} {t : TypeId} {x y : Operand} {β B : Nat} {ls : List Nat} {S S' : List (List Value)} {i : Nat} {cs : List Value}
end
section
variable {P : Program} {Q : Exit → Act → World → Prop} {ops : Array Oper} {rest : List Oper} {ty : TypeId} {pos : String} {af : Array Edge} {a : Act} {w : World} {n : Nat} {β B : Nat} {ls : List Nat} {S : List (List Value)} {t : TypeId} {x y : Operand}
theorem Q19 (S' : List (List Value)) {m : Nat} (hfr : FrD dfs n a) (hz : SizeIs P t m) (hx : PxS β B ls S 0 (a.eval x) w) (hy : a.eval y = .agg S'.flatten.toArray) (hl : S'.map List.length = ls) (hu : ∀ u ∈ S'.flatten, u.oneCell' = true) (hm : (ls.sum == m) = true)
    (k : ∀ a' w', ChgAt β w w' → UpS β ls S S' w w' → FrD dfs n a' → Same [] a a' → wpList P ops Q rest a' w') :
    wpList P ops Q (⟨none, .store t x y, ty, pos, af, none⟩ :: rest) a w := by
  obtain ⟨h0, g, e9, h1, h2, h3, h4⟩ := hx
  have hm : ls.sum = m := by simpa using hm
  have hlen : S'.flatten.length = m := by rw [List.length_flatten, hl, hm]
  have hlen0 : S.flatten.length = m := by rw [List.length_flatten, h0, hm]
  obtain ⟨w', ⟨nx, hnx, hrun⟩, hc, hb⟩ := Q8d (ty := ty) (pos := pos) (af := af) (gd := none) (dst := none) (o := 0) hz hlen hu h4 (by omega) h3 hy
  have e : lay S.flatten 0 S'.flatten = S'.flatten := by
    unfold lay
    rw [List.take_zero, List.nil_append, List.drop_of_length_le (by omega), List.append_nil]
  rw [e] at hb
  refine wpList_plain rfl fun K hK => ?_
  have := k a w' (h1 ▸ hc) (by
    rintro B' j v ⟨_, g', e', q1, q2, q3, q4⟩
    have : g' = g := by omega
    subst this
    exact ⟨hl, g', e9, q1, q2, q3, hb⟩) hfr Same.rfl
  unfold Oper.wp
  rw [hrun]
  rcases hnx with rfl | rfl <;> exact hK _ _ this
end
def NilT (l : List UInt8) : VP := fun v w => ∃ b, Is (.bool b) v w ∧ (b = true → l = [])
instance (l : List UInt8) : Stb (NilT l) := ⟨fun _ _ _ _ h => h⟩
theorem Ql3 {P : Program} {d : Option Tmp} {ty t t' e : TypeId} {pos : String} {af : Array Edge} {gd : Option (Nat × Bool)} {a : Act} {w : World} {x : Operand} {l : List UInt8} (hT : P.underlying t = some (.slice e)) (hx : Bs l (a.eval x) w) :
    OpOk P ⟨d, .binOp .eql t x (.const (.slice none 0 0)) t', ty, pos, af, gd⟩ a w (NilT l) := by
  obtain ⟨p, n, c, hv, hb⟩ : ∃ p n c, a.eval x = .slice p n c ∧ (p.isNone = true → l = []) := by
    rcases Qd6 hx with ⟨h1, rfl⟩ | ⟨p, c, h1, _⟩
    · exact ⟨none, 0, 0, h1, fun _ => rfl⟩
    · exact ⟨some p, _, c, h1, fun h => by cases h⟩
  refine Q1g (v := .bool p.isNone) ?_ ⟨_, rfl, hb⟩
  have he : (Op.equal t (.slice p n c) (.slice none 0 0)).run P w = .ok p.isNone w := by
    exact Lib.run_equalIn_slice_nil w 9999 t e p n c 0 0 hT
  have hg : (eqGuard .eql t x (.const (.slice none 0 0)) (.slice p n c) (.slice none 0 0)).run P w = .ok () w := rfl
  have hbin : binOp .eql t (.slice p n c) (.slice none 0 0) = (do pure (.bool (← Op.equal t (.slice p n c) (.slice none 0 0)))) := rfl
  have hc : a.eval (.const (.slice none 0 0)) = .slice none 0 0 := rfl
  simp only [execOp, hv, hc]
  rw [hbin]
  simp [hg, he]
end Go.Proofs.Ytlmdboaghojgiaa

/- A region that draws its order, where what only reads may run behind a store: all that yields the same while some condition on the world holds is taken first, then the stores in their order. -/
namespace Go.Proofs.Ytlmdboaghojgiaa
set_option linter.unusedVariables false
set_option linter.unusedSimpArgs false
open Go Go.RowKit
variable {dfs : List Deferred}
section
variable {P : Program} {ops : Array Oper} {Q : Exit → Act → World → Prop} {S : World → Prop}
theorem Q4a {id : Nat} {l : List Oper} {a : Act} {w : World} (S : World → Prop) (hm : P.follows .mixedOrders = true) (hS : ∀ w', Ext w w' → S w') (h : ∀ w', Ext w w' → S w' → wpAnyH P .any l.toArray Q S l.toArray.size (Array.replicate l.toArray.size false) a w') :
    (Code.region id l.toArray true).wp P Q a w := wp_region_held hm (h _ (Ext.draw1 w) (hS _ (Ext.draw1 w)))
theorem Q0n {i d : Nat} {op : Op} {ty : TypeId} {pos : String} {af : Array Edge} {fuel n : Nat} {L : Array Bool} {a : Act} {w : World} {V : VP} (hfr : FrD dfs n a) (hi : ops[i]? = some ⟨some d, op, ty, pos, af, none⟩) (hd : decide (d < n) = true)
    (hc : (Region.noSelect ops && Region.free .any ops L i && (Region.ready .any ops L).contains i) = true) (hQ : ∀ c a w v, Q (.panic c) (a.put (some d) v) w → Q (.panic c) a w)
    (hy : ∃ v, (∀ w, S w → (execOp a.eval ⟨some d, op, ty, pos, af, none⟩).run P w = .ok (.value v) w) ∧ V v w) (hS : S w)
    (k : ∀ a', FrD dfs n a' → V (a'.eval (.tmp d)) w → Same [d] a a' → wpAnyH P .any ops Q S fuel (L.setIfInBounds i true) a' w) : wpAnyH P .any ops Q S (fuel + 1) L a w := by
  simp only [Bool.and_eq_true] at hc
  obtain ⟨⟨h1, h2⟩, h3⟩ := hc
  obtain ⟨v, hv, hV⟩ := hy
  refine wpAnyH_take hi h1 h2 h3 (fun c a w h => hQ c a w v h) (.inl ⟨rfl, hv⟩) hS (k _ (Q47 hfr) ?_ Q2x)
  rw [Q41 (by rw [hfr.1]; simpa using hd)]
  exact hV
theorem yh {a : Act} {w : World} {V : VP} {o : Oper} (h : ∃ v, (∀ w, (execOp a.eval o).run P w = .ok (.value v) w) ∧ V v w) : ∃ v, (∀ w, S w → (execOp a.eval o).run P w = .ok (.value v) w) ∧ V v w := by
  obtain ⟨v, h1, h2⟩ := h
  exact ⟨v, fun w _ => h1 w, h2⟩
theorem Qi8 {a : Act} {w : World} {V : VP} {d : Option Tmp} {ty : TypeId} {pos : String} {af : Array Edge} {gd : Option (Nat × Bool)} {t : TypeId} {D : TypeDesc} {x : Operand} {p : Addr} {u : Value} (hT : P.underlying t = some D) (hD : (match D with | .struct _ | .array _ _ => false | _ => true) = true) (hx : a.eval x = .pointer (some p))
    (hc : ∀ W, S W → W.cell? p = some u) (hV : V u w) : ∃ v, (∀ w, S w → (execOp a.eval ⟨d, .load t x, ty, pos, af, gd⟩).run P w = .ok (.value v) w) ∧ V v w := by
  refine ⟨u, fun W hW => ?_, hV⟩
  have hagg : (isAgg t).run P W = .ok false W := by
    unfold isAgg
    simp only [Sem.run_bind, run_underlying hT, Result.andThen_ok]
    cases D <;> first | rfl | (simp at hD)
  simp [execOp, Instr.loadAt, hx, Instr.sureAddr, loadVar, hagg, hc W hW]
theorem Qfu {a : Act} {w W0 : World} {d : Option Tmp} {ty : TypeId} {pos : String} {af : Array Edge} {gd : Option (Nat × Bool)} {t : TypeId} {D : TypeDesc} {x : Operand} {c : UInt8} (hT : P.underlying t = some D) (hD : (match D with | .struct _ | .array _ _ => false | _ => true) = true)
    (hx : AtW W0 (Ptr (ByteIs c)) (a.eval x) w) (hS : ∀ W, S W → Below W0.heap.size W0 W) : ∃ v, (∀ w, S w → (execOp a.eval ⟨d, .load t x, ty, pos, af, gd⟩).run P w = .ok (.value v) w) ∧ ByteIs c v w := by
  obtain ⟨p, u, h1, _, h3, h4⟩ := hx
  exact Qi8 hT hD h1 (fun W hW => by rw [(hS W hW).cell (block_lt_of_cell h3)]; exact h3) h4
end
section
variable {P : Program} {d : Option Tmp} {ty : TypeId} {pos : String} {af : Array Edge} {gd : Option (Nat × Bool)} {a : Act} {w : World} {t t' e : TypeId} {x y : Operand} {k : IntKind} {m n : Int}
theorem Q8s {W : World} {l : List UInt8} (i : Nat) (hT : P.underlying t = some (.slice e)) (hz : SizeIs P e 1) (hx : Bs l (a.eval x) W) (hy : a.eval y = .int k (i : Int)) (hi : i < l.length) :
    OpOk P ⟨d, .indexAddr t x y, ty, pos, af, gd⟩ a w (AtW W (Ptr (ByteIs l[i]))) := by
  have hi' : i < (l.map ByteIs).length := by simpa using hi
  have hx' : Sl (l.map ByteIs) (a.eval x) W := hx
  obtain ⟨p, cap, u, hv', hs, hc, hr⟩ := hx'.some_of hi'
  refine Q1g (v := .pointer (some (p.add i))) ?_ ⟨p.add i, u, rfl, by unfold Addr.add; split <;> simp [hs], hc, by rw [Q26 _ _ _ hi] at hr; exact hr⟩
  simp [execOp, Instr.indexAt, hv', hy, asIntOf, run_underlying hT, hz.run, hi]
theorem Qfv {o : BinOp} {v : Value} (hg : o ≠ .shl ∧ o ≠ .shr) (hx : a.eval x = .int k m) (hy : a.eval y = .int k n)
    (h : (match o with | .add | .sub | .mul => Op.intArith o k m n | .quo | .rem => Op.intDiv o k m n | .and | .or | .xor | .andNot => Op.intBits o k m n | _ => Op.intCmp o m n) = pure v) :
    ∃ v, ∀ w, (execOp a.eval ⟨d, .binOp o t x y t', ty, pos, af, gd⟩).run P w = .ok (.value v) w := by
  refine ⟨v, fun w => ?_⟩
  have he : (eqGuard o t x y (.int k m) (.int k n)).run P w = .ok () w := by
    unfold eqGuard; split <;> rfl
  simp only [execOp, hx, hy]
  have hb : binOp o t (.int k m) (.int k n) = pure v := by
    rw [← h]; cases o <;> first | exact absurd rfl hg.1 | exact absurd rfl hg.2 | simp [binOp]
  rw [hb]
  simp [he]
theorem Ql4 {o : BinOp} {k' : IntKind} (ho : o = .shl ∨ o = .shr) (hx : a.eval x = .int k m) (hy : a.eval y = .int k' n) (hn : 0 ≤ n) : ∃ v, ∀ w, (execOp a.eval ⟨d, .binOp o t x y t', ty, pos, af, gd⟩).run P w = .ok (.value v) w := by
  obtain ⟨v, hv⟩ : ∃ v, Op.shift o k m k' n = pure v := by
    unfold Op.shift; rw [if_neg (by omega)]
    rcases ho with rfl | rfl <;> exact ⟨_, rfl⟩
  refine ⟨v, fun w => ?_⟩
  have he : (eqGuard o t x y (.int k m) (.int k' n)).run P w = .ok () w := by
    unfold eqGuard; rcases ho with rfl | rfl <;> rfl
  simp only [execOp, hx, hy]
  have hb : binOp o t (.int k m) (.int k' n) = pure v := by
    rw [← hv]; rcases ho with rfl | rfl <;> rfl
  rw [hb]
  simp [he]
theorem Qib {src dst : TypeId} {D : TypeDesc} {k' : IntKind} (hs : P.underlying src = some D) (hd : P.underlying dst = some (.int k')) (hx : a.eval x = .int k n) : ∃ v, ∀ w, (execOp a.eval ⟨d, .convert src dst x, ty, pos, af, gd⟩).run P w = .ok (.value v) w :=
  ⟨.int k' (k'.wrap n), fun w => by simp [execOp, hx, convert, run_underlying hs, run_underlying hd, Conv.intToInt]⟩
end

/-! ## What is left then: stores, in their order -/
section
variable {P : Program} {ops : Array Oper} {Q : Exit → Act → World → Prop} {S : World → Prop}
theorem Qh3 {i : Nat} {ty t : TypeId} {pos : String} {af : Array Edge} {fuel n : Nat} {L : Array Bool} {a : Act} {w : World} {x y : Operand} (hfr : FrD dfs n a) (hi : ops[i]? = some ⟨none, .store t x y, ty, pos, af, none⟩)
    (hr : (Region.ready .any ops L == [i]) = true) (h : ∃ w', (∃ nx, (nx = .skip ∨ nx = .value undef) ∧ (execOp a.eval ⟨none, .store t x y, ty, pos, af, none⟩).run P w = .ok nx w') ∧ S w' ∧ wpAnyH P .any ops Q S fuel (L.setIfInBounds i true) a w') :
    wpAnyH P .any ops Q S (fuel + 1) L a w := by
  have hr' : Region.ready .any ops L = [i] := by simpa using hr
  refine wpAnyH_all hr' (by simp) fun j hj => ?_
  simp only [List.mem_cons, List.not_mem_nil, or_false] at hj
  subst hj
  obtain ⟨w', ⟨nx, hnx, hrun⟩, hS, hk⟩ := h
  unfold wpOp
  simp only [hi]
  have hw : Region.wanted ⟨none, .store t x y, ty, pos, af, none⟩ (yielded ops a.tmps) = true := rfl
  rw [if_pos hw]
  left
  unfold Oper.wp
  rw [hrun]
  rcases hnx with rfl | rfl <;> exact ⟨hS, hk⟩
theorem Q44 {fuel : Nat} {L : Array Bool} {a : Act} {w : World} (hr : (Region.ready .any ops L == []) = true) (h : Q .normal a w) : wpAnyH P .any ops Q S fuel L a w := wpAnyH_done (by simpa using hr) h fuel
variable {a : Act} {w : World} {β B : Nat} {ls : List Nat} {T : List (List Value)} {j : Nat} {t : TypeId} {x y : Operand} {ty : TypeId} {pos : String} {af : Array Edge}
theorem st_S {u : Value} (hz : SizeIs P t 1) (hx : PxS β B ls T j (a.eval x) w) (hy : a.eval y = u) (hu : u.oneCell' = true) (hl : (ls[j]? == some 1) = true) :
    ∃ w', (∃ nx, (nx = .skip ∨ nx = .value undef) ∧ (execOp a.eval ⟨none, .store t x y, ty, pos, af, none⟩).run P w = .ok nx w') ∧ ChgAt β w w' ∧ UpS β ls T (T.set j [u]) w w' := by
  obtain ⟨h0, g, e9, h1, h2, h3, h4⟩ := hx
  have hl : ls[j]? = some 1 := by simpa using hl
  have hiS : j < T.length := by
    have := (List.getElem?_eq_some_iff.1 hl).1
    rw [← h0] at this; simpa using this
  have hli : ls.getD j 0 = 1 := by simp [List.getD_eq_getElem?_getD, hl]
  have hoff : (ls.take j).sum < T.flatten.length := by
    have hs : T[j].length = 1 := by rw [← Q6b h0 (List.getElem?_eq_getElem hiS)]; exact hli
    have := Q8c (k := 0) h0 (List.getElem?_eq_getElem hiS) (by omega)
    have := (List.getElem?_eq_some_iff.1 this).1
    omega
  obtain ⟨w', hrun, hc, hb⟩ := Q8e (ty := ty) (pos := pos) (af := af) (gd := none) (dst := none) hz hu h4 hoff h3 hy
  exact ⟨w', hrun, h1 ▸ hc, upS h1 h0 hiS (by simpa using hli.symm) h4 hb⟩
theorem Q9k {i n fuel : Nat} {L : Array Bool} {u : Value} (hi : ops[i]? = some ⟨none, .store t x y, ty, pos, af, none⟩) (hr : (Region.ready .any ops L == [i]) = true) (hSc : ∀ w', ChgAt β w w' → S w') (hfr : FrD dfs n a)
    (hz : SizeIs P t 1) (hx : PxS β B ls T j (a.eval x) w) (hy : a.eval y = u) (hu : u.oneCell' = true) (hl : (ls[j]? == some 1) = true)
    (k : ∀ a' w', ChgAt β w w' → UpS β ls T (T.set j [u]) w w' → FrD dfs n a' → Same [] a a' → S w' → wpAnyH P .any ops Q S fuel (L.setIfInBounds i true) a' w') : wpAnyH P .any ops Q S (fuel + 1) L a w := by
  obtain ⟨w', hrun, hc, hup⟩ := st_S (ty := ty) (pos := pos) (af := af) hz hx hy hu hl
  exact Qh3 hfr hi hr ⟨w', hrun, hSc w' hc, k a w' hc hup hfr Same.rfl (hSc w' hc)⟩
end

def BsW (W : World) (l : List UInt8) : VP := fun v w => Bs l v w ∧ Bs l v W
instance (W : World) (l : List UInt8) : Stb (BsW W l) := ⟨fun v w w' hx h => ⟨Stb.st v w w' hx h.1, h.2⟩⟩
theorem BsW.now {W : World} {l : List UInt8} {v : Value} {w : World} (h : BsW W l v w) : Bs l v w := h.1
end Go.Proofs.Ytlmdboaghojgiaa

/- Fields of struct values. -/
namespace Go.Proofs.Ytlmdboaghojgiaa
set_option linter.unusedVariables false
set_option linter.unusedSimpArgs false
open Go Go.RowKit
section
variable {P : Program} {d : Option Tmp} {t ty : TypeId} {x : Operand} {pos : String} {af : Array Edge} {gd : Option (Nat × Bool)} {a : Act} {w : World}
end
end Go.Proofs.Ytlmdboaghojgiaa
