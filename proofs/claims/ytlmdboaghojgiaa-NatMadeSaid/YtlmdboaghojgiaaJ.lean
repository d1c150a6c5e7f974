import Derived.Lib.SlBytesConst
import Derived.Test.YtlmdboaghojgiaaZ
/- Rows whose elements take several cells each. -/
namespace Go.Proofs.Ytlmdboaghojgiaa
set_option linter.unusedVariables false
set_option linter.unusedSimpArgs false
open Go Go.RowKit
variable {dfs : List Deferred}

structure RT (α : Type) where
  f : α → List Value
  m : Nat
  len : ∀ x, (f x).length = m
  pos : 0 < m
  one : ∀ x, ∀ u ∈ f x, u.oneCell' = true
section
variable {α : Type}
def RT.fl (R : RT α) (l : List α) : List Value := l.flatMap R.f
theorem RT.fl_len (R : RT α) (l : List α) : (R.fl l).length = l.length * R.m := by
  induction l with
  | nil => simp [RT.fl]
  | cons x l ih =>
    unfold RT.fl at ih ⊢
    rw [List.flatMap_cons, List.length_append, ih, R.len, List.length_cons, Nat.add_mul, Nat.one_mul, Nat.add_comm]
theorem RT.fl_app (R : RT α) (l r : List α) : R.fl (l ++ r) = R.fl l ++ R.fl r := by simp [RT.fl]
theorem RT.fl_one (R : RT α) (l : List α) : ∀ u ∈ R.fl l, u.oneCell' = true := by
  intro u hu
  obtain ⟨x, _, hx⟩ := List.mem_flatMap.1 hu
  exact R.one x u hx
theorem RT.fl_at (R : RT α) : ∀ (l : List α) (i j : Nat) (_ : i < l.length), j < R.m → (R.fl l)[i * R.m + j]? = (R.f l[i])[j]?
  | x :: l, 0, j, _, hj => by
    unfold RT.fl
    rw [List.flatMap_cons, Nat.zero_mul, Nat.zero_add, List.getElem?_append_left (by rw [R.len]; exact hj)]
    rfl
  | x :: l, i + 1, j, h, hj => by
    have ih := RT.fl_at R l i j (by simpa using h) hj
    unfold RT.fl at ih ⊢
    rw [List.flatMap_cons, List.getElem?_append_right (by rw [R.len, Nat.add_mul]; omega), R.len]
    rw [show (i + 1) * R.m + j - R.m = i * R.m + j from by rw [Nat.add_mul]; omega, ih]
    rfl
  | [], i, j, h, _ => by simp at h
theorem RT.fl_lt (R : RT α) {l : List α} {i j : Nat} (hi : i < l.length) (hj : j < R.m) : i * R.m + j < (R.fl l).length := by
  rw [R.fl_len]
  have : (i + 1) * R.m ≤ l.length * R.m := Nat.mul_le_mul_right _ hi
  rw [Nat.add_mul] at this; omega
def Rw (R : RT α) (l : List α) : VP := fun v w => (v = .slice none 0 0 ∧ l = []) ∨
  ∃ p cap, v = .slice (some p) l.length cap ∧ l.length ≤ cap ∧ cap ≤ maxLen ∧ ∀ i, i < (R.fl l).length → w.cell? (p.add i) = some ((R.fl l).getD i undef)
instance (R : RT α) (l : List α) : Stb (Rw R l) := ⟨fun v w w' hx h => by
  rcases h with h | ⟨p, cap, h1, h2, h3, h4⟩
  · exact .inl h
  · exact .inr ⟨p, cap, h1, h2, h3, fun i hi => hx.cell (h4 i hi)⟩⟩
theorem Qmi {R : RT α} {w : World} : Rw R [] (.slice none 0 0) w := .inl ⟨rfl, rfl⟩
theorem Rw.cast {R : RT α} {l m : List α} {v : Value} {w : World} (h : Rw R l v w) (e : l = m) : Rw R m v w := e ▸ h
theorem Rw.len_le {R : RT α} {l : List α} {v : Value} {w : World} (h : Rw R l v w) : l.length ≤ maxLen := by
  rcases h with ⟨_, rfl⟩ | ⟨p, cap, h1, h2, h3, h4⟩
  · simp [maxLen]
  · omega
def OwnR (B : Nat) (e : TypeId) (R : RT α) (l : List α) : VP := fun v w => w.ownsRow B e R.m v l.length (R.fl l)
instance (B : Nat) (e : TypeId) (R : RT α) (l : List α) : Stb (OwnR B e R l) := ⟨fun v w w' hx h => by
  obtain ⟨h1, h2⟩ := h
  refine ⟨h1, ?_⟩
  rcases h2 with h2 | ⟨g, cap, cur, h3, h4, h5, h6⟩
  · exact .inl h2
  · have hlt : g < w.heap.size := (Array.getElem?_eq_some_iff.1 h5).1
    exact .inr ⟨g, cap, cur, h3, h4, by rw [hx.block g hlt]; exact h5, h6⟩⟩
def OwnRA (β B : Nat) (e : TypeId) (R : RT α) (l : List α) : VP := fun v w => OwnR B e R l v w ∧ bk v = β
instance (β B : Nat) (e : TypeId) (R : RT α) (l : List α) : Stb (OwnRA β B e R l) := ⟨fun v w w' hx h => ⟨Stb.st v w w' hx h.1, h.2⟩⟩
variable {β γ B B' : Nat} {e : TypeId} {R : RT α} {l l' : List α} {v : Value} {w w' : World}
theorem Q7k : OwnR B e R [] (.slice none 0 0) w := World.ownsRow_nil _ _ _ _
theorem Qi6 : OwnRA 0 B e R [] (.slice none 0 0) w := ⟨Q7k, rfl⟩
theorem OwnR.rw (h : OwnR B e R l v w) : Rw R l v w := by
  obtain ⟨h1, h2⟩ := h
  rcases h2 with ⟨h3, h4⟩ | ⟨g, cap, cur, h3, h4, h5, h6, h7, h8, h9⟩
  · exact .inl ⟨h3, List.eq_nil_of_length_eq_zero h4⟩
  · refine .inr ⟨⟨g, 0, none⟩, cap, h3, h6, h7, fun i hi => ?_⟩
    rw [Go.WideShapes.add_plain, Nat.zero_add, cell_of_row w g i cur e _ h5]
    have h10 : (cur.toList.take (l.length * R.m))[i]? = (R.fl l)[i]? := by rw [h9]
    rw [List.getElem?_take_of_lt (by rw [R.fl_len] at hi; exact hi)] at h10
    rw [List.getD_eq_getElem?_getD, List.getElem?_eq_getElem hi] at *
    simpa using h10
theorem OwnRA.rw (h : OwnRA β B e R l v w) : Rw R l v w := h.1.rw
theorem OwnRA.own (h : OwnRA β B e R l v w) : OwnR B e R l v w := h.1
theorem OwnR.at (h : OwnR B e R l v w) : ∃ β, OwnRA β B e R l v w := ⟨_, h, rfl⟩
theorem OwnR.cast (h : OwnR B e R l v w) (e' : l = l') : OwnR B e R l' v w := e' ▸ h
theorem OwnRA.cast (h : OwnRA β B e R l v w) (e' : l = l') : OwnRA β B e R l' v w := e' ▸ h
theorem OwnR.mono (h : OwnR B e R l v w) (hB : B' ≤ B) : OwnR B' e R l v w := by
  obtain ⟨h1, h2⟩ := h
  refine ⟨h1, ?_⟩
  rcases h2 with h2 | ⟨g, cap, cur, h3, h4, h5⟩
  · exact .inl h2
  · exact .inr ⟨g, cap, cur, h3, Nat.le_trans hB h4, h5⟩
theorem OwnRA.mono (h : OwnRA β B e R l v w) (hB : B' ≤ B) : OwnRA β B' e R l v w := ⟨h.1.mono hB, h.2⟩
theorem OwnRA.lt (h : OwnRA β B e R l v w) : (β = 0 ∨ B < β) ∧ β ≤ w.heap.size := by
  have hl := h.1.lt
  obtain ⟨_, rfl⟩ := h
  cases hb : v.ownBlock with
  | none => rw [Qcs.2 hb]; exact ⟨.inl rfl, by omega⟩
  | some k => rw [Qcs.1 k hb]; have := hl k hb; omega
theorem OwnRA.other (h : OwnRA γ B e R l v w) (hc : ChgAt β w w') (hne : γ = 0 ∨ γ ≠ β) : OwnRA γ B e R l v w' := by
  obtain ⟨⟨h1, h2⟩, h0⟩ := h
  refine ⟨⟨h1, ?_⟩, h0⟩
  rcases h2 with h2 | ⟨g, cap, cur, h3, h4, h5, h6⟩
  · exact .inl h2
  · have hlt : g < w.heap.size := (Array.getElem?_eq_some_iff.1 h5).1
    have hg : g + 1 ≠ β := by
      have : bk v = g + 1 := by rw [h3]; rfl
      omega
    exact .inr ⟨g, cap, cur, h3, h4, by rw [hc.block g hlt hg]; exact h5, h6⟩
theorem OwnRA.blk (h : OwnRA β B e R l v w) : (v = .slice none 0 0 ∧ l = [] ∧ β = 0) ∨ ∃ (g cap : Nat) (r : List Value), β = g + 1 ∧ B ≤ g ∧ v = .slice (some ⟨g, 0, none⟩) l.length cap ∧ l.length ≤ cap ∧ cap ≤ maxLen ∧ (R.fl l ++ r).length = cap * R.m ∧ w.heap[g]? = some (.cells (R.fl l ++ r).toArray e (0, 0)) := by
  obtain ⟨⟨h1, h2⟩, hb⟩ := h
  rcases h2 with ⟨h3, h4⟩ | ⟨g, cap, cur, h3, h4, h5, h6, h7, h8, h9⟩
  · exact .inl ⟨h3, List.eq_nil_of_length_eq_zero h4, by rw [← hb, h3]; rfl⟩
  · refine .inr ⟨g, cap, cur.toList.drop (l.length * R.m), by rw [← hb, h3]; rfl, h4, h3, h6, h7, ?_, ?_⟩
    · rw [← h9, List.take_append_drop]; simpa using h8
    · rw [h5, ← h9, List.take_append_drop]
theorem OwnRA.mk' {g cap : Nat} {r : List Value} (hB : B ≤ g) (hc : l.length ≤ cap) (hm : cap ≤ maxLen) (hr : (R.fl l ++ r).length = cap * R.m) (hh : w.heap[g]? = some (.cells (R.fl l ++ r).toArray e (0, 0))) : OwnRA (g + 1) B e R l (.slice (some ⟨g, 0, none⟩) l.length cap) w :=
  ⟨⟨R.fl_len l, .inr ⟨g, cap, (R.fl l ++ r).toArray, rfl, hB, hh, hc, hm, by simpa using hr, by
    rw [List.take_append_of_le_length (by rw [R.fl_len]; omega), List.take_of_length_le (by rw [R.fl_len]; omega)]⟩⟩, rfl⟩

def UpR (β : Nat) (R : RT α) (l l' : List α) (w w' : World) : Prop := ∀ B e v, OwnRA β B e R l v w → OwnRA β B e R l' v w'
theorem OwnRA.upL {g cap : Nat} {r c' : List Value} (hg : β = g + 1) (hh : w.heap[g]? = some (.cells (R.fl l ++ r).toArray e (0, 0))) (hl : l ≠ []) (hb : Blk g e c' w') (hlen : l'.length = l.length) (hc : c' = R.fl l' ++ r) : UpR β R l l' w w' := by
  intro B' e' u hu
  rcases hu.blk with ⟨_, h0, _⟩ | ⟨g', cap', r', hg', hB, rfl, hh1, hm, hl', hw⟩
  · exact absurd h0 hl
  · have : g' = g := by omega
    subst this
    have e1 : Obj.cells (R.fl l ++ r').toArray e' (0, 0) = Obj.cells (R.fl l ++ r).toArray e (0, 0) := by rw [hh] at hw; exact (Option.some.inj hw).symm
    injection e1 with e2 e3
    have e4 : R.fl l ++ r' = R.fl l ++ r := by simpa using e2
    have e5 := List.append_cancel_left e4
    subst e5
    subst e3
    rw [hg, ← hlen]
    refine OwnRA.mk' hB (by omega) hm ?_ (by rw [← hc]; exact hb)
    rw [List.length_append, R.fl_len, hlen, ← R.fl_len, ← List.length_append]
    exact hl'
def EpR (β B : Nat) (e : TypeId) (R : RT α) (l : List α) (i o : Nat) : VP := fun v w => i < l.length ∧ o < R.m ∧ ∃ v0 g, OwnRA β B e R l v0 w ∧ β = g + 1 ∧ v = .pointer (some ⟨g, i * R.m + o, none⟩)
instance (β B : Nat) (e : TypeId) (R : RT α) (l : List α) (i o : Nat) : Stb (EpR β B e R l i o) := ⟨fun _ _ _ hx ⟨h0, h1, v0, g, h2, h3, h4⟩ => ⟨h0, h1, v0, g, Stb.st _ _ _ hx h2, h3, h4⟩⟩
theorem EpR.lt {i o : Nat} (h : EpR β B e R l i o v w) : (β = 0 ∨ B < β) ∧ β ≤ w.heap.size := by
  obtain ⟨_, _, v0, g, h1, _⟩ := h
  exact OwnRA.lt h1
theorem EpR.other {i o : Nat} (h : EpR γ B e R l i o v w) (hc : ChgAt β w w') (hne : γ = 0 ∨ γ ≠ β) : EpR γ B e R l i o v w' := by
  obtain ⟨h0, h1, v0, g, h2, h3, h4⟩ := h
  exact ⟨h0, h1, v0, g, OwnRA.other h2 hc hne, h3, h4⟩
end

section
variable {α : Type} {R : RT α} {l l' : List α} {β B : Nat} {e e' : TypeId} {P : Program} {d : Option Tmp} {ty t : TypeId} {pos : String} {af : Array Edge} {gd : Option (Nat × Bool)} {a : Act} {w w' : World} {x y : Operand}

theorem Q6a (hT : P.underlying t = some (.slice e)) (hx : Rw R l (a.eval x) w) : OpOk P ⟨d, .call ⟨.builtin .len, #[x], #[t]⟩, ty, pos, af, gd⟩ a w (Is (.int .i64 l.length)) := by
  rcases hx with ⟨h1, rfl⟩ | ⟨p, cap, h, _⟩
  · exact Q1g (v := .int .i64 0) (by simp [execOp, resolve, invoke, builtin, Builtin.len_, h1, run_underlying hT, goInt]) rfl
  · exact Q1g (v := .int .i64 l.length) (by simp [execOp, resolve, invoke, builtin, Builtin.len_, h, run_underlying hT, goInt]) rfl
theorem Q5m {k : IntKind} (i : Nat) (hT : P.underlying t = some (.slice e)) (hz : SizeIs P e R.m) (hx : Rw R l (a.eval x) w) (hy : a.eval y = .int k (i : Int)) (hi : i < l.length) :
    OpOk P ⟨d, .indexAddr t x y, ty, pos, af, gd⟩ a w (Cells (R.f l[i])) := by
  rcases hx with ⟨_, rfl⟩ | ⟨p, cap, hv, _, _, hc⟩
  · simp at hi
  · have h0 := hc _ (R.fl_lt hi R.pos)
    have hs : p.spot = none := by
      have h00 := hc 0 (by have := R.fl_lt hi R.pos; omega)
      have := World.cell?_spot h00
      simpa [Addr.add] using this
    obtain ⟨b, o, s⟩ := p
    have hs : s = none := hs
    subst hs
    refine Q1g (v := .pointer (some ⟨b, o + i * R.m, none⟩)) ?_ ⟨b, o + i * R.m, rfl, fun j hj => ?_⟩
    · simp [execOp, Instr.indexAt, hv, hy, asIntOf, run_underlying hT, hz.run, hi, Go.WideShapes.add_plain]
    · rw [R.len] at hj
      have := hc _ (R.fl_lt hi hj)
      rw [Go.WideShapes.add_plain] at this
      rw [Nat.add_assoc, this, List.getD_eq_getElem?_getD, R.fl_at l i j hi hj, List.getD_eq_getElem?_getD]
theorem Qaw {o : Oper} {c : Value} {V : VP} [s : Stb V] (h : OpOk P o a w (Is c)) (hv : V c w) : OpOk P o a w (vp V) := by
  unfold vp
  unfold OpOk Qfl at h ⊢
  generalize (execOp a.eval _).run P w = q at h ⊢
  cases q with
  | halt x w' => exact h.elim
  | ok nx w' =>
    cases nx <;> first | exact h.elim | skip
    case value u => exact ⟨h.1, by rw [show u = c from h.2]; exact s.st _ _ _ h.1 hv⟩
    case skip => exact ⟨h.1, by rw [show undef = c from h.2]; exact s.st _ _ _ h.1 hv⟩
    case enter f args => exact ⟨h.1, h.2.mono fun e w'' ⟨u, he, hx', hu⟩ => ⟨u, he, hx', by rw [show u = c from hu]; exact s.st _ _ _ hx' hv⟩⟩

def PartsR (a : Act) (R : RT α) : List Operand → List α → Prop
  | x :: xs, y :: ys => a.eval x = .agg (R.f y).toArray ∧ PartsR a R xs ys
  | [], [] => True
  | _, _ => False
theorem PartsR.nil : PartsR a R [] [] := trivial
theorem PartsR.cons {xs : List Operand} {y : α} {ys : List α} (hx : a.eval x = .agg (R.f y).toArray) (h : PartsR a R xs ys) : PartsR a R (x :: xs) (y :: ys) := ⟨hx, h⟩
theorem PartsR.len : ∀ {xs : List Operand} {ys : List α}, PartsR a R xs ys → xs.length = ys.length
  | [], [], _ => rfl
  | _ :: xs, _ :: ys, h => congrArg (· + 1) (PartsR.len h.2)
  | [], _ :: _, h => h.elim
  | _ :: _, [], h => h.elim
theorem PartsR.parts : ∀ {xs : List Operand} {ys : List α} (k : Nat), PartsR a R xs ys → PartsC a ((xs.zipIdx k).map fun p => (p.2, p.1)) ((ys.zipIdx k).map fun p => (p.2, R.f p.1))
  | [], [], _, _ => trivial
  | x :: xs, y :: ys, k, h => ⟨rfl, by rw [h.1]; rfl, PartsR.parts (k + 1) h.2⟩
  | [], _ :: _, _, h => h.elim
  | _ :: _, [], _, h => h.elim
theorem Qb7 (f : α → List Value) : ∀ (ys : List α) (A : List (List Value)) (Z : List (List Value)), Z.length = ys.length → Q5b (A ++ Z) ((ys.zipIdx A.length).map fun p => (p.2, f p.1)) = A ++ ys.map f
  | [], A, Z, h => by
    have : Z = [] := List.eq_nil_of_length_eq_zero (by simpa using h)
    subst this; rfl
  | y :: ys, A, z :: Z, h => by
    rw [List.zipIdx_cons, List.map_cons]
    show Q5b ((A ++ z :: Z).set A.length (f y)) _ = _
    have e1 : (A ++ z :: Z).set A.length (f y) = (A ++ [f y]) ++ Z := by
      rw [List.set_append_right _ _ (Nat.le_refl _), Nat.sub_self, List.set_cons_zero]; simp
    have ih := Qb7 f ys (A ++ [f y]) Z (by simpa using h)
    rw [List.length_append] at ih
    rw [e1]
    rw [show A.length + [f y].length = A.length + 1 from rfl] at ih
    rw [ih]; simp
  | _ :: _, _, [], h => by simp at h
theorem Qnh (n m i : Nat) (h : i ≤ n) : ((List.replicate n m).take i).sum = i * m := by
  rw [List.take_replicate, Nat.min_eq_left h]
  induction i with
  | zero => simp
  | succ i ih => rw [List.replicate_succ, List.sum_cons, ih (by omega), Nat.add_mul]; omega
theorem Qi7 {z : Value} {xs : List Operand} (hz : z.cells.size = R.m) (h : PartsR a R xs l) :
    Instr.fill (fun i => some (i * R.m, R.m)) ((Array.range (xs.length * R.m)).map (z.cells[· % z.cells.size]!)) ((xs.zipIdx.map fun p => (p.2, p.1)).map fun q => (q.1, a.eval q.2)) = some (R.fl l).toArray := by
  have hlen := h.len
  have key := Q9j (a := a) (fun i => some (i * R.m, R.m)) (List.replicate xs.length R.m) (fun i hi => by
    have hi : i < xs.length := by simpa using hi
    rw [Qnh _ _ _ (by omega)]
    simp [List.getD_eq_getElem?_getD, hi]) _ _ (List.replicate xs.length z.cells.toList) (by simp [hz]) ?_ (h.parts 0)
  · have e1 : (List.replicate xs.length z.cells.toList).flatten.toArray = (Array.range (xs.length * R.m)).map (z.cells[· % z.cells.size]!) := by
      have hl : z.cells.toList.length = R.m := by simpa using hz
      apply Array.ext
      · simp [hz]
      · intro i h1 h2
        have hiN : i < xs.length * R.m := by simpa using h2
        have hp := R.pos
        have hmod : i % R.m < z.cells.size := by rw [hz]; exact Nat.mod_lt _ hp
        rw [Array.getElem_map, Array.getElem_range, hz, getElem!_pos z.cells (i % R.m) hmod]
        have key2 : ∀ (n i : Nat), i < n * R.m → (List.replicate n z.cells.toList).flatten[i]? = z.cells.toList[i % R.m]? := by
          intro n
          induction n with
          | zero => intro i h; simp at h
          | succ n ih =>
            intro i h
            rw [List.replicate_succ, List.flatten_cons]
            by_cases hi : i < R.m
            · rw [List.getElem?_append_left (by omega), Nat.mod_eq_of_lt hi]
            · rw [List.getElem?_append_right (by omega), hl, ih (i - R.m) (by rw [Nat.add_mul] at h; omega)]
              rw [← Nat.mod_eq_sub_mod (by omega)]
        have := key2 xs.length i hiN
        simp only [List.getElem_toArray]
        rw [List.getElem?_eq_getElem (by simpa using h1)] at this
        have h9 : z.cells.toList[i % R.m]? = some z.cells[i % R.m] := by simp [hmod]
        rw [h9] at this
        exact Option.some.inj this
    rw [e1] at key
    have e2 := Qb7 R.f l [] (List.replicate xs.length z.cells.toList) (by simpa using hlen)
    simp only [List.nil_append, List.length_nil] at e2
    rw [show l.zipIdx 0 = l.zipIdx from rfl] at e2
    rw [e2] at key
    rw [key]
    simp [RT.fl, List.flatMap_def]
  · rw [List.all_eq_true]
    intro q hq
    obtain ⟨p, hp, rfl⟩ := List.mem_map.1 hq
    obtain ⟨h1, h2, h3⟩ := List.mem_zipIdx hp
    simp at h2
    have h4 : p.2 < xs.length := by omega
    simp [List.getD_eq_getElem?_getD, h4, R.len]
theorem Qed {n : Nat} {parts : Array (Nat × Operand)} {z : Value} (xs : List Operand) (l : List α) (hT : P.underlying t = some (.slice e)) (hz : SizeIs P e R.m) (hz0 : ZeroIs P e z) (hzc : z.cells.size = R.m)
    (hp : parts = (xs.zipIdx.map fun p => (p.2, p.1)).toArray) (hn : xs.length = n) (hn2 : n * R.m ≤ 1000) (hR : PartsR a R xs l) :
    (execOp a.eval ⟨d, .buildSlice t n parts, ty, pos, af, gd⟩).run P w = .ok (.value (.slice (some ⟨w.heap.size, 0, none⟩) n n)) (w.alloc (.cells (R.fl l).toArray e)) := by
  have hf := Qi7 hzc hR
  have hvals : (parts.map fun (p : Nat × Operand) => (p.1, a.eval p.2)).toList = ((xs.zipIdx.map fun p => (p.2, p.1)).map fun q => (q.1, a.eval q.2)) := by subst hp; simp
  rw [hn] at hf
  by_cases h0 : n * R.m = 0
  · have h00 : n = 0 := by have := R.pos; rcases Nat.mul_eq_zero.1 h0 with h | h <;> omega
    subst h00
    have hxs : xs = [] := List.eq_nil_of_length_eq_zero hn
    subst hxs
    have hl : l = [] := List.eq_nil_of_length_eq_zero hR.len.symm
    subst hl
    simp only [execOp]
    unfold Instr.buildSlice
    simp only [hvals]
    simp [run_underlying hT, hz.run, newRow, Instr.fill, RT.fl]
    congr 2
    exact Array.eq_empty_of_size_eq_zero (by simp)
  · simp only [execOp]
    unfold Instr.buildSlice
    simp only [hvals]
    simp only [Sem.run_bind, run_underlying hT, hz.run, Result.andThen_ok, if_neg h0]
    simp only [List.map_map] at hf
    simp [hz0.run, hf, newRow]
    omega
theorem Qh1 {n : Nat} {parts : Array (Nat × Operand)} {z : Value} (xs : List Operand) (l : List α) (hT : P.underlying t = some (.slice e)) (hz : SizeIs P e R.m) (hz0 : ZeroIs P e z) (hzc : z.cells.size = R.m)
    (hp : parts = (xs.zipIdx.map fun p => (p.2, p.1)).toArray) (hn : xs.length = n) (hn2 : n * R.m ≤ 1000) (hR : PartsR a R xs l) (hB : B ≤ w.heap.size) : OpOk P ⟨d, .buildSlice t n parts, ty, pos, af, gd⟩ a w (OwnR B e R l) := by
  have hrun := Qed (a := a) (w := w) (d := d) (ty := ty) (pos := pos) (af := af) (gd := gd) xs l hT hz hz0 hzc hp hn hn2 hR
  have hl : l.length = n := by rw [← hn, hR.len]
  have hnn : n ≤ n * R.m := Nat.le_mul_of_pos_right _ R.pos
  unfold OpOk
  rw [hrun]
  refine ⟨(Ext.refl w).alloc _, ⟨R.fl_len l, .inr ⟨w.heap.size, n, (R.fl l).toArray, by rw [hl], hB, heap_alloc_new _ _, by omega, by unfold maxLen; omega, by simp [R.fl_len, hl], ?_⟩⟩⟩
  rw [List.take_of_length_le]
  show (R.fl l).length ≤ _
  rw [R.fl_len]; exact Nat.le_refl _
theorem OwnR.load (h : OpOk P ⟨d, .move x, ty, pos, af, gd⟩ a w (OwnR B e R l)) : OpOk P ⟨d, .move x, ty, pos, af, gd⟩ a w (OwnR B e R l) := h

end
section
variable {α : Type} {R : RT α} {l l' : List α} {β B : Nat} {e e' : TypeId} {P : Program} {Q : Exit → Act → World → Prop} {ops : Array Oper} {rest : List Oper} {ty t : TypeId} {pos : String} {af : Array Edge} {a : Act} {w w' : World} {x y : Operand} {n : Nat}

def InfoM (P : Program) (e : TypeId) (z : Value) (m bytes : Nat) : Prop := (P.info? e).map (fun i => (i.zero, i.size, i.bytes)) = some (some z, m, bytes)
theorem InfoM.get {z : Value} {m bytes : Nat} (h : InfoM P e z m bytes) : ∃ i, P.info? e = some i ∧ i.zero = some z ∧ i.size = m ∧ i.bytes = bytes := by
  unfold InfoM at h
  cases hi : P.info? e with
  | none => rw [hi] at h; cases h
  | some i => rw [hi] at h; simp at h; exact ⟨i, rfl, h⟩
theorem Qbs {d : Tmp} {z : Value} {bytes : Nat} {r : List α} (hfr : FrD dfs n a) (hd : decide (d < n) = true) (hT : P.underlying t = some (.slice e)) (hI : InfoM P e z R.m bytes) (hzc : z.cells.size = R.m)
    (hx : OwnRA β B e R l (a.eval x) w) (hy : Rw R r (a.eval y) w) (hB : B ≤ w.heap.size) (hroom : (l.length + r.length) * bytes ≤ 140737488355328 ∧ l.length + r.length ≤ 9223372036854775807)
    (k : ∀ β' a' w', (β' = β ∨ β' = w.heap.size + 1) → ChgAt β w w' → FrD dfs n a' → OwnRA β' B e R (l ++ r) (a'.eval (.tmp d)) w' → Same [d] a a' → wpList P ops Q rest a' w') :
    wpList P ops Q (⟨some d, .call ⟨.builtin .append, #[x, y], #[t, t]⟩, ty, pos, af, none⟩ :: rest) a w := by
  obtain ⟨i, hi, hz, hsz, hby⟩ := hI.get
  have hdn : d < a.tmps.size := by rw [hfr.1]; simpa using hd
  obtain ⟨hx, rfl⟩ := hx
  rcases hy with ⟨hy, hus⟩ | ⟨p, cap, hy, h2, h3, h4⟩
  · -- nothing is appended
    subst hus
    refine wpList_plain rfl fun K hK => ?_
    have hrun : (execOp a.eval ⟨some d, .call ⟨.builtin .append, #[x, y], #[t, t]⟩, ty, pos, af, none⟩).run P w = .ok (.value (a.eval x)) w := by
      obtain ⟨_, h2⟩ := hx
      rcases h2 with ⟨h3, h4⟩ | ⟨g, cap, cur, h3, h4, h5, h6, h7, h8, h9⟩
      · simp [execOp, resolve, invoke, builtin, Builtin.append_, h3, hy, run_underlying hT, sizeOf, typeInfo, hi, Builtin.lenOf, Builtin.firstCells]
      · simp [execOp, resolve, invoke, builtin, Builtin.append_, h3, hy, run_underlying hT, sizeOf, typeInfo, hi, Builtin.lenOf, Builtin.firstCells, h6, storeCells]
    unfold Oper.wp
    rw [hrun]
    refine hK _ _ (k (bk (a.eval x)) _ w (.inl rfl) (ChgAt.refl _ _) (Q47 hfr) ?_ Q2x)
    rw [Q41 hdn, List.append_nil]
    exact ⟨hx, rfl⟩
  · refine wpList_plain rfl fun K hK => ?_
    obtain ⟨v', w', hr, hown, hg, hbk⟩ := Q7c (P := P) w B t ty e i z R.m bytes hT hi hz hsz hby hzc R.pos (a.eval x) l.length (R.fl l) hx p r.length cap (R.fl r) (R.fl_len r) (fun j u hj => by
      obtain ⟨hjl, rfl⟩ := List.getElem?_eq_some_iff.1 hj
      rw [h4 j hjl]; simp [List.getD_eq_getElem?_getD, hjl]) (R.fl_one r) (by unfold maxLen; exact hroom.2) hroom.1 hB
    unfold Oper.wp execOp
    simp only [resolve, invoke, builtin, Sem.run_bind, Sem.run_pure, Result.andThen_ok, List.map_toArray, List.map_cons, List.map_nil, hy, hr]
    refine hK _ _ (k (bk v') _ w' hbk (ChgAt.of_grown hg) (Q47 hfr) ?_ Q2x)
    rw [Q41 hdn]
    refine ⟨?_, rfl⟩
    unfold OwnR
    rw [List.length_append, R.fl_app]
    exact hown
end
end Go.Proofs.Ytlmdboaghojgiaa

/- Regions that draw their order: what only reads is taken first, then the rest in each of its orders. -/
namespace Go.Proofs.Ytlmdboaghojgiaa
set_option linter.unusedVariables false
set_option linter.unusedSimpArgs false
open Go Go.RowKit
variable {dfs : List Deferred}

def BlkS (β : Nat) (ls : List Nat) (S : List (List Value)) (w : World) : Prop := S.map List.length = ls ∧ ∃ g e, β = g + 1 ∧ Blk g e S.flatten w
section
variable {β B B' : Nat} {ls : List Nat} {S : List (List Value)} {i : Nat} {v : Value} {w W : World}
theorem PxS.blkS (h : PxS β B ls S i v w) : BlkS β ls S w := by
  obtain ⟨h0, g, e, h1, h2, h3, h4⟩ := h
  exact ⟨h0, g, e, h1, h4⟩
theorem BlkS.px (k : BlkS β ls S W) (h : PxS β B ls S i v w) : PxS β B ls S i v W := by
  obtain ⟨h0, g, e, h1, h2, h3, h4⟩ := h
  obtain ⟨_, g', e', k1, k4⟩ := k
  have : g' = g := by omega
  subst this
  exact ⟨h0, g', e', h1, h2, h3, k4⟩
end
section
variable {P : Program} {d : Option Tmp} {ty : TypeId} {pos : String} {af : Array Edge} {gd : Option (Nat × Bool)} {a : Act} {w : World} {t e : TypeId} {x y : Operand} {β B : Nat} {ls : List Nat} {S : List (List Value)} {i : Nat} {Sx : World → Prop} {D : TypeDesc}
theorem Qee {n : Nat} {cs : List Value} (hT : P.underlying t = some D) (hD : (match D with | .struct _ | .array _ _ => true | _ => false) = true) (hz : SizeIs P t n) (hn : n ≤ cs.length) (hx : Cells cs (a.eval x) w) :
    (execOp a.eval ⟨d, .load t x, ty, pos, af, gd⟩).run P w = .ok (.value (.agg (cs.take n).toArray)) w := by
  obtain ⟨b, o, hv, hc⟩ := hx
  have hagg : (isAgg t).run P w = .ok true w := by
    unfold isAgg
    simp only [Sem.run_bind, run_underlying hT, Result.andThen_ok]
    cases D <;> first | rfl | (simp at hD)
  have hl := run_loadCells_list (P := P) (w := w) ⟨b, o, none⟩ (cs.take n) (fun j v hj => by
    have hjn : j < (cs.take n).length := (List.getElem?_eq_some_iff.1 hj).1
    have h1 : j < cs.length := by simp at hjn; omega
    rw [Go.WideShapes.add_plain, hc j h1]
    rw [List.getElem?_take_of_lt (by simp at hjn; omega)] at hj
    simp [List.getD_eq_getElem?_getD, hj])
  have hlen : (cs.take n).length = n := by simp; omega
  rw [hlen] at hl
  simp [execOp, Instr.loadAt, hv, Instr.sureAddr, loadVar, hagg, hz.run, hl]
theorem Q4e {c : Value} (hT : P.underlying t = some D) (hD : (match D with | .struct _ | .array _ _ => false | _ => true) = true) (hx : PxS β B ls S i (a.eval x) w) (hr : ∀ W, Sx W → BlkS β ls S W) (hs : S[i]? = some [c]) :
    ∃ v, (∀ W, Sx W → (execOp a.eval ⟨d, .load t x, ty, pos, af, gd⟩).run P W = .ok (.value v) W) ∧ vp (Is c) v w := by
  obtain ⟨h0, g, e9, h1, h2, h3, h4⟩ := hx
  refine Qi8 hT hD h3 (fun W hW => ?_) rfl
  obtain ⟨_, g', e', k1, k4⟩ := hr W hW
  have : g' = g := by omega
  subst this
  have := Q8c (k := 0) h0 hs (by simp)
  rw [Nat.add_zero] at this
  rw [k4.cell, this]; rfl
theorem Qh2 {n : Nat} (j : Nat) (hT : P.underlying t = some D) (hD : (match D with | .struct _ | .array _ _ => true | _ => false) = true) (hz : SizeIs P t n) (hx : PxS β B ls S i (a.eval x) w) (hr : ∀ W, Sx W → BlkS β ls S W) (hij : (decide (i ≤ j) && ((ls.take i).sum + n == (ls.take j).sum)) = true) :
    ∃ v, (∀ W, Sx W → (execOp a.eval ⟨d, .load t x, ty, pos, af, gd⟩).run P W = .ok (.value v) W) ∧ vp (Is (.agg ((S.drop i).take (j - i)).flatten.toArray)) v w := by
  have h0 := hx.1
  simp only [Bool.and_eq_true, decide_eq_true_eq, beq_iff_eq] at hij
  have e1 : (S.drop i).flatten = ((S.drop i).take (j - i)).flatten ++ (S.drop j).flatten := by
    have : S.drop j = (S.drop i).drop (j - i) := by rw [List.drop_drop]; congr 1; omega
    rw [this, ← List.flatten_append, List.take_append_drop]
  have e2 : ((S.drop i).take (j - i)).flatten.length = n := by
    have h1 := Q3q h0 j
    have h2 := Q3q h0 i
    have : S.take j = S.take i ++ (S.drop i).take (j - i) := by
      have hji : j = i + (j - i) := by omega
      conv => lhs; rw [hji]
      rw [List.take_add]
    rw [this, List.flatten_append, List.length_append] at h1
    omega
  refine ⟨_, fun W hW => ?_, rfl⟩
  have := Qee (d := d) (ty := ty) (pos := pos) (af := af) (gd := gd) (n := n) hT hD hz (cs := (S.drop i).flatten) (by rw [e1, List.length_append]; omega) ((hr W hW).px hx).cells
  rw [this, e1, ← e2, List.take_left]
theorem Q3r {k : Nat} {V U : VP} (hk : (k == 0 || k == 1) = true) (hx : Tup2 V U (a.eval x) w) : ∃ v, ∀ w, (execOp a.eval ⟨d, .extract x k, ty, pos, af, gd⟩).run P w = .ok (.value v) w := by
  obtain ⟨u, v, h, _, _⟩ := hx
  simp only [Bool.or_eq_true, beq_iff_eq] at hk
  rcases hk with rfl | rfl
  · exact ⟨u, fun w => by simp [execOp, Instr.extract, h]⟩
  · exact ⟨v, fun w => by simp [execOp, Instr.extract, h]⟩
theorem Q8r {W : World} {l : List UInt8} {olo ohi : Option Operand} (lo hi : Nat) (hT : P.underlying t = some (.slice e)) (hz : SizeIs P e 1) (hx : Bs l (a.eval x) W)
    (hlo : olo = none ∧ lo = 0 ∨ ∃ y k, olo = some y ∧ a.eval y = .int k (lo : Int)) (hhi : ohi = none ∧ hi = l.length ∨ ∃ y k, ohi = some y ∧ a.eval y = .int k (hi : Int)) (h1 : lo ≤ hi) (h2 : hi ≤ l.length) :
    ∃ v, ∀ w, (execOp a.eval ⟨d, .slice t x olo ohi none, ty, pos, af, gd⟩).run P w = .ok (.value v) w := by
  obtain ⟨p, cap, hv⟩ := hx.len
  simp only [List.length_map] at hv
  have hcap : l.length ≤ cap := by
    rcases hx with ⟨hv', hl⟩ | ⟨q, cap', h3, h4, _⟩
    · simp at hl; subst hl; simp
    · rw [hv] at h3; simp at h3 h4; omega
  refine ⟨sliced p lo hi cap 1, fun w => ?_⟩
  have hb := Q4w (P := P) (w := w) l.length cap lo hi (olo.map a.eval) (ohi.map a.eval)
    (by rcases hlo with ⟨rfl, rfl⟩ | ⟨y, k, rfl, hy⟩
        · exact .inl ⟨rfl, rfl⟩
        · exact .inr ⟨k, by simp [hy]⟩)
    (by rcases hhi with ⟨rfl, rfl⟩ | ⟨y, k, rfl, hy⟩
        · exact .inl ⟨rfl, rfl⟩
        · exact .inr ⟨k, by simp [hy]⟩) h1 (by omega)
  have ht := Qe9 hT
  have he : P.elem t = e := by simp [Program.elem, hT]
  have h3 := run_slice_any (P := P) w t p l.length cap ht (olo.map a.eval) (ohi.map a.eval) none
  simp only [hb, Result.andThen_ok, he, hz.run] at h3
  have h4 : (Instr.sliceAt t (.slice p l.length cap) (olo.map a.eval) (ohi.map a.eval) none).run P w = .ok (sliced p lo hi cap 1) w := by
    rw [run_sliceAt_slice (P := P) (w := w) (h := ht)]; exact h3
  simp only [execOp, hv, Option.map_none]
  simp [h4]
theorem Qef {W : World} {l : List UInt8} {k : IntKind} (lo : Nat) (hT : P.underlying t = some (.slice e)) (hz : SizeIs P e 1) (hx : Bs l (a.eval x) W) (hy : a.eval y = .int k (lo : Int)) (h2 : lo ≤ l.length) :
    ∃ v, ∀ w, (execOp a.eval ⟨d, .slice t x (some y) none none, ty, pos, af, gd⟩).run P w = .ok (.value v) w := Q8r lo l.length hT hz hx (.inr ⟨y, k, rfl, hy⟩) (.inl ⟨rfl, rfl⟩) h2 (Nat.le_refl _)
theorem Qeg {W : World} {l : List UInt8} {k k' : IntKind} {z : Operand} (lo hi : Nat) (hT : P.underlying t = some (.slice e)) (hz : SizeIs P e 1) (hx : Bs l (a.eval x) W) (hy : a.eval y = .int k (lo : Int)) (hz' : a.eval z = .int k' (hi : Int)) (h1 : lo ≤ hi) (h2 : hi ≤ l.length) :
    ∃ v, ∀ w, (execOp a.eval ⟨d, .slice t x (some y) (some z) none, ty, pos, af, gd⟩).run P w = .ok (.value v) w := Q8r lo hi hT hz hx (.inr ⟨y, k, rfl, hy⟩) (.inr ⟨z, k', rfl, hz'⟩) h1 h2
end

theorem G.al {c : Bool} {V : VP} {u v : Value} {w : World} (s : V u w) (h : G c (Is u) v w) : G c V v w := ⟨fun hc => by rw [show v = u from h.1 hc]; exact s, h.2⟩
theorem AtW.any {W w w2 : World} {V : VP} {v : Value} (h : AtW W V v w) : AtW W V v w2 := h

/-! ## Three and five results -/
def Tup5 (V0 V1 V2 V3 V4 : VP) : VP := fun v w => ∃ x0 x1 x2 x3 x4, v = .tuple #[x0, x1, x2, x3, x4] ∧ V0 x0 w ∧ V1 x1 w ∧ V2 x2 w ∧ V3 x3 w ∧ V4 x4 w
instance (V0 V1 V2 V3 V4 : VP) [h0 : Stb V0] [h1 : Stb V1] [h2 : Stb V2] [h3 : Stb V3] [h4 : Stb V4] : Stb (Tup5 V0 V1 V2 V3 V4) :=
  ⟨fun _ _ _ hx ⟨x0, x1, x2, x3, x4, e, k0, k1, k2, k3, k4⟩ => ⟨x0, x1, x2, x3, x4, e, h0.st _ _ _ hx k0, h1.st _ _ _ hx k1, h2.st _ _ _ hx k2, h3.st _ _ _ hx k3, h4.st _ _ _ hx k4⟩⟩
section
variable {P : Program} {d : Option Tmp} {ty : TypeId} {pos : String} {af : Array Edge} {gd : Option (Nat × Bool)} {a : Act} {w : World} {x : Operand} {V0 V1 V2 V3 V4 : VP}
end
section
variable {P : Program} {fn : Func} {p q u t0 t1 t2 t3 t4 : Tmp} {rty sty : TypeId} {n m m' : Nat} {V : VP} {w0 w : World} {a : Act} {cs ds : List Value} {D D' : TypeDesc} {β γ B B' : Nat}
end
/-! ## '[]byte("..")' of a constant -/
section
variable {P : Program} {Q : Exit → Act → World → Prop} {ops : Array Oper} {rest : List Oper} {d : Tmp} {t e e9 ty : TypeId} {pos : String} {af : Array Edge} {a : Act} {w : World} {n β B : Nat} {x : Operand} {l : List UInt8}
theorem Qd4 {g : Nat} {cur : Array Value} {m c : Nat} {fz : Nat × Nat} (ht : P.underlying t = some (.slice e)) (he : P.underlying e = some (.int .u8)) (hh : w.heap[g]? = some (.cells cur e9 fz)) :
    ∃ w', (convert t t (.slice (some ⟨g, 0, none⟩) m c)).run P w = .ok (.slice (some ⟨g, 0, none⟩) m c) w' ∧ ChgAt (g + 1) w w' ∧ ∃ fz', w'.heap[g]? = some (.cells cur e9 fz') := by
  have hsh : w.shape? g = some (e9, cur.size) := by unfold World.shape?; rw [hh]
  refine ⟨w.freeze ⟨g, cur.size, none⟩ 1, ?_, ?_, ?_⟩
  · simp [convert, run_underlying ht, run_underlying he, markStringish, hsh]
  · unfold World.freeze
    rw [if_neg (by decide)]
    exact ⟨rfl, rfl, rfl, by simp, fun k hk hne => by
      show (w.heap.modify g _)[k]? = _
      rw [Array.getElem?_modify, if_neg (by omega)]⟩
  · unfold World.freeze
    rw [if_neg (by decide)]
    show ∃ fz', (w.heap.modify g _)[g]? = _
    rw [Array.getElem?_modify, if_pos rfl, hh]
    exact ⟨_, rfl⟩
theorem Qft (hfr : FrD dfs n a) (hd : decide (d < n) = true) (hT : P.underlying t = some (.slice e)) (he : P.underlying e = some (.int .u8)) (hx : OwnBA β B e9 l (a.eval x) w) (hl : (l == []) = false)
    (k : ∀ β' a' w', (β' = β ∨ β' = w.heap.size + 1) → ChgAt β w w' → FrD dfs n a' → Bs l (a'.eval (.tmp d)) w' → Same [d] a a' → wpList P ops Q rest a' w') :
    wpList P ops Q (⟨some d, .convert t t x, ty, pos, af, none⟩ :: rest) a w := by
  have hdn : d < a.tmps.size := by rw [hfr.1]; simpa using hd
  rcases hx.blk with ⟨_, rfl, _⟩ | ⟨g, r, hg, hB, hv, hh, hm⟩
  · simp at hl
  · obtain ⟨w', hrun, hc, fz, hh'⟩ := Qd4 (P := P) (m := l.length) (c := l.length + r.length) hT he hh
    refine wpList_plain rfl fun K hK => ?_
    unfold Oper.wp execOp
    simp only [Sem.run_bind, Result.andThen_ok, hv]
    have hrun' : (Functor.map Next.value (convert t t (.slice (some ⟨g, 0, none⟩) l.length (l.length + r.length)))).run P w = .ok (.value (.slice (some ⟨g, 0, none⟩) l.length (l.length + r.length))) w' := by
      simp [hrun]
    first | rw [hrun'] | simp only [hrun, Result.andThen_ok, Sem.run_pure]
    refine hK _ _ (k β _ w' (.inl rfl) (hg ▸ hc) (Q47 hfr) ?_ Q2x)
    rw [Q41 hdn]
    refine .inr ⟨⟨g, 0, none⟩, l.length + r.length, by simp, by simp, hm, fun i hi => ?_⟩
    have hi2 : i < l.length := by simpa using hi
    refine ⟨Q0t l[i], ?_, by rw [Q26 _ _ _ hi2]; rfl⟩
    rw [Go.WideShapes.add_plain, Nat.zero_add]
    unfold World.cell?
    simp [hh', hi2]
    rw [List.getElem?_append_left (by simpa using hi2)]
    simp [hi2]
end

/-! ## Every order of the rest -/
def Qn (K : Act → World → Prop) (Q : Exit → Act → World → Prop) : Exit → Act → World → Prop
  | .normal, a, w => K a w
  | e, a, w => Q e a w
section
variable {P : Program} {ops : Array Oper} {Q : Exit → Act → World → Prop} {S : World → Prop} {K K' : Act → World → Prop} {a : Act} {w : World} {L : Array Bool} {fuel : Nat}
theorem Qi9 (h : LetsOut (Qn K Q)) : LetsOut Q := h
theorem Qrr {o : Oper} (h : o.wp P a w K (Qn K' Q)) : o.wp P a w K Q := by
  unfold Oper.wp at *
  generalize (execOp a.eval o).run P w = r at *
  cases r with
  | ok n w' =>
    cases n <;> simp only [Oper.upon] at h ⊢ <;>
      first
        | exact h
        | exact Calls.mono h (fun e w'' he => by cases e <;> first | exact he | exact Qi9 he)
  | halt x w' => cases x <;> simp only [Oper.upon] at h ⊢ <;> exact h
theorem Qni {i : Nat} {o : Oper} (hi : ops[i]? = some o) (h : wpList P ops (Qn K Q) [o] a w) : wpOp P ops Q i K a w := by
  unfold wpOp
  rw [hi]
  simp only [wpList] at h ⊢
  split
  · rename_i hw
    rw [if_pos hw] at h
    rcases h with h | h
    · exact .inl (Qrr h)
    · exact .inr ⟨h.1, Qi9 h.2⟩
  · rename_i hw
    rw [if_neg hw] at h
    exact h
theorem Q1x (hS : S w) (h : K a w) : wpList P ops (Qn (fun a w => S w ∧ K a w) Q) [] a w := ⟨hS, h⟩
theorem Q2a {i : Nat} {o : Oper} (hr : (Region.ready .any ops L == [i]) = true) (hi : ops[i]? = some o)
    (h : wpList P ops (Qn (fun a' w' => S w' ∧ wpAnyH P .any ops Q S fuel (L.setIfInBounds i true) a' w') Q) [o] a w) : wpAnyH P .any ops Q S (fuel + 1) L a w :=
  wpAnyH_all (rs := [i]) (by simpa using hr) (by simp) fun j hj => by
    simp only [List.mem_cons, List.not_mem_nil, or_false] at hj
    subst hj
    exact Qni hi h
theorem Q99 {i j : Nat} {o o' : Oper} (hr : (Region.ready .any ops L == [i, j]) = true) (hi : ops[i]? = some o) (hj : ops[j]? = some o')
    (h : wpList P ops (Qn (fun a' w' => S w' ∧ wpAnyH P .any ops Q S fuel (L.setIfInBounds i true) a' w') Q) [o] a w)
    (h' : wpList P ops (Qn (fun a' w' => S w' ∧ wpAnyH P .any ops Q S fuel (L.setIfInBounds j true) a' w') Q) [o'] a w) : wpAnyH P .any ops Q S (fuel + 1) L a w :=
  wpAnyH_all (rs := [i, j]) (by simpa using hr) (by simp) fun k hk => by
    simp only [List.mem_cons, List.not_mem_nil, or_false] at hk
    rcases hk with rfl | rfl
    · exact Qni hi h
    · exact Qni hj h'
end
end Go.Proofs.Ytlmdboaghojgiaa
