import Derived.WalkKit
import Derived.KernelRfl
import Derived.BigQuiet
import Derived.Handy
import Derived.Deep.LoopGhost
/- A region that draws its order: each operation is shown to be fine in every Q00 world, from what is known of the operations that it waits for alone; then every order of the region is fine. -/
namespace Go.Proofs.Ytlmdboaghojgiaa
set_option linter.unusedVariables false
set_option linter.unusedSimpArgs false
open Go.RowKit
variable {dfs : List Deferred}

def Ext (w w' : World) : Prop := Below w.heap.size w w'
theorem Ext.refl (w : World) : Ext w w := Below.refl _ _
theorem Ext.trans {a b c : World} (h : Ext a b) (k : Ext b c) : Ext a c := Below.trans h (Below.mono k h.size)
theorem Ext.below {a w w' : World} {B : Nat} (h : Ext a w) (hB : a.heap.size ≤ B) (k : Below B w w') : Ext a w' := Below.trans h (Below.mono k hB)
theorem Ext.alloc {a w : World} (h : Ext a w) (o : Obj) : Ext a (w.alloc o) := Below.alloc h h.size o
theorem Ext.drew {a w : World} (h : Ext a w) : Ext a w.drew := Below.drew h
theorem Ext.draw1 (w : World) : Ext w { w with drawn := w.drawn + 1 } := Below.drew (Below.refl _ _)
theorem Ext.cell {w w' : World} (h : Ext w w') {a : Addr} {v : Value} (hc : w.cell? a = some v) : w'.cell? a = some v := by
  rw [Below.cell h]; exact hc
  exact block_lt_of_cell hc

abbrev VP := Value → World → Prop
def VP.Stable (V : VP) : Prop := ∀ v w w', Ext w w' → V v w → V v w'
def VP.top : VP := fun _ _ => True

def Qfl (P : Program) (w : World) (V : VP) : Result Next → Prop
  | .ok (.value v) w' => Ext w w' ∧ V v w'
  | .ok .skip w' => Ext w w' ∧ V undef w'
  | .ok (.enter f args) w' => Ext w w' ∧ Calls P f args w' fun e w'' => ∃ v, e = .returned v ∧ Ext w w'' ∧ V v w''
  | _ => False
def OpOk (P : Program) (o : Oper) (a : Act) (w : World) (V : VP) : Prop := Qfl P w V ((execOp a.eval o).run P w)
def Obl (P : Program) (ops : Array Oper) (o : Oper) (a : Act) (w : World) (V : VP) : Prop :=
  if Region.wanted o (yielded ops a.tmps) = true then OpOk P o a w V else V undef w

abbrev Plan := List (List (Tmp × Option Nat))

def Q5y (Vs : List VP) (a0 a : Act) (w : World) : List (Tmp × Option Nat) → Prop
  | [] => True
  | (t, none) :: r => a.eval (.tmp t) = a0.eval (.tmp t) ∧ Q5y Vs a0 a w r
  | (t, some k) :: r => (Vs.getD k VP.top) (a.eval (.tmp t)) w ∧ Q5y Vs a0 a w r

def OpsOk (P : Program) (ops : Array Oper) (a0 : Act) (w0 : World) (Vs : List VP) : List Oper → Plan → List VP → Prop
  | o :: os, p :: ps, V :: Vr => (∀ a w, Ext w0 w → Q5y Vs a0 a w p → Obl P ops o a w V) ∧ OpsOk P ops a0 w0 Vs os ps Vr
  | [], _, _ => True
  | _, _, _ => False

def Q5a : List VP → Prop
  | [] => True
  | V :: r => V.Stable ∧ Q5a r

def Q5h (ops : Array Oper) (B : Array Nat) : Bool :=
  ops.zipIdx.all fun (o, j) =>
    (o.after.all fun e => !Region.binds .any e || decide (e.on < j)) &&
    (List.range ops.size).all fun k => !(B.getD j 0).testBit k || o.after.any fun e => Region.binds .any e && (e.on == k || (B.getD e.on 0).testBit k)

def Qb5 (ops : Array Oper) (n : Nat) : Bool :=
  ops.zipIdx.all fun (o, j) => match o.dst with
    | none => true
    | some t => decide (t < n) && ops.zipIdx.all fun (o', k) => j == k || o'.dst != some t

def Qcv (ops : Array Oper) (B : Array Nat) : Nat → List Oper → Plan → Bool
  | j, _ :: os, p :: ps => (p.all fun x => match x with
      | (t, some k) => ((ops[k]?).bind (·.dst)) == some t && (B.getD j 0).testBit k
      | (t, none) => ops.zipIdx.all fun (o', k) => o'.dst != some t || k == j || (B.getD k 0).testBit j) && Qcv ops B (j + 1) os ps
  | _, [], _ => true
  | _, _, _ => false

def Qgv (ops : Array Oper) (n : Nat) (pl : Plan) : Bool :=
  Q5h ops (Region.before ops) && Qb5 ops n && Qcv ops (Region.before ops) 0 ops.toList pl

section
variable {P : Program} {ops : Array Oper} {Q : Exit → Act → World → Prop}

structure FreeInv (ops : Array Oper) (Vs : List VP) (a0 : Act) (w0 : World) (listed : Array Bool) (a : Act) (w : World) : Prop where
  ext : Ext w0 w
  size : a.tmps.size = a0.tmps.size
  defers : a.defers = a0.defers
  vals : ∀ i o t, ops[i]? = some o → o.dst = some t → listed.getD i false = true → (Vs.getD i VP.top) (a.tmps.getD t undef) w
  rest : ∀ t, (∀ i o, ops[i]? = some o → o.dst = some t → listed.getD i false = false) → a.tmps.getD t undef = a0.tmps.getD t undef
  closed : ∀ j o, ops[j]? = some o → listed.getD j false = true → ∀ e ∈ o.after, Region.binds .any e = true → listed.getD e.on false = true
  lsize : listed.size = ops.size

theorem Q8a {B : Array Nat} (h : Q5h ops B = true) {j : Nat} {o : Oper} (ho : ops[j]? = some o) :
    (∀ e ∈ o.after, Region.binds .any e = true → e.on < j) ∧
    ∀ k, k < ops.size → (B.getD j 0).testBit k = true → ∃ e ∈ o.after, Region.binds .any e = true ∧ (e.on = k ∨ (B.getD e.on 0).testBit k = true) := by
  unfold Q5h at h
  rw [Array.all_eq_true_iff_forall_mem] at h
  have hm := h (o, j) (by rw [Array.mem_zipIdx_iff_getElem?]; exact ho)
  simp only [Bool.and_eq_true, Array.all_eq_true_iff_forall_mem, List.all_eq_true, List.mem_range, Bool.or_eq_true, Bool.not_eq_true', decide_eq_true_eq, Array.any_eq_true'] at hm
  obtain ⟨h1, h2⟩ := hm
  refine ⟨fun e he hb => ?_, fun k hk hb => ?_⟩
  · rcases h1 e he with h | h
    · rw [hb] at h; cases h
    · exact h
  · rcases h2 k hk with h | h
    · rw [hb] at h; cases h
    · obtain ⟨e, he, hx⟩ := h
      refine ⟨e, he, ?_⟩
      simpa using hx

theorem Q3k {B : Array Nat} (hW : Q5h ops B = true) {listed : Array Bool}
    (hc : ∀ j o, ops[j]? = some o → listed.getD j false = true → ∀ e ∈ o.after, Region.binds .any e = true → listed.getD e.on false = true) :
    ∀ (j : Nat) (o : Oper), ops[j]? = some o → (∀ e ∈ o.after, Region.binds .any e = true → listed.getD e.on false = true) →
      ∀ k, k < ops.size → (B.getD j 0).testBit k = true → listed.getD k false = true := by
  intro j
  induction j using Nat.strongRecOn with
  | _ j ih =>
    intro o ho hall k hk hb
    obtain ⟨h1, h2⟩ := Q8a hW ho
    obtain ⟨e, he, heb, hx⟩ := h2 k hk hb
    have hl := hall e he heb
    rcases hx with rfl | hx
    · exact hl
    · have hlt := h1 e he heb
      have hjs : j < ops.size := (Array.getElem?_eq_some_iff.1 ho).1
      obtain ⟨o', ho'⟩ : ∃ o', ops[e.on]? = some o' := ⟨_, Array.getElem?_eq_getElem (by omega)⟩
      exact ih e.on hlt o' ho' (hc _ _ ho' hl) k hk hx

theorem Q6p {n : Nat} (h : Qb5 ops n = true) {j : Nat} {o : Oper} {t : Tmp} (ho : ops[j]? = some o) (hd : o.dst = some t) :
    t < n ∧ ∀ k o', ops[k]? = some o' → o'.dst = some t → k = j := by
  unfold Qb5 at h
  rw [Array.all_eq_true_iff_forall_mem] at h
  have hm := h (o, j) (by rw [Array.mem_zipIdx_iff_getElem?]; exact ho)
  simp only [hd, Bool.and_eq_true, decide_eq_true_eq, Array.all_eq_true_iff_forall_mem] at hm
  refine ⟨hm.1, fun k o' hk hd' => ?_⟩
  have := hm.2 (o', k) (by rw [Array.mem_zipIdx_iff_getElem?]; exact hk)
  simp only [hd', bne_self_eq_false, Bool.or_false, beq_iff_eq] at this
  exact this.symm

theorem Q3l {a : Act} {d t : Tmp} {v : Value} (h : d < a.tmps.size) : (a.put (some d) v).tmps.getD t undef = if t = d then v else a.tmps.getD t undef := by
  simp only [Act.put, Array.getD_eq_getD_getElem?, Array.getElem?_setIfInBounds]
  by_cases e : d = t
  · subst e; simp [h]
  · rw [if_neg e, if_neg (fun h => e h.symm)]

theorem Qfm {Vs : List VP} {a0 a : Act} {w0 w w' : World} {listed : Array Bool} {n i : Nat} {o : Oper} {v : Value}
    (hst : ∀ k, (Vs.getD k VP.top).Stable) (hn : a0.tmps.size = n) (hd : Qb5 ops n = true) (h : FreeInv ops Vs a0 w0 listed a w)
    (hi : i ∈ Region.ready .any ops listed) (ho : ops[i]? = some o) (he : Ext w w') (hv : (Vs.getD i VP.top) v w') :
    FreeInv ops Vs a0 w0 (listed.setIfInBounds i true) (a.put o.dst v) w' := by
  obtain ⟨hun, o1, ho1, hall⟩ := mem_ready.1 hi
  rw [ho] at ho1
  obtain rfl : o = o1 := by simpa using ho1
  have his : i < ops.size := (Array.getElem?_eq_some_iff.1 ho).1
  have hil : i < listed.size := by rw [h.lsize]; exact his
  have hset : ∀ j, (listed.setIfInBounds i true).getD j false = true → j = i ∨ listed.getD j false = true := fun j hj => by
    by_cases e : i = j
    · exact .inl e.symm
    · rw [getD_set_ne false e] at hj; exact .inr hj
  refine ⟨h.ext.trans he, ?_, ?_, fun k o' t hk hdk hl => ?_, fun t ht => ?_, fun j o' hj hl e hm hb => ?_, by simp [h.lsize]⟩
  · rw [← h.size]; cases o.dst <;> simp [Act.put]
  · rw [← h.defers]; cases o.dst <;> rfl
  · rcases hset k hl with rfl | hl'
    · rw [hk] at ho
      obtain rfl : o' = o := by simpa using ho
      rw [hdk, Q3l (by rw [h.size, hn]; exact (Q6p hd hk hdk).1), if_pos rfl]
      exact hv
    · have := hst k _ _ _ he (h.vals k o' t hk hdk hl')
      cases hdo : o.dst with
      | none => exact this
      | some d =>
        have hb := (Q6p hd ho hdo)
        rw [Q3l (by rw [h.size, hn]; exact hb.1)]
        by_cases e : t = d
        · subst e
          obtain rfl := hb.2 k o' hk hdk
          rw [hk] at ho
          obtain rfl : o' = o := by simpa using ho
          rw [if_pos rfl]; exact hv
        · rw [if_neg e]; exact this
  · have hprev := h.rest t (fun k o' hk hdk => by
      have := ht k o' hk hdk
      by_cases e : i = k
      · subst e
        simp only [Array.getD_eq_getD_getElem?, Array.getElem?_setIfInBounds, if_pos, hil] at this
        simp at this
      · rwa [getD_set_ne false e] at this)
    cases hdo : o.dst with
    | none => exact hprev
    | some d =>
      rw [Q3l (by rw [h.size, hn]; exact (Q6p hd ho hdo).1)]
      by_cases e : t = d
      · subst e
        have := ht i o ho hdo
        simp only [Array.getD_eq_getD_getElem?, Array.getElem?_setIfInBounds, if_pos, hil] at this
        simp at this
      · rw [if_neg e]; exact hprev
  · rcases hset j hl with rfl | hl'
    · rw [hj] at ho
      obtain rfl : o' = o := by simpa using ho
      exact getD_set_true (hall e hm hb)
    · exact getD_set_true (h.closed j o' hj hl' e hm hb)

theorem Qcw {B : Array Nat} {Vs : List VP} {a0 a : Act} {w0 w : World} {listed : Array Bool} {j : Nat} {o : Oper} (hW : Q5h ops B = true)
    (h : FreeInv ops Vs a0 w0 listed a w) (ho : ops[j]? = some o) (hun : listed.getD j false = false)
    (hall : ∀ e ∈ o.after, Region.binds .any e = true → listed.getD e.on false = true) : ∀ (p : List (Tmp × Option Nat)),
    (p.all fun x => match x with
      | (t, some k) => ((ops[k]?).bind (·.dst)) == some t && (B.getD j 0).testBit k
      | (t, none) => ops.zipIdx.all fun (o', k) => o'.dst != some t || k == j || (B.getD k 0).testBit j) = true → Q5y Vs a0 a w p := by
  intro p
  induction p with
  | nil => intro _; trivial
  | cons x p ih =>
    intro hp
    rw [List.all_cons, Bool.and_eq_true] at hp
    obtain ⟨h1, h2⟩ := hp
    obtain ⟨t, s⟩ := x
    cases s with
    | none =>
      refine ⟨?_, ih h2⟩
      show a.tmps.getD t undef = a0.tmps.getD t undef
      refine h.rest t fun k o' hk hdk => ?_
      simp only [Array.all_eq_true_iff_forall_mem] at h1
      have := h1 (o', k) (by rw [Array.mem_zipIdx_iff_getElem?]; exact hk)
      simp only [hdk, bne_self_eq_false, Bool.false_or, Bool.or_eq_true, beq_iff_eq] at this
      rcases this with rfl | hb
      · exact hun
      · cases hl : listed.getD k false with
        | false => rfl
        | true =>
          have := Q3k hW h.closed k o' hk (h.closed k o' hk hl) j ((Array.getElem?_eq_some_iff.1 ho).1) hb
          rw [hun] at this; cases this
    | some k =>
      simp only [Bool.and_eq_true, beq_iff_eq] at h1
      obtain ⟨hd, hb⟩ := h1
      obtain ⟨o', hk, hdk⟩ : ∃ o', ops[k]? = some o' ∧ o'.dst = some t := by
        cases hk : ops[k]? with
        | none => rw [hk] at hd; cases hd
        | some o' => rw [hk] at hd; exact ⟨o', rfl, hd⟩
      refine ⟨h.vals k o' t hk hdk ?_, ih h2⟩
      exact Q3k hW h.closed j o ho hall k ((Array.getElem?_eq_some_iff.1 hk).1) hb

theorem Qfn {a0 : Act} {w0 : World} {Vs : List VP} {B : Array Nat} : ∀ (l : List Oper) (pl : Plan) (Vr : List VP) (s : Nat),
    OpsOk P ops a0 w0 Vs l pl Vr → Qcv ops B s l pl = true → ∀ j o, l[j]? = some o → ∃ p,
      (p.all fun x => match x with
        | (t, some k) => ((ops[k]?).bind (·.dst)) == some t && (B.getD (s + j) 0).testBit k
        | (t, none) => ops.zipIdx.all fun (o', k) => o'.dst != some t || k == (s + j) || (B.getD k 0).testBit (s + j)) = true ∧
      ∀ a w, Ext w0 w → Q5y Vs a0 a w p → Obl P ops o a w (Vr.getD j VP.top) := by
  intro l
  induction l with
  | nil => intro pl Vr s _ _ j o hj; simp at hj
  | cons o1 l ih =>
    intro pl Vr s h hp j o hj
    cases pl with
    | nil => simp [Qcv] at hp
    | cons p pl =>
      cases Vr with
      | nil => exact h.elim
      | cons V Vr =>
        unfold Qcv at hp
        rw [Bool.and_eq_true] at hp
        cases j with
        | zero =>
          obtain rfl : o1 = o := by simpa using hj
          exact ⟨p, hp.1, h.1⟩
        | succ j =>
          obtain ⟨q, hq, hr⟩ := ih pl Vr (s + 1) h.2 hp.2 j o (by simpa using hj)
          refine ⟨q, ?_, ?_⟩
          · rw [show s + (j + 1) = s + 1 + j from by omega]; exact hq
          · simpa using hr

theorem Q7d : ∀ (Vs : List VP), Q5a Vs → ∀ k, (Vs.getD k VP.top).Stable
  | [], _, _ => by simp; intro _ _ _ _ _; trivial
  | V :: Vs, h, 0 => by simpa using h.1
  | V :: Vs, h, k + 1 => by simpa using Q7d Vs h.2 k

def Q3d (listed : Array Bool) : Nat := listed.toList.count false

theorem Q4t {listed : Array Bool} {i : Nat} (hi : i < listed.size) (h : listed.getD i true = false) : Q3d (listed.setIfInBounds i true) + 1 = Q3d listed := by
  unfold Q3d
  have hb : listed.toList[i]'(by simpa using hi) = false := by simpa [hi] using h
  have hpos : 0 < listed.toList.count false := List.count_pos_iff.2 (by rw [← hb]; exact List.getElem_mem _)
  rw [Array.toList_setIfInBounds, List.count_set (by simpa using hi), hb]
  simp only [beq_self_eq_true, if_true, show (true == false) = false from rfl, Bool.false_eq_true, if_false]
  omega

theorem Q8b {listed : Array Bool} (h : Q3d listed = 0) (i : Nat) : listed.getD i true = true := by
  rcases Nat.lt_or_ge i listed.size with hi | hi
  · cases hb : listed.getD i true with
    | true => rfl
    | false => have := Q4t hi hb; omega
  · simp [Array.getElem?_eq_none hi]

theorem Q5i {B : Array Nat} (hW : Q5h ops B = true) {listed : Array Bool} (hr : Region.ready .any ops listed = []) : ∀ i, i < ops.size → listed.getD i true = true := by
  intro i
  induction i using Nat.strongRecOn with
  | _ i ih =>
    intro hi
    cases hb : listed.getD i true with
    | true => rfl
    | false =>
      exfalso
      have ho : ops[i]? = some ops[i] := Array.getElem?_eq_getElem hi
      have : i ∈ Region.ready .any ops listed := mem_ready.2 ⟨hb, _, ho, fun e he heb => by
        have hlt := (Q8a hW ho).1 e he heb
        have h1 := ih e.on hlt (by omega)
        have hls : i < listed.size := by
          rcases Nat.lt_or_ge i listed.size with h | h
          · exact h
          · simp [Array.getElem?_eq_none h] at hb
        have hl : e.on < listed.size := by omega
        simp only [Array.getD_eq_getD_getElem?, Array.getElem?_eq_getElem hl, Option.getD_some] at h1 ⊢
        exact h1⟩
      rw [hr] at this; cases this

theorem Qbm {Vs : List VP} {a0 : Act} {w0 : World} {n : Nat} {pl : Plan} (hn : a0.tmps.size = n) (hB : Qgv ops n pl = true) (hst : Q5a Vs)
    (hops : OpsOk P ops a0 w0 Vs ops.toList pl Vs)
    (hend : ∀ a w listed, FreeInv ops Vs a0 w0 listed a w → (∀ i, i < ops.size → listed.getD i true = true) → Q .normal a w) :
    ∀ (fuel : Nat) (listed : Array Bool) (a : Act) (w : World), FreeInv ops Vs a0 w0 listed a w → Q3d listed ≤ fuel → wpAny P .any ops Q fuel listed a w := by
  unfold Qgv at hB
  simp only [Bool.and_eq_true] at hB
  obtain ⟨⟨hW, hD⟩, hP⟩ := hB
  intro fuel
  induction fuel with
  | zero =>
    intro listed a w h hu
    have ha := Q8b (Nat.le_zero.1 hu)
    refine ⟨?_, hend a w listed h fun i _ => ha i⟩
    cases hr : Region.ready .any ops listed with
    | nil => rfl
    | cons i l =>
      have : i ∈ Region.ready .any ops listed := by rw [hr]; exact List.mem_cons_self
      have := (mem_ready.1 this).1
      rw [ha i] at this; cases this
  | succ fuel ih =>
    intro listed a w h hu
    refine ⟨fun hr => hend a w listed h (Q5i hW hr), fun i hi => ?_⟩
    obtain ⟨hun, o, ho, hall⟩ := mem_ready.1 hi
    have his : i < ops.size := (Array.getElem?_eq_some_iff.1 ho).1
    have hil : i < listed.size := by rw [h.lsize]; exact his
    have hun' : listed.getD i false = false := by
      simp only [Array.getD_eq_getD_getElem?, Array.getElem?_eq_getElem hil, Option.getD_some] at hun ⊢
      exact hun
    have hu' : Q3d (listed.setIfInBounds i true) ≤ fuel := by have := Q4t hil hun; omega
    obtain ⟨p, hp, hobl⟩ := Qfn (B := Region.before ops) ops.toList pl Vs 0 hops hP i o (by simpa using ho)
    simp only [Nat.zero_add] at hp
    have hf := Qcw hW h ho hun' hall p hp
    have hob := hobl a w h.ext hf
    have next : ∀ v w', Ext w w' → (Vs.getD i VP.top) v w' → wpAny P .any ops Q fuel (listed.setIfInBounds i true) (a.put o.dst v) w' :=
      fun v w' he hv => ih _ _ _ (Qfm (Q7d Vs hst) hn hD h hi ho he hv) hu'
    unfold wpOp
    simp only [ho]
    unfold Obl at hob
    split
    · rename_i hw
      rw [if_pos hw] at hob
      left
      unfold OpOk at hob
      unfold Oper.wp
      generalize (execOp a.eval o).run P w = r at hob
      cases r with
      | halt x w' => exact hob.elim
      | ok nx w' =>
        cases nx <;> first | exact hob.elim | skip
        case value v => exact next v w' hob.1 hob.2
        case skip => exact next undef w' hob.1 hob.2
        case enter f args =>
          exact hob.2.mono fun e w'' ⟨v, he, hx, hv⟩ => by subst he; exact next v w'' hx hv
    · rename_i hw
      rw [if_neg hw] at hob
      exact next undef w (Ext.refl _) hob

end

/-! ## Frames -/

def FrD (dfs : List Deferred) (n : Nat) (a : Act) : Prop := a.tmps.size = n ∧ a.defers = dfs
abbrev Fr (n : Nat) (a : Act) : Prop := FrD [] n a
def Same (ds : List Tmp) (a a' : Act) : Prop := ∀ t, ds.contains t = false → a'.eval (.tmp t) = a.eval (.tmp t)
def Qcx (l : List Oper) : List Tmp := l.filterMap (·.dst)
def Q97 (l : List Oper) (Vs : List VP) (a : Act) (w : World) : Prop := ∀ i t, (l[i]?).bind (·.dst) = some t → (Vs.getD i VP.top) (a.eval (.tmp t)) w
theorem fa (V : VP) (a : Act) (w : World) (t : Tmp) (h : V (a.eval (.tmp t)) w) : V (a.eval (.tmp t)) w := h

class Stb (V : VP) : Prop where
  st : V.Stable
class StbAll (Vs : List VP) : Prop where
  st : Q5a Vs
instance : StbAll [] := ⟨trivial⟩
instance {V : VP} {Vs : List VP} [h : Stb V] [k : StbAll Vs] : StbAll (V :: Vs) := ⟨⟨h.st, k.st⟩⟩

theorem Q9h : StbAll [] := ⟨trivial⟩
theorem Q7e {V : VP} {Vs : List VP} [h : Stb V] (k : StbAll Vs) : StbAll (V :: Vs) := ⟨⟨h.st, k.st⟩⟩
theorem OpsOk.cons {P : Program} {ops : Array Oper} {a0 : Act} {w0 : World} {Vs : List VP} {o : Oper} {os : List Oper} {p : List (Tmp × Option Nat)} {ps : Plan} {V : VP} {Vr : List VP}
    (h : ∀ a w, Ext w0 w → Q5y Vs a0 a w p → Obl P ops o a w V) (k : OpsOk P ops a0 w0 Vs os ps Vr) : OpsOk P ops a0 w0 Vs (o :: os) (p :: ps) (V :: Vr) := ⟨h, k⟩
theorem onn {P : Program} {ops : Array Oper} {a0 : Act} {w0 : World} {Vs : List VP} : OpsOk P ops a0 w0 Vs [] [] [] := trivial
theorem OpsOk.nil {P : Program} {ops : Array Oper} {a0 : Act} {w0 : World} {Vs : List VP} : OpsOk P ops a0 w0 Vs [] [] [] := trivial

section
variable {P : Program} {Q : Exit → Act → World → Prop}

theorem Q7f {ops : Array Oper} {Vs : List VP} {a0 : Act} {w0 w : World} (h : Ext w0 w) : FreeInv ops Vs a0 w0 (Array.replicate ops.size false) a0 w := by
  have hno : ∀ i, (Array.replicate ops.size false).getD i false = false := fun i => by
    simp only [Array.getD_eq_getD_getElem?, Array.getElem?_replicate]; split <;> rfl
  exact ⟨h, rfl, rfl, fun i o t _ _ hl => (by rw [hno i] at hl; cases hl), fun _ _ => rfl, fun j o _ hl => (by rw [hno j] at hl; cases hl), by simp⟩

theorem Qcy {l : List Oper} {Vs : List VP} {a0 a : Act} {w0 w : World} {listed : Array Bool} (h : FreeInv l.toArray Vs a0 w0 listed a w)
    (hall : ∀ i, i < l.toArray.size → listed.getD i true = true) : Q97 l Vs a w ∧ Same (Qcx l) a0 a := by
  have hget : ∀ j : Nat, l[j]? = l.toArray[j]? := fun j => by simp
  refine ⟨fun i t hi => ?_, fun t ht => ?_⟩
  · cases ho : l[i]? with
    | none => rw [ho] at hi; cases hi
    | some o =>
      rw [ho] at hi
      have ho' : l.toArray[i]? = some o := by rw [← hget]; exact ho
      refine h.vals i o t ho' hi ?_
      have hjs := (Array.getElem?_eq_some_iff.1 ho').1
      have hl : i < listed.size := by rw [h.lsize]; exact hjs
      have := hall i hjs
      simp only [Array.getD_eq_getD_getElem?, Array.getElem?_eq_getElem hl, Option.getD_some] at this ⊢
      exact this
  · refine h.rest t fun i o ho hd => ?_
    exfalso
    have hol : l[i]? = some o := by rw [hget]; exact ho
    have hm : t ∈ Qcx l := List.mem_filterMap.2 ⟨o, List.mem_of_getElem? hol, hd⟩
    rw [← List.contains_iff_mem] at hm
    rw [hm] at ht; cases ht

theorem Qav {l : List Oper} {a0 : Act} {w0 : World} {n : Nat} {pl : Plan} {Vs : List VP} {rest : List Oper} {ops : Array Oper} (hB : Qgv l.toArray n pl = true) (hn : a0.tmps.size = n)
    (hst : Q5a Vs) (hops : OpsOk P l.toArray a0 w0 Vs l pl Vs) (hpre : ∀ j : Nat, j < l.length → ∀ a : Act, yielded ops a.tmps j = yielded l.toArray a.tmps j)
    (hg : ∀ (o : Oper) g b, o ∈ l → o.guard = some (g, b) → g < l.length)
    (hend : ∀ a w, Ext w0 w → a.tmps.size = a0.tmps.size → a.defers = a0.defers → Q97 l Vs a w → Same (Qcx l) a0 a → wpList P ops Q rest a w) :
    ∀ (m : List Oper) (j : Nat) (listed : Array Bool) (a : Act) (w : World), l.drop j = m → FreeInv l.toArray Vs a0 w0 listed a w → (∀ i, i < l.toArray.size → listed.getD i false = decide (i < j)) → wpList P ops Q (m ++ rest) a w := by
  have hB' := hB
  unfold Qgv at hB'
  simp only [Bool.and_eq_true] at hB'
  obtain ⟨⟨hW, hD⟩, hP⟩ := hB'
  intro m
  induction m with
  | nil =>
    intro j listed a w hj h hl
    have hjl : l.length ≤ j := List.drop_eq_nil_iff.1 hj
    obtain ⟨h1, h2⟩ := Qcy h (fun i hi => by
      have hli : i < listed.size := by rw [h.lsize]; exact hi
      have h3 := hl i hi
      simp only [List.size_toArray] at hi
      rw [decide_eq_true (by omega)] at h3
      simp only [Array.getD_eq_getD_getElem?, Array.getElem?_eq_getElem hli, Option.getD_some] at h3 ⊢
      exact h3)
    exact hend a w h.ext h.size h.defers h1 h2
  | cons o m ih =>
    intro j listed a w hj h hl
    have hjl : j < l.length := by
      rcases Nat.lt_or_ge j l.length with h | h
      · exact h
      · rw [List.drop_eq_nil_iff.2 h] at hj; cases hj
    have ho : l.toArray[j]? = some o := by
      have : (l.drop j)[0]? = some o := by rw [hj]; rfl
      simpa using this
    have hmem : o ∈ l := List.mem_of_getElem? (by simpa using ho)
    have hjs : j < l.toArray.size := by simpa using hjl
    have hli : j < listed.size := by rw [h.lsize]; exact hjs
    have hun : listed.getD j false = false := by rw [hl j hjs]; simp
    have hun' : listed.getD j true = false := by
      simp only [Array.getD_eq_getD_getElem?, Array.getElem?_eq_getElem hli, Option.getD_some] at hun ⊢
      exact hun
    have hall : ∀ e ∈ o.after, Region.binds .any e = true → listed.getD e.on false = true := fun e he hb => by
      have := (Q8a hW ho).1 e he hb
      rw [hl e.on (by omega)]; simpa using this
    have hi : j ∈ Region.ready .any l.toArray listed := mem_ready.2 ⟨hun', o, ho, hall⟩
    obtain ⟨p, hp, hobl⟩ := Qfn (B := Region.before l.toArray) l pl Vs 0 hops hP j o (by simpa using ho)
    simp only [Nat.zero_add] at hp
    have hob := hobl a w h.ext (Qcw hW h ho hun hall p hp)
    have next : ∀ v w', Ext w w' → (Vs.getD j VP.top) v w' → wpList P ops Q (m ++ rest) (a.put o.dst v) w' := fun v w' he hv => by
      refine ih (j + 1) _ _ _ (by rw [← List.drop_drop, hj]; rfl) (Qfm (Q7d Vs hst) hn hD h hi ho he hv) fun i hi' => ?_
      by_cases e : i = j
      · subst e
        have : (listed.setIfInBounds i true).getD i false = true := by simp [hli]
        rw [this]; simp
      · rw [getD_set_ne false (fun h => e h.symm), hl i hi']
        have : (i < j) ↔ (i < j + 1) := by omega
        simp [this]
    have hwant : Region.wanted o (yielded ops a.tmps) = Region.wanted o (yielded l.toArray a.tmps) := by
      unfold Region.wanted
      cases hgu : o.guard with
      | none => rfl
      | some g => obtain ⟨g, b⟩ := g; simp only []; rw [hpre g (hg o g b hmem hgu)]
    show wpList P ops Q (o :: (m ++ rest)) a w
    unfold wpList
    rw [hwant]
    unfold Obl at hob
    split
    · rename_i hw
      rw [if_pos hw] at hob
      left
      unfold OpOk at hob
      unfold Oper.wp
      generalize (execOp a.eval o).run P w = r at hob
      cases r with
      | halt x w' => exact hob.elim
      | ok nx w' =>
        cases nx <;> first | exact hob.elim | skip
        case value v => exact next v w' hob.1 hob.2
        case skip => exact next undef w' hob.1 hob.2
        case enter f args => exact hob.2.mono fun e w'' ⟨v, he, hx, hv⟩ => by subst he; exact next v w'' hx hv
    · rename_i hw
      rw [if_neg hw] at hob
      exact next undef w (Ext.refl _) hob

def Qbn (l : List Oper) : Bool := l.all fun o => match o.guard with | none => true | some (g, _) => decide (g < l.length)

theorem Q06 {id : Nat} {l rest : List Oper} {a : Act} {w : World} (n : Nat) (pl : Plan) (Vs : List VP) (hfr : FrD dfs n a) (hst : StbAll Vs)
    (hops : OpsOk P l.toArray a w Vs l pl Vs)
    (hend : ∀ a' w', Ext w w' → FrD dfs n a' → Q97 l Vs a' w' → Same (Qcx l) a a' → wpList P (l ++ rest).toArray Q rest a' w') (hB : Qgv l.toArray n pl = true := by kernel_rfl) (hgd : Qbn l = true := by kernel_rfl) : (Code.region id (l ++ rest).toArray false).wp P Q a w := by
  refine wp_region_lit ?_
  refine Qav hB hfr.1 hst.st hops (fun j hj a' => ?_) (fun o g b ho hg => ?_) (fun a' w' hx h1 h2 h3 h4 => hend a' w' hx ⟨h1.trans hfr.1, h2.trans hfr.2⟩ h3 h4) l 0 _ a w rfl (Q7f (Ext.refl w)) (fun i hi => ?_)
  · unfold yielded
    rw [show (l ++ rest).toArray[j]? = l.toArray[j]? from by simp [List.getElem?_append_left hj]]
  · unfold Qbn at hgd
    rw [List.all_eq_true] at hgd
    have := hgd o ho
    rw [hg] at this
    simpa using this
  · simp only [Array.getD_eq_getD_getElem?, Array.getElem?_replicate]
    split <;> simp

theorem Q04 {id : Nat} {l : List Oper} {d : Bool} {a : Act} {w : World} (n : Nat) (pl : Plan) (Vs : List VP) (hm : P.follows .mixedOrders = true) (hfr : FrD dfs n a) (hst : StbAll Vs)
    (hops : OpsOk P l.toArray a w Vs l pl Vs)
    (hend : ∀ a' w', Ext w w' → FrD dfs n a' → Q97 l Vs a' w' → Same (Qcx l) a a' → Q .normal a' w') (hB : Qgv l.toArray n pl = true := by kernel_rfl) (hgd : Qbn l = true := by kernel_rfl) : (Code.region id l.toArray d).wp P Q a w := by
  cases d with
  | true =>
    refine wp_region_any hm ?_
    refine Qbm (w0 := w) hfr.1 hB hst.st hops (fun a' w' listed h hall => ?_) _ _ _ _ (Q7f (Ext.draw1 w)) (by unfold Q3d; simp)
    obtain ⟨h1, h2⟩ := Qcy h hall
    exact hend a' w' h.ext ⟨h.size.trans hfr.1, h.defers.trans hfr.2⟩ h1 h2
  | false =>
    have := Q06 (P := P) (Q := Q) (id := id) (rest := []) n pl Vs hfr hst hops (fun a' w' hx h1 h2 h3 => wpList_nil (hend a' w' hx h1 h2 h3)) hB hgd
    simpa using this

theorem keep {V : VP} {ds : List Tmp} {a a' : Act} {w w' : World} [h : Stb V] (hx : Ext w w') (hs : Same ds a a') {t : Tmp} (s : V (a.eval (.tmp t)) w) (ht : ds.contains t = false) : V (a'.eval (.tmp t)) w' := by
  rw [hs t ht]; exact h.st _ _ _ hx s
theorem Q00 {V : VP} {v : Value} {w w' : World} [h : Stb V] (hx : Ext w w') (s : V v w) : V v w' := h.st _ _ _ hx s
theorem et {K : Act → World → Prop} {a : Act} {w : World} (h : K a w) : Exit.then K Q .normal a w := h
theorem Q0e {K : Act → World → Prop} {a : Act} {w : World} (h : Q .ret a w) : Exit.then K Q .ret a w := h
theorem Q0g {K : Act → World → Prop} {i : Nat} {a : Act} {w : World} (h : Q (.exit i) a w) : Exit.then K Q (.exit i) a w := h
theorem Q0x {i : Nat} {a : Act} {w : World} (h : Q .normal a w) : Exit.inBlock i Q .normal a w := h
theorem Q1t {i : Nat} {a : Act} {w : World} (h : Q .ret a w) : Exit.inBlock i Q .ret a w := h
theorem Q1a {i : Nat} {a : Act} {w : World} (h : Q .normal a w) : Exit.inBlock i Q (.exit i) a w := by simp only [Exit.inBlock, if_true]; exact h
theorem Q6q {i j : Nat} {a : Act} {w : World} (hn : (j == i) = false) (h : Q (.exit j) a w) : Exit.inBlock i Q (.exit j) a w := by
  simp only [Exit.inBlock]; rw [if_neg (by simpa using hn)]; exact h

/-! ## Contracts -/

def Ret (V : VP) (w : World) : Ending → World → Prop := fun e w' => ∃ v, e = .returned v ∧ Ext w w' ∧ V v w'

theorem enter {f : FuncId} {fn : Func} {c : Code} {args : Array Value} {w : World} {R : Ending → World → Prop} (hf : P.funcs[f]? = some fn) (hb : fn.body = some c) {n k : Nat} (hn : fn.ntmps = n) (hk : args.size = k) (hkn : k ≤ n)
    (h : ∀ a : Act, Fr n a → (∀ i, i < k → a.eval (.tmp i) = args.getD i undef) → c.wp P (bodyPost P fn R) a w) : Calls P f args w R := by
  refine calls_of_wp hf hb (h _ ⟨by simp [hn, hk]; omega, rfl⟩ fun i hi => ?_)
  show (args ++ Array.replicate (fn.ntmps - args.size) undef).getD i undef = _
  simp only [Array.getD_eq_getD_getElem?]
  rw [Array.getElem?_append_left (by omega)]

theorem Q0r {fn : Func} {t : Tmp} {n : Nat} {V : VP} {w0 : World} {a : Act} {w : World} (hr : fn.results = #[.tmp t]) (hfr : Fr n a) (hx : Ext w0 w) (hv : V (a.eval (.tmp t)) w) : bodyPost P fn (Ret V w0) .ret a w :=
  ⟨hfr.2, _, results_tmp hr _ _ _, _, rfl, hx, hv⟩
theorem Q7g {fn : Func} {t u : Tmp} {n : Nat} {V : VP} {w0 : World} {a : Act} {w : World} (hr : fn.results = #[.tmp t, .tmp u]) (hfr : Fr n a) (hx : Ext w0 w) (hv : V (.tuple #[a.eval (.tmp t), a.eval (.tmp u)]) w) : bodyPost P fn (Ret V w0) .ret a w :=
  ⟨hfr.2, _, results_tmp2 hr _ _ _, _, rfl, hx, hv⟩

theorem Q33 {x : Code} {a : Act} {w : World} {K : Act → World → Prop} (R : Act → World → Prop) (hx : x.wp P (Exit.then R Q) a w) (hy : ∀ a w, R a w → K a w) : x.wp P (Exit.then K Q) a w :=
  wp_mono hx fun e a' w' h => by cases e <;> first | exact hy _ _ h | exact h

theorem Q14 {c : Code} {a : Act} {w : World} (I : Nat → Act → World → Prop) (h₀ : ∃ n₀, I n₀ a w)
    (round : ∀ n a w, I n a w → c.wp P (Exit.then (fun a' w' => ∃ n', n' < n ∧ I n' a' w') Q) a w) : (Code.loop c).wp P Q a w := let ⟨n₀, h⟩ := h₀; wp_loop_ghost I n₀ h round

theorem sarg {V : VP} {x : Value} {a : Act} {y : Operand} {w : World} (h : V x w) (e : a.eval y = x) : V (a.eval y) w := by rw [e]; exact h
theorem Same.refl {ds : List Tmp} {a : Act} : Same ds a a := fun _ _ => rfl
theorem Same.trans {ds es fs : List Tmp} {a b c : Act} (h : Same ds a b) (k : Same es b c) (hs : (ds.all fun t => fs.contains t) = true) (ht : (es.all fun t => fs.contains t) = true) : Same fs a c := fun t hn => by
  have hd : ds.contains t = false := by
    cases hc : ds.contains t with
    | false => rfl
    | true => rw [List.contains_iff_mem] at hc; have := List.all_eq_true.1 hs t hc; rw [hn] at this; cases this
  have he : es.contains t = false := by
    cases hc : es.contains t with
    | false => rfl
    | true => rw [List.contains_iff_mem] at hc; have := List.all_eq_true.1 ht t hc; rw [hn] at this; cases this
  rw [k t he, h t hd]

/-! Facts carried from a frame to a Q00 one, in the goal's own premises. -/
theorem kp1 {G : Prop} {V0 : VP} {u0 : World} {t0 : Tmp} {ds : List Tmp} {a a' : Act} (hs : Same ds a a') (ht : (!ds.contains t0) = true) (k : V0 (a'.eval (.tmp t0)) u0 → G) : V0 (a.eval (.tmp t0)) u0 → G := fun h0 => by
  simp only [Bool.not_eq_true'] at ht
  have e0 := ht
  exact k (by rw [hs _ e0]; exact h0)
theorem kp2 {G : Prop} {V0 V1 : VP} {u0 u1 : World} {t0 t1 : Tmp} {ds : List Tmp} {a a' : Act} (hs : Same ds a a') (ht : (!ds.contains t0 && !ds.contains t1) = true) (k : V0 (a'.eval (.tmp t0)) u0 → V1 (a'.eval (.tmp t1)) u1 → G) : V0 (a.eval (.tmp t0)) u0 → V1 (a.eval (.tmp t1)) u1 → G := fun h0 h1 => by
  simp only [Bool.and_eq_true, Bool.not_eq_true'] at ht
  obtain ⟨e0, e1⟩ := ht
  exact k (by rw [hs _ e0]; exact h0) (by rw [hs _ e1]; exact h1)
theorem kp3 {G : Prop} {V0 V1 V2 : VP} {u0 u1 u2 : World} {t0 t1 t2 : Tmp} {ds : List Tmp} {a a' : Act} (hs : Same ds a a') (ht : (!ds.contains t0 && !ds.contains t1 && !ds.contains t2) = true) (k : V0 (a'.eval (.tmp t0)) u0 → V1 (a'.eval (.tmp t1)) u1 → V2 (a'.eval (.tmp t2)) u2 → G) : V0 (a.eval (.tmp t0)) u0 → V1 (a.eval (.tmp t1)) u1 → V2 (a.eval (.tmp t2)) u2 → G := fun h0 h1 h2 => by
  simp only [Bool.and_eq_true, Bool.not_eq_true'] at ht
  obtain ⟨⟨e0, e1⟩, e2⟩ := ht
  exact k (by rw [hs _ e0]; exact h0) (by rw [hs _ e1]; exact h1) (by rw [hs _ e2]; exact h2)
theorem kp4 {G : Prop} {V0 V1 V2 V3 : VP} {u0 u1 u2 u3 : World} {t0 t1 t2 t3 : Tmp} {ds : List Tmp} {a a' : Act} (hs : Same ds a a') (ht : (!ds.contains t0 && !ds.contains t1 && !ds.contains t2 && !ds.contains t3) = true) (k : V0 (a'.eval (.tmp t0)) u0 → V1 (a'.eval (.tmp t1)) u1 → V2 (a'.eval (.tmp t2)) u2 → V3 (a'.eval (.tmp t3)) u3 → G) : V0 (a.eval (.tmp t0)) u0 → V1 (a.eval (.tmp t1)) u1 → V2 (a.eval (.tmp t2)) u2 → V3 (a.eval (.tmp t3)) u3 → G := fun h0 h1 h2 h3 => by
  simp only [Bool.and_eq_true, Bool.not_eq_true'] at ht
  obtain ⟨⟨⟨e0, e1⟩, e2⟩, e3⟩ := ht
  exact k (by rw [hs _ e0]; exact h0) (by rw [hs _ e1]; exact h1) (by rw [hs _ e2]; exact h2) (by rw [hs _ e3]; exact h3)
theorem kp5 {G : Prop} {V0 V1 V2 V3 V4 : VP} {u0 u1 u2 u3 u4 : World} {t0 t1 t2 t3 t4 : Tmp} {ds : List Tmp} {a a' : Act} (hs : Same ds a a') (ht : (!ds.contains t0 && !ds.contains t1 && !ds.contains t2 && !ds.contains t3 && !ds.contains t4) = true) (k : V0 (a'.eval (.tmp t0)) u0 → V1 (a'.eval (.tmp t1)) u1 → V2 (a'.eval (.tmp t2)) u2 → V3 (a'.eval (.tmp t3)) u3 → V4 (a'.eval (.tmp t4)) u4 → G) : V0 (a.eval (.tmp t0)) u0 → V1 (a.eval (.tmp t1)) u1 → V2 (a.eval (.tmp t2)) u2 → V3 (a.eval (.tmp t3)) u3 → V4 (a.eval (.tmp t4)) u4 → G := fun h0 h1 h2 h3 h4 => by
  simp only [Bool.and_eq_true, Bool.not_eq_true'] at ht
  obtain ⟨⟨⟨⟨e0, e1⟩, e2⟩, e3⟩, e4⟩ := ht
  exact k (by rw [hs _ e0]; exact h0) (by rw [hs _ e1]; exact h1) (by rw [hs _ e2]; exact h2) (by rw [hs _ e3]; exact h3) (by rw [hs _ e4]; exact h4)
theorem kp6 {G : Prop} {V0 V1 V2 V3 V4 V5 : VP} {u0 u1 u2 u3 u4 u5 : World} {t0 t1 t2 t3 t4 t5 : Tmp} {ds : List Tmp} {a a' : Act} (hs : Same ds a a') (ht : (!ds.contains t0 && !ds.contains t1 && !ds.contains t2 && !ds.contains t3 && !ds.contains t4 && !ds.contains t5) = true) (k : V0 (a'.eval (.tmp t0)) u0 → V1 (a'.eval (.tmp t1)) u1 → V2 (a'.eval (.tmp t2)) u2 → V3 (a'.eval (.tmp t3)) u3 → V4 (a'.eval (.tmp t4)) u4 → V5 (a'.eval (.tmp t5)) u5 → G) : V0 (a.eval (.tmp t0)) u0 → V1 (a.eval (.tmp t1)) u1 → V2 (a.eval (.tmp t2)) u2 → V3 (a.eval (.tmp t3)) u3 → V4 (a.eval (.tmp t4)) u4 → V5 (a.eval (.tmp t5)) u5 → G := fun h0 h1 h2 h3 h4 h5 => by
  simp only [Bool.and_eq_true, Bool.not_eq_true'] at ht
  obtain ⟨⟨⟨⟨⟨e0, e1⟩, e2⟩, e3⟩, e4⟩, e5⟩ := ht
  exact k (by rw [hs _ e0]; exact h0) (by rw [hs _ e1]; exact h1) (by rw [hs _ e2]; exact h2) (by rw [hs _ e3]; exact h3) (by rw [hs _ e4]; exact h4) (by rw [hs _ e5]; exact h5)

theorem Same.tr {ds es : List Tmp} {a b c : Act} (h : Same ds a b) (k : Same es b c) (ht : (es.all fun t => ds.contains t) = true) : Same ds a c := fun t hn => by
  have he : es.contains t = false := by
    cases hc : es.contains t with
    | false => rfl
    | true => rw [List.contains_iff_mem] at hc; have := List.all_eq_true.1 ht t hc; rw [hn] at this; cases this
  rw [k t he, h t hn]
theorem Same.rfl {ds : List Tmp} {a : Act} : Same ds a a := Same.refl
theorem q0 (V : VP) (a : Act) (w : World) (t : Tmp) {r : Prop} (h : V (a.eval (.tmp t)) w ∧ r) : V (a.eval (.tmp t)) w := h.1
theorem r0 {q r : Prop} (h : q ∧ r) : q := h.1
theorem q1 (V : VP) (a : Act) (w : World) (t : Tmp) {p0 r : Prop} (h : p0 ∧ V (a.eval (.tmp t)) w ∧ r) : V (a.eval (.tmp t)) w := h.2.1
theorem r1 {p0 q r : Prop} (h : p0 ∧ q ∧ r) : q := h.2.1
theorem q2 (V : VP) (a : Act) (w : World) (t : Tmp) {p0 p1 r : Prop} (h : p0 ∧ p1 ∧ V (a.eval (.tmp t)) w ∧ r) : V (a.eval (.tmp t)) w := h.2.2.1
theorem r2 {p0 p1 q r : Prop} (h : p0 ∧ p1 ∧ q ∧ r) : q := h.2.2.1
theorem q3 (V : VP) (a : Act) (w : World) (t : Tmp) {p0 p1 p2 r : Prop} (h : p0 ∧ p1 ∧ p2 ∧ V (a.eval (.tmp t)) w ∧ r) : V (a.eval (.tmp t)) w := h.2.2.2.1
theorem r3 {p0 p1 p2 q r : Prop} (h : p0 ∧ p1 ∧ p2 ∧ q ∧ r) : q := h.2.2.2.1
theorem q4 (V : VP) (a : Act) (w : World) (t : Tmp) {p0 p1 p2 p3 r : Prop} (h : p0 ∧ p1 ∧ p2 ∧ p3 ∧ V (a.eval (.tmp t)) w ∧ r) : V (a.eval (.tmp t)) w := h.2.2.2.2.1
theorem r4 {p0 p1 p2 p3 q r : Prop} (h : p0 ∧ p1 ∧ p2 ∧ p3 ∧ q ∧ r) : q := h.2.2.2.2.1
theorem q5 (V : VP) (a : Act) (w : World) (t : Tmp) {p0 p1 p2 p3 p4 r : Prop} (h : p0 ∧ p1 ∧ p2 ∧ p3 ∧ p4 ∧ V (a.eval (.tmp t)) w ∧ r) : V (a.eval (.tmp t)) w := h.2.2.2.2.2.1
theorem r5 {p0 p1 p2 p3 p4 q r : Prop} (h : p0 ∧ p1 ∧ p2 ∧ p3 ∧ p4 ∧ q ∧ r) : q := h.2.2.2.2.2.1
theorem q6 (V : VP) (a : Act) (w : World) (t : Tmp) {p0 p1 p2 p3 p4 p5 r : Prop} (h : p0 ∧ p1 ∧ p2 ∧ p3 ∧ p4 ∧ p5 ∧ V (a.eval (.tmp t)) w ∧ r) : V (a.eval (.tmp t)) w := h.2.2.2.2.2.2.1
theorem r6 {p0 p1 p2 p3 p4 p5 q r : Prop} (h : p0 ∧ p1 ∧ p2 ∧ p3 ∧ p4 ∧ p5 ∧ q ∧ r) : q := h.2.2.2.2.2.2.1
theorem q7 (V : VP) (a : Act) (w : World) (t : Tmp) {p0 p1 p2 p3 p4 p5 p6 r : Prop} (h : p0 ∧ p1 ∧ p2 ∧ p3 ∧ p4 ∧ p5 ∧ p6 ∧ V (a.eval (.tmp t)) w ∧ r) : V (a.eval (.tmp t)) w := h.2.2.2.2.2.2.2.1
theorem r7 {p0 p1 p2 p3 p4 p5 p6 q r : Prop} (h : p0 ∧ p1 ∧ p2 ∧ p3 ∧ p4 ∧ p5 ∧ p6 ∧ q ∧ r) : q := h.2.2.2.2.2.2.2.1
theorem q8 (V : VP) (a : Act) (w : World) (t : Tmp) {p0 p1 p2 p3 p4 p5 p6 p7 r : Prop} (h : p0 ∧ p1 ∧ p2 ∧ p3 ∧ p4 ∧ p5 ∧ p6 ∧ p7 ∧ V (a.eval (.tmp t)) w ∧ r) : V (a.eval (.tmp t)) w := h.2.2.2.2.2.2.2.2.1
theorem r8 {p0 p1 p2 p3 p4 p5 p6 p7 q r : Prop} (h : p0 ∧ p1 ∧ p2 ∧ p3 ∧ p4 ∧ p5 ∧ p6 ∧ p7 ∧ q ∧ r) : q := h.2.2.2.2.2.2.2.2.1
theorem q9 (V : VP) (a : Act) (w : World) (t : Tmp) {p0 p1 p2 p3 p4 p5 p6 p7 p8 r : Prop} (h : p0 ∧ p1 ∧ p2 ∧ p3 ∧ p4 ∧ p5 ∧ p6 ∧ p7 ∧ p8 ∧ V (a.eval (.tmp t)) w ∧ r) : V (a.eval (.tmp t)) w := h.2.2.2.2.2.2.2.2.2.1
theorem r9 {p0 p1 p2 p3 p4 p5 p6 p7 p8 q r : Prop} (h : p0 ∧ p1 ∧ p2 ∧ p3 ∧ p4 ∧ p5 ∧ p6 ∧ p7 ∧ p8 ∧ q ∧ r) : q := h.2.2.2.2.2.2.2.2.2.1
theorem o1 {V : VP} {a0 a : Act} {w0 w : World} {x : Operand} [h : Stb V] (s : V (a0.eval x) w0) (hx : Ext w0 w) (e : a.eval x = a0.eval x) : V (a.eval x) w := by rw [e]; exact h.st _ _ _ hx s
theorem o2 {V : VP} {a0 a : Act} {w1 w0 w : World} {x : Operand} [h : Stb V] (s : V (a0.eval x) w1) (k : Ext w1 w0) (hx : Ext w0 w) (e : a.eval x = a0.eval x) : V (a.eval x) w := by rw [e]; exact h.st _ _ _ (k.trans hx) s
theorem p1 {V : VP} {a0 a : Act} {w0 w : World} {x y : Operand} [h : Stb V] (s : V (a0.eval x) w0) (hx : Ext w0 w) (e : a.eval y = a0.eval x) : V (a.eval y) w := by rw [e]; exact h.st _ _ _ hx s
theorem p2 {V : VP} {a0 a : Act} {w1 w0 w : World} {x y : Operand} [h : Stb V] (s : V (a0.eval x) w1) (k : Ext w1 w0) (hx : Ext w0 w) (e : a.eval y = a0.eval x) : V (a.eval y) w := by rw [e]; exact h.st _ _ _ (k.trans hx) s
def Gd (P : Program) (t : Tmp) (b : Bool) (o : Oper) (a : Act) (w : World) (V : VP) : Prop :=
  match a.eval (.tmp t) with
  | .bool p => if (p == b) = true then OpOk P o a w V else V undef w
  | _ => V undef w
theorem ocg {P : Program} {ops : Array Oper} {a0 : Act} {w0 : World} {Vs : List VP} {d : Option Tmp} {op : Op} {ty : TypeId} {pos : String} {af : Array Edge} {j : Nat} {b : Bool} {os : List Oper} {p : List (Tmp × Option Nat)} {ps : Plan} {V : VP} {Vr : List VP}
    (t : Tmp) (hd : (ops[j]?).bind (·.dst) = some t) (h : ∀ a w, Ext w0 w → Q5y Vs a0 a w p → Gd P t b ⟨d, op, ty, pos, af, some (j, b)⟩ a w V) (k : OpsOk P ops a0 w0 Vs os ps Vr) :
    OpsOk P ops a0 w0 Vs (⟨d, op, ty, pos, af, some (j, b)⟩ :: os) (p :: ps) (V :: Vr) := by
  refine ⟨fun a w hx hf => ?_, k⟩
  have h1 := h a w hx hf
  unfold Obl Region.wanted
  have hy : yielded ops a.tmps j = match a.eval (.tmp t) with | .bool p => some p | _ => none := by
    unfold yielded
    rw [hd]
    show (match a.tmps[t]? with | some (.bool b) => some b | _ => none) = match a.tmps.getD t undef with | .bool p => some p | _ => none
    rw [Array.getD_eq_getD_getElem?]
    cases a.tmps[t]? with
    | none => rfl
    | some v => cases v <;> rfl
  simp only [hy]
  unfold Gd at h1
  generalize a.eval (.tmp t) = v at h1
  cases v with
  | bool p => simpa using h1
  | _ => simpa using h1
end

/-! short names -/
section
variable {P : Program} {Q Q' : Exit → Act → World → Prop} {x y : Code} {a : Act} {w : World}
theorem sq (h : x.wp P (Exit.then (y.wp P Q) Q) a w) : (Code.seq x y).wp P Q a w := wp_seq h
theorem es (h : x.wp P (Exit.then (y.wp P Q) Q) a w) : Exit.then ((Code.seq x y).wp P Q) Q' .normal a w := wp_seq h
end
end Go.Proofs.Ytlmdboaghojgiaa

/- Rules: what one operation yields, from what is known of its operands. -/
namespace Go.Proofs.Ytlmdboaghojgiaa
set_option linter.unusedVariables false
set_option linter.unusedSimpArgs false
open Go.RowKit

/-! ## Predicates on values -/

def Is (c : Value) : VP := fun v _ => v = c
instance (c : Value) : Stb (Is c) := ⟨fun _ _ _ _ h => h⟩
theorem anyw {c v : Value} {w w2 : World} (h : Is c v w) : Is c v w2 := h
theorem Is.conv {c c' v : Value} {w : World} (s : Is c v w) (h : c = c') : Is c' v w := h ▸ s
theorem Is.int {k : IntKind} {m n : Int} {v : Value} {w : World} (s : Is (.int k m) v w) (h : m = n) : Is (.int k n) v w := h ▸ s
theorem Is.bool {p q : Bool} {v : Value} {w : World} (s : Is (.bool p) v w) (h : p = q) : Is (.bool q) v w := h ▸ s

def G (c : Bool) (V : VP) : VP := fun v w => (c = true → V v w) ∧ (c = false → v = undef)
instance (c : Bool) (V : VP) [h : Stb V] : Stb (G c V) := ⟨fun _ _ _ hx g => ⟨fun hc => h.st _ _ _ hx (g.1 hc), g.2⟩⟩

def Sl (Rs : List VP) : VP := fun v w => (v = .slice none 0 0 ∧ Rs = []) ∨
  ∃ p cap, v = .slice (some p) Rs.length cap ∧ Rs.length ≤ cap ∧ cap ≤ maxLen ∧ ∀ i, i < Rs.length → ∃ x, w.cell? (p.add i) = some x ∧ (Rs.getD i VP.top) x w

theorem Sl.stable {Rs : List VP} (h : ∀ i, i < Rs.length → (Rs.getD i VP.top).Stable) : (Sl Rs).Stable := by
  intro v w w' hx hv
  rcases hv with hv | ⟨p, cap, h1, h2, h3, h4⟩
  · exact .inl hv
  · exact .inr ⟨p, cap, h1, h2, h3, fun i hi => by
      obtain ⟨x, hc, hr⟩ := h4 i hi
      exact ⟨x, hx.cell hc, h i hi _ _ _ hx hr⟩⟩

def Q0t (c : UInt8) : Value := .int .u8 (c.toNat : Int)
def ByteIs (c : UInt8) : VP := Is (Q0t c)
instance (c : UInt8) : Stb (ByteIs c) := inferInstanceAs (Stb (Is _))
def Bs (l : List UInt8) : VP := Sl (l.map ByteIs)
def Bss (ls : List (List UInt8)) : VP := Sl (ls.map Bs)
def Ns (k : IntKind) (l : List Int) : VP := Sl (l.map fun n => Is (.int k n))

theorem Q26 {α : Type} (f : α → VP) (l : List α) (i : Nat) (h : i < l.length) : (l.map f).getD i VP.top = f l[i] := by
  simp [List.getD_eq_getElem?_getD, h]

instance (l : List UInt8) : Stb (Bs l) := ⟨Sl.stable fun i hi => by
  rw [Q26 _ _ _ (by simpa using hi)]; exact fun _ _ _ _ h => h⟩
instance (ls : List (List UInt8)) : Stb (Bss ls) := ⟨Sl.stable fun i hi => by
  rw [Q26 _ _ _ (by simpa using hi)]; exact Stb.st⟩
instance (k : IntKind) (l : List Int) : Stb (Ns k l) := ⟨Sl.stable fun i hi => by
  rw [Q26 _ _ _ (by simpa using hi)]; exact fun _ _ _ _ h => h⟩

def Ptr (V : VP) : VP := fun v w => ∃ p x, v = .pointer (some p) ∧ p.spot = none ∧ w.cell? p = some x ∧ V x w
instance (V : VP) [h : Stb V] : Stb (Ptr V) := ⟨fun _ _ _ hx ⟨p, x, h1, h2, h3, h4⟩ => ⟨p, x, h1, h2, hx.cell h3, h.st _ _ _ hx h4⟩⟩

def Cells (cs : List Value) : VP := fun v w => ∃ b o, v = .pointer (some ⟨b, o, none⟩) ∧ ∀ i, i < cs.length → w.cell? ⟨b, o + i, none⟩ = some (cs.getD i undef)
instance (cs : List Value) : Stb (Cells cs) := ⟨fun _ _ _ hx ⟨b, o, h1, h2⟩ => ⟨b, o, h1, fun i hi => hx.cell (h2 i hi)⟩⟩

def Tup2 (V U : VP) : VP := fun v w => ∃ x y, v = .tuple #[x, y] ∧ V x w ∧ U y w
instance (V U : VP) [h : Stb V] [k : Stb U] : Stb (Tup2 V U) := ⟨fun _ _ _ hx ⟨x, y, h1, h2, h3⟩ => ⟨x, y, h1, h.st _ _ _ hx h2, k.st _ _ _ hx h3⟩⟩
def Tup3 (V U T : VP) : VP := fun v w => ∃ x y z, v = .tuple #[x, y, z] ∧ V x w ∧ U y w ∧ T z w
instance (V U T : VP) [h : Stb V] [k : Stb U] [j : Stb T] : Stb (Tup3 V U T) := ⟨fun _ _ _ hx ⟨x, y, z, h1, h2, h3, h4⟩ => ⟨x, y, z, h1, h.st _ _ _ hx h2, k.st _ _ _ hx h3, j.st _ _ _ hx h4⟩⟩

theorem mv {V : VP} {a0 a : Act} {w0 w : World} {x y : Operand} (s : V (a0.eval x) w0) (e : Is (a0.eval x) (a.eval y) w) : V (a.eval y) w0 := by rw [show a.eval y = a0.eval x from e]; exact s
theorem ec (a : Act) (c : Value) : a.eval (.const c) = c := rfl
@[reducible] def vp (V : VP) : VP := V

/-! ## Guards -/
section
variable {P : Program} {ops : Array Oper} {d : Option Tmp} {op : Op} {ty : TypeId} {pos : String} {af : Array Edge} {gd : Option (Nat × Bool)} {a : Act} {w : World} {V : VP}

theorem obl (h : OpOk P ⟨d, op, ty, pos, af, none⟩ a w V) : Obl P ops ⟨d, op, ty, pos, af, none⟩ a w V := by
  unfold Obl; rw [if_pos (by rfl)]; exact h

theorem okG {o : Oper} {c : Bool} (hc : c = true) (h : OpOk P o a w V) : OpOk P o a w (G c V) := by
  unfold OpOk at *
  generalize (execOp a.eval o).run P w = r at h ⊢
  have hn : ∀ v : Value, c = false → v = undef := fun v h => by rw [hc] at h; cases h
  cases r with
  | halt _ _ => exact h.elim
  | ok n w' =>
    cases n <;> first | exact h.elim | skip
    case value v => exact ⟨h.1, fun _ => h.2, hn v⟩
    case skip => exact ⟨h.1, fun _ => h.2, hn _⟩
    case enter f args => exact ⟨h.1, h.2.mono fun e w'' ⟨v, he, hx, hv⟩ => ⟨v, he, hx, fun _ => hv, hn v⟩⟩
theorem gno {c : Bool} (hc : c = false) : G c V undef w := ⟨fun h => (by rw [hc] at h; cases h), fun _ => rfl⟩
theorem gd_t {t : Tmp} {o : Oper} {p : Bool} (hv : a.eval (.tmp t) = .bool p) (h : p = true → OpOk P o a w V) : Gd P t true o a w (G p V) := by
  unfold Gd; rw [hv]
  cases p with
  | true => exact okG rfl (h rfl)
  | false => exact gno rfl
theorem gd_f {t : Tmp} {o : Oper} {p : Bool} (hv : a.eval (.tmp t) = .bool p) (h : (!p) = true → OpOk P o a w V) : Gd P t false o a w (G (!p) V) := by
  unfold Gd; rw [hv]
  cases p with
  | false => exact okG rfl (h rfl)
  | true => exact gno rfl
theorem Qe7 {t : Tmp} {o : Oper} {c p : Bool} (hv : G c (Is (.bool p)) (a.eval (.tmp t)) w) (h : (c && p) = true → OpOk P o a w V) : Gd P t true o a w (G (c && p) V) := by
  cases c with
  | true => exact gd_t (hv.1 rfl) h
  | false => unfold Gd; rw [show a.eval (.tmp t) = undef from hv.2 rfl]; exact gno rfl
theorem Qgw {t : Tmp} {o : Oper} {c p : Bool} (hv : G c (Is (.bool p)) (a.eval (.tmp t)) w) (h : (c && !p) = true → OpOk P o a w V) : Gd P t false o a w (G (c && !p) V) := by
  cases c with
  | true => exact gd_f (hv.1 rfl) h
  | false => unfold Gd; rw [show a.eval (.tmp t) = undef from hv.2 rfl]; exact gno rfl

theorem G.get {c : Bool} {v : Value} (h : G c V v w) (hc : c = true) : V v w := h.1 hc
theorem G.strip {c p : Bool} {v : Value} (hc : c = true) (h : G (c && p) V v w) : G p V v w := by subst hc; simpa using h

theorem oc0 {a0 : Act} {w0 : World} {Vs : List VP} {os : List Oper} {p : List (Tmp × Option Nat)} {ps : Plan} {Vr : List VP}
    (h : ∀ a w, Ext w0 w → Q5y Vs a0 a w p → OpOk P ⟨d, op, ty, pos, af, none⟩ a w V) (k : OpsOk P ops a0 w0 Vs os ps Vr) : OpsOk P ops a0 w0 Vs (⟨d, op, ty, pos, af, none⟩ :: os) (p :: ps) (V :: Vr) :=
  ⟨fun a w hx hf => obl (h a w hx hf), k⟩

def AtW (W : World) (V : VP) : VP := fun v _ => V v W
theorem OpOk.atw {o : Oper} [s : Stb V] (h : OpOk P o a w (AtW w V)) : OpOk P o a w V := by
  unfold OpOk Qfl at *
  generalize (execOp a.eval o).run P w = r at h ⊢
  cases r with
  | halt x w' => exact h
  | ok nx w' =>
    cases nx <;> first | exact h | skip
    case value v => exact ⟨h.1, s.st _ _ _ h.1 h.2⟩
    case skip => exact ⟨h.1, s.st _ _ _ h.1 h.2⟩
    case enter f args => exact ⟨h.1, h.2.mono fun e w'' ⟨v, he, hx, hv⟩ => ⟨v, he, hx, s.st _ _ _ hx hv⟩⟩

instance (W : World) (V : VP) : Stb (AtW W V) := ⟨fun _ _ _ _ h => h⟩
theorem AtW.base {W w : World} {v : Value} (h : AtW W V v w) : V v W := h
theorem AtW.now {W w w2 : World} {v : Value} [s : Stb V] (h : AtW W V v w2) (hx : Ext W w) : V v w := s.st _ _ _ hx h
/-! ## Moves, picks -/

theorem Q1g {v : Value} (h : (execOp a.eval ⟨d, op, ty, pos, af, gd⟩).run P w = .ok (.value v) w) (hv : V v w) : OpOk P ⟨d, op, ty, pos, af, gd⟩ a w V := by
  unfold OpOk; rw [h]; exact ⟨Ext.refl _, hv⟩
theorem Q0h {x : Operand} (h : V (a.eval x) w) : OpOk P ⟨d, .move x, ty, pos, af, gd⟩ a w (vp V) := Q1g rfl h
theorem Q03 {x : Operand} (h : V (a.eval x) w) : OpOk P ⟨d, .assign x, ty, pos, af, gd⟩ a w (vp V) := Q1g rfl h
theorem Q01 {a0 : Act} {x : Operand} (e : a.eval x = a0.eval x) : OpOk P ⟨d, .move x, ty, pos, af, gd⟩ a w (Is (a0.eval x)) := Q1g rfl e
theorem Q7h {c : Value} : OpOk P ⟨d, .move (.const c), ty, pos, af, gd⟩ a w (Is c) := Q1g rfl rfl
theorem Q05 {c : Value} : OpOk P ⟨d, .assign (.const c), ty, pos, af, gd⟩ a w (Is c) := Q1g rfl rfl
theorem Q1l {c : Value} (V : VP) (h : ∀ w, V c w) : OpOk P ⟨d, .assign (.const c), ty, pos, af, gd⟩ a w V := Q1g rfl (h w)
theorem Q2p {c x : Operand} {p q : Bool} (hc : a.eval c = .bool p) (hx : G p (Is (.bool q)) (a.eval x) w) : OpOk P ⟨d, .pick c x (.const (.bool false)), ty, pos, af, gd⟩ a w (Is (.bool (p && q))) := by
  refine Q1g (v := .bool (p && q)) ?_ rfl
  cases p with
  | false => simp only [execOp, hc]; rfl
  | true => have h : a.eval x = .bool q := hx.1 rfl
            simp only [execOp, hc, h]; rfl
theorem Q3o {c x : Operand} {p q : Bool} (hc : a.eval c = .bool p) (hx : G (!p) (Is (.bool q)) (a.eval x) w) : OpOk P ⟨d, .pick c (.const (.bool true)) x, ty, pos, af, gd⟩ a w (Is (.bool (p || q))) := by
  refine Q1g (v := .bool (p || q)) ?_ rfl
  cases p with
  | true => simp only [execOp, hc]; rfl
  | false => have h : a.eval x = .bool q := hx.1 rfl
             simp only [execOp, hc, h]; rfl

/-! ## Integers and bools -/

theorem Q43 {t : TypeId} {x : Operand} {p : Bool} (hx : a.eval x = .bool p) : OpOk P ⟨d, .unOp .not t x, ty, pos, af, gd⟩ a w (Is (.bool (!p))) :=
  Q1g (v := .bool (!p)) (by simp [execOp, hx, Op.unary]) rfl

section
variable {t t' : TypeId} {x y : Operand} {k : IntKind} {m n : Int}
theorem Q5z {o : BinOp} {v : Value} (hg : o ≠ .shl ∧ o ≠ .shr) (hx : a.eval x = .int k m) (hy : a.eval y = .int k n)
    (h : (match o with | .add | .sub | .mul => Op.intArith o k m n | .quo | .rem => Op.intDiv o k m n | .and | .or | .xor | .andNot => Op.intBits o k m n | _ => Op.intCmp o m n) = pure v) (hv : V v w) :
    OpOk P ⟨d, .binOp o t x y t', ty, pos, af, gd⟩ a w V := by
  refine Q1g (v := v) ?_ hv
  have he : (eqGuard o t x y (.int k m) (.int k n)).run P w = .ok () w := by
    unfold eqGuard; split <;> rfl
  simp only [execOp, hx, hy]
  have hb : binOp o t (.int k m) (.int k n) = pure v := by
    rw [← h]; cases o <;> first | exact absurd rfl hg.1 | exact absurd rfl hg.2 | simp [binOp]
  rw [hb]
  simp [he]
theorem Qhy (hx : a.eval x = .int k m) (hy : a.eval y = .int k n) : OpOk P ⟨d, .binOp .add t x y t', ty, pos, af, gd⟩ a w (Is (.int k (k.wrap (m + n)))) := Q5z (by simp) hx hy rfl rfl
theorem Qpa (hx : a.eval x = .int k m) (hy : a.eval y = .int k n) : OpOk P ⟨d, .binOp .sub t x y t', ty, pos, af, gd⟩ a w (Is (.int k (k.wrap (m - n)))) := Q5z (by simp) hx hy rfl rfl
theorem Qpb (hx : a.eval x = .int k m) (hy : a.eval y = .int k n) : OpOk P ⟨d, .binOp .mul t x y t', ty, pos, af, gd⟩ a w (Is (.int k (k.wrap (m * n)))) := Q5z (by simp) hx hy rfl rfl
theorem Q1i (hx : a.eval x = .int k m) (hy : a.eval y = .int k n) : OpOk P ⟨d, .binOp .eql t x y t', ty, pos, af, gd⟩ a w (Is (.bool (m == n))) := Q5z (by simp) hx hy rfl rfl
theorem Q48 (hx : a.eval x = .int k m) (hy : a.eval y = .int k n) : OpOk P ⟨d, .binOp .neq t x y t', ty, pos, af, gd⟩ a w (Is (.bool (m != n))) := Q5z (by simp) hx hy rfl rfl
theorem Q1b (hx : a.eval x = .int k m) (hy : a.eval y = .int k n) : OpOk P ⟨d, .binOp .lss t x y t', ty, pos, af, gd⟩ a w (Is (.bool (decide (m < n)))) := Q5z (by simp) hx hy rfl rfl
theorem Q3m (hx : a.eval x = .int k m) (hy : a.eval y = .int k n) : OpOk P ⟨d, .binOp .gtr t x y t', ty, pos, af, gd⟩ a w (Is (.bool (decide (m > n)))) := Q5z (by simp) hx hy rfl rfl
theorem Qmg (hx : a.eval x = .int k m) (hy : a.eval y = .int k n) : OpOk P ⟨d, .binOp .geq t x y t', ty, pos, af, gd⟩ a w (Is (.bool (decide (m ≥ n)))) := Q5z (by simp) hx hy rfl rfl
theorem Q4u (hn : n ≠ 0) (hx : a.eval x = .int k m) (hy : a.eval y = .int k n) : OpOk P ⟨d, .binOp .quo t x y t', ty, pos, af, gd⟩ a w (Is (.int k (k.wrap (m.tdiv n)))) := Q5z (by simp) hx hy (by simp [Op.intDiv, hn]) rfl
theorem Q4v (hn : n ≠ 0) (hx : a.eval x = .int k m) (hy : a.eval y = .int k n) : OpOk P ⟨d, .binOp .rem t x y t', ty, pos, af, gd⟩ a w (Is (.int k (m.tmod n))) := Q5z (by simp) hx hy (by simp [Op.intDiv, hn]) rfl

theorem Q0o {m n : Int} (hx : a.eval x = .int .i64 m) (hy : a.eval y = .int .i64 n) (hr : -9223372036854775808 ≤ m + n ∧ m + n ≤ 9223372036854775807) : OpOk P ⟨d, .binOp .add t x y t', ty, pos, af, gd⟩ a w (Is (.int .i64 (m + n))) := by
  have := Qhy (P := P) (d := d) (ty := ty) (pos := pos) (af := af) (gd := gd) (w := w) (t := t) (t' := t') hx hy
  rwa [IntWalk.i64_in _ (by omega)] at this
theorem Q9i {m n : Int} (hx : a.eval x = .int .i64 m) (hy : a.eval y = .int .i64 n) (hr : -9223372036854775808 ≤ m - n ∧ m - n ≤ 9223372036854775807) : OpOk P ⟨d, .binOp .sub t x y t', ty, pos, af, gd⟩ a w (Is (.int .i64 (m - n))) := by
  have := Qpa (P := P) (d := d) (ty := ty) (pos := pos) (af := af) (gd := gd) (w := w) (t := t) (t' := t') hx hy
  rwa [IntWalk.i64_in _ (by omega)] at this
theorem Q5j {m n : Int} (hx : a.eval x = .int .i64 m) (hy : a.eval y = .int .i64 n) (hr : -9223372036854775808 ≤ m * n ∧ m * n ≤ 9223372036854775807) : OpOk P ⟨d, .binOp .mul t x y t', ty, pos, af, gd⟩ a w (Is (.int .i64 (m * n))) := by
  have := Qpb (P := P) (d := d) (ty := ty) (pos := pos) (af := af) (gd := gd) (w := w) (t := t) (t' := t') hx hy
  rwa [IntWalk.i64_in _ (by omega)] at this

def Q7i (k : IntKind) (m n : Int) : Int := k.wrap (BitVec.ofInt k.bits m &&& BitVec.ofInt k.bits n).toNat
def Qgx (k : IntKind) (m n : Int) : Int := k.wrap (BitVec.ofInt k.bits m ||| BitVec.ofInt k.bits n).toNat
def Qhz (k : IntKind) (m n : Int) : Int := k.wrap (BitVec.ofInt k.bits m ^^^ BitVec.ofInt k.bits n).toNat
theorem Qbo (hx : a.eval x = .int k m) (hy : a.eval y = .int k n) : OpOk P ⟨d, .binOp .and t x y t', ty, pos, af, gd⟩ a w (Is (.int k (Q7i k m n))) := Q5z (by simp) hx hy rfl rfl
theorem Qi0 (hx : a.eval x = .int k m) (hy : a.eval y = .int k n) : OpOk P ⟨d, .binOp .or t x y t', ty, pos, af, gd⟩ a w (Is (.int k (Qgx k m n))) := Q5z (by simp) hx hy rfl rfl
theorem Qfo {o : BinOp} {k' : IntKind} {v : Value} (ho : o = .shl ∨ o = .shr) (hx : a.eval x = .int k m) (hy : a.eval y = .int k' n) (h : Op.shift o k m k' n = pure v) (hv : V v w) :
    OpOk P ⟨d, .binOp o t x y t', ty, pos, af, gd⟩ a w V := by
  refine Q1g (v := v) ?_ hv
  have he : (eqGuard o t x y (.int k m) (.int k' n)).run P w = .ok () w := by
    unfold eqGuard; rcases ho with rfl | rfl <;> rfl
  simp only [execOp, hx, hy]
  have hb : binOp o t (.int k m) (.int k' n) = pure v := by
    rw [← h]; rcases ho with rfl | rfl <;> rfl
  rw [hb]
  simp [he]
theorem Qfp {k' : IntKind} (n : Nat) (hn : n ≤ k.bits) (hx : a.eval x = .int k m) (hy : a.eval y = .int k' n) : OpOk P ⟨d, .binOp .shl t x y t', ty, pos, af, gd⟩ a w (Is (.int k (k.wrap (m * 2 ^ n)))) :=
  Qfo (.inl rfl) hx hy (by unfold Op.shift; rw [if_neg (by omega)]; simp [Nat.min_eq_left hn]) rfl
theorem Qcz {k' : IntKind} (n : Nat) (hn : n ≤ k.bits) (hx : a.eval x = .int k m) (hy : a.eval y = .int k' n) : OpOk P ⟨d, .binOp .shr t x y t', ty, pos, af, gd⟩ a w (Is (.int k (m / 2 ^ n))) :=
  Qfo (.inr rfl) hx hy (v := .int k (m / 2 ^ n)) (by
    unfold Op.shift; rw [if_neg (by omega)]; simp only [Int.toNat_natCast, Nat.min_eq_left hn]
    rw [Int.fdiv_eq_ediv_of_nonneg _ (Int.le_of_lt (Int.pow_pos (by decide)))]) rfl
def Qd0 (k : IntKind) (n : Int) : Int := k.wrap (BitVec.ofInt k.bits (if k.signed then -1 else k.max) ^^^ BitVec.ofInt k.bits n).toNat
theorem Q98 {t : TypeId} (hx : a.eval x = .int k n) : OpOk P ⟨d, .unOp .xor t x, ty, pos, af, gd⟩ a w (Is (.int k (Qd0 k n))) :=
  Q1g (v := .int k (Qd0 k n)) (by simp [execOp, hx, Op.unary, Op.intBits, Qd0]) rfl
theorem Qe6 {src dst : TypeId} {D : TypeDesc} {k' : IntKind} (hs : P.underlying src = some D) (hd : P.underlying dst = some (.int k')) (hx : a.eval x = .int k n) : OpOk P ⟨d, .convert src dst x, ty, pos, af, gd⟩ a w (Is (.int k' (k'.wrap n))) :=
  Q1g (v := .int k' (k'.wrap n)) (by simp [execOp, hx, convert, run_underlying hs, run_underlying hd, Conv.intToInt]) rfl
theorem Q6z {p q : Bool} (hT : P.underlying t = some .bool) : (Op.equal t (.bool p) (.bool q)).run P w = .ok (p == q) w := run_equalIn_bool' w 9999 t p q hT
theorem Qmh {p q : Bool} (hT : P.underlying t = some .bool) (hx : a.eval x = .bool p) (hy : a.eval y = .bool q) : OpOk P ⟨d, .binOp .eql t x y t', ty, pos, af, gd⟩ a w (Is (.bool (p == q))) := by
  refine Q1g (v := .bool (p == q)) ?_ rfl
  have he : (eqGuard .eql t x y (.bool p) (.bool q)).run P w = .ok () w := rfl
  have hb : binOp .eql t (.bool p) (.bool q) = (do pure (.bool (← Op.equal t (.bool p) (.bool q)))) := rfl
  simp only [execOp, hx, hy, hb]
  simp [he, Q6z hT]
theorem Qpc {p q : Bool} (hT : P.underlying t = some .bool) (hx : a.eval x = .bool p) (hy : a.eval y = .bool q) : OpOk P ⟨d, .binOp .neq t x y t', ty, pos, af, gd⟩ a w (Is (.bool (p != q))) := by
  refine Q1g (v := .bool (p != q)) ?_ rfl
  have he : (eqGuard .neq t x y (.bool p) (.bool q)).run P w = .ok () w := rfl
  have hb : binOp .neq t (.bool p) (.bool q) = (do pure (.bool (!(← Op.equal t (.bool p) (.bool q))))) := rfl
  simp only [execOp, hx, hy, hb]
  simp [he, Q6z hT, bne]
end

/-! ## Slices, pointers -/

def SizeIs (P : Program) (e : TypeId) (n : Nat) : Prop := (P.info? e).map (·.size) = some n
def ZeroIs (P : Program) (e : TypeId) (z : Value) : Prop := (P.info? e).map (·.zero) = some (some z)
theorem SizeIs.run {e : TypeId} {n : Nat} (h : SizeIs P e n) (w : World) : (sizeOf e).run P w = .ok n w := by
  unfold SizeIs at h
  cases hi : P.info? e with
  | none => rw [hi] at h; cases h
  | some i => rw [hi] at h; simp at h; simp [sizeOf, typeInfo, hi, h]
theorem ZeroIs.run {e : TypeId} {z : Value} (h : ZeroIs P e z) (w : World) : (zeroValue e).run P w = .ok z w := by
  unfold ZeroIs at h
  cases hi : P.info? e with
  | none => rw [hi] at h; cases h
  | some i => rw [hi] at h; simp at h; simp [zeroValue, typeInfo, hi, h]

theorem Sl.some_of {Rs : List VP} {v : Value} (h : Sl Rs v w) {i : Nat} (hi : i < Rs.length) :
    ∃ p cap x, v = .slice (some p) Rs.length cap ∧ p.spot = none ∧ w.cell? (p.add i) = some x ∧ (Rs.getD i VP.top) x w := by
  rcases h with ⟨_, rfl⟩ | ⟨p, cap, h1, h2, h3, h4⟩
  · simp at hi
  · obtain ⟨x, hc, hr⟩ := h4 i hi
    obtain ⟨x0, hc0, _⟩ := h4 0 (by omega)
    refine ⟨p, cap, x, h1, ?_, hc, hr⟩
    have := World.cell?_spot hc0
    simpa [Addr.add] using this

theorem Sl.len {Rs : List VP} {v : Value} (h : Sl Rs v w) : ∃ p cap, v = .slice p Rs.length cap := by
  rcases h with ⟨rfl, rfl⟩ | ⟨p, cap, h1, _⟩
  · exact ⟨_, _, rfl⟩
  · exact ⟨_, _, h1⟩

theorem Qi1 {t : TypeId} {e : TypeId} {x : Operand} {Rs : List VP} {n : Nat} (hT : P.underlying t = some (.slice e)) (hx : Sl Rs (a.eval x) w) (hn : Rs.length = n) :
    OpOk P ⟨d, .call ⟨.builtin .len, #[x], #[t]⟩, ty, pos, af, gd⟩ a w (Is (.int .i64 n)) := by
  obtain ⟨p, cap, h⟩ := hx.len
  subst hn
  exact Q1g (v := .int .i64 Rs.length) (by simp [execOp, resolve, invoke, builtin, Builtin.len_, h, run_underlying hT, goInt]) rfl

theorem Q0v {t : TypeId} {e : TypeId} {x : Operand} {l : List UInt8} (hT : P.underlying t = some (.slice e)) (hx : Bs l (a.eval x) w) :
    OpOk P ⟨d, .call ⟨.builtin .len, #[x], #[t]⟩, ty, pos, af, gd⟩ a w (Is (.int .i64 l.length)) := Qi1 hT hx (by simp)
theorem Qgy {t : TypeId} {e : TypeId} {x : Operand} {l : List (List UInt8)} (hT : P.underlying t = some (.slice e)) (hx : Bss l (a.eval x) w) :
    OpOk P ⟨d, .call ⟨.builtin .len, #[x], #[t]⟩, ty, pos, af, gd⟩ a w (Is (.int .i64 l.length)) := Qi1 hT hx (by simp)
theorem Qi2 {t : TypeId} {e : TypeId} {x : Operand} {k : IntKind} {l : List Int} (hT : P.underlying t = some (.slice e)) (hx : Ns k l (a.eval x) w) :
    OpOk P ⟨d, .call ⟨.builtin .len, #[x], #[t]⟩, ty, pos, af, gd⟩ a w (Is (.int .i64 l.length)) := Qi1 hT hx (by simp)

theorem Q67 {t e : TypeId} {x y : Operand} {k : IntKind} {Rs : List VP} (i : Nat) (hT : P.underlying t = some (.slice e)) (hz : SizeIs P e 1) (hx : Sl Rs (a.eval x) w) (hy : a.eval y = .int k (i : Int)) (hi : i < Rs.length) :
    OpOk P ⟨d, .indexAddr t x y, ty, pos, af, gd⟩ a w (Ptr (Rs.getD i VP.top)) := by
  obtain ⟨p, cap, u, hv, hs, hc, hr⟩ := hx.some_of hi
  refine Q1g (v := .pointer (some (p.add i))) ?_ ⟨p.add i, u, rfl, ?_, hc, hr⟩
  · have h1 : (0 : Int) ≤ i ∧ (i : Int) < (Rs.length : Int) := by omega
    simp [execOp, Instr.indexAt, hv, hy, asIntOf, run_underlying hT, hz.run, hi]
  · unfold Addr.add; split <;> simp [hs]

theorem Qbp {t : TypeId} {D : TypeDesc} {x : Operand} (hT : P.underlying t = some D) (hD : (match D with | .struct _ | .array _ _ => false | _ => true) = true) (hx : Ptr V (a.eval x) w) :
    OpOk P ⟨d, .load t x, ty, pos, af, gd⟩ a w V := by
  obtain ⟨p, u, hv, hs, hc, hr⟩ := hx
  refine Q1g (v := u) ?_ hr
  have hagg : (isAgg t).run P w = .ok false w := by
    unfold isAgg
    simp only [Sem.run_bind, run_underlying hT, Result.andThen_ok]
    cases D <;> first | rfl | (simp at hD)
  simp [execOp, Instr.loadAt, hv, Instr.sureAddr, loadVar, hagg, hc]

theorem Q12 {t e : TypeId} {x y : Operand} {k : IntKind} {l : List UInt8} (i : Nat) (hT : P.underlying t = some (.slice e)) (hz : SizeIs P e 1) (hx : Bs l (a.eval x) w) (hy : a.eval y = .int k (i : Int)) (hi : i < l.length) :
    OpOk P ⟨d, .indexAddr t x y, ty, pos, af, gd⟩ a w (Ptr (ByteIs l[i])) := by
  have := Q67 (d := d) (ty := ty) (pos := pos) (af := af) (gd := gd) i hT hz hx hy (by simpa using hi)
  rwa [Q26 _ _ _ hi] at this
theorem Qd1 {t e : TypeId} {x y : Operand} {k : IntKind} {l : List (List UInt8)} (i : Nat) (hT : P.underlying t = some (.slice e)) (hz : SizeIs P e 1) (hx : Bss l (a.eval x) w) (hy : a.eval y = .int k (i : Int)) (hi : i < l.length) :
    OpOk P ⟨d, .indexAddr t x y, ty, pos, af, gd⟩ a w (Ptr (Bs l[i])) := by
  have := Q67 (d := d) (ty := ty) (pos := pos) (af := af) (gd := gd) i hT hz hx hy (by simpa using hi)
  rwa [Q26 _ _ _ hi] at this
theorem Qe8 {t e : TypeId} {x y : Operand} {k k' : IntKind} {l : List Int} (i : Nat) (hT : P.underlying t = some (.slice e)) (hz : SizeIs P e 1) (hx : Ns k' l (a.eval x) w) (hy : a.eval y = .int k (i : Int)) (hi : i < l.length) :
    OpOk P ⟨d, .indexAddr t x y, ty, pos, af, gd⟩ a w (Ptr (Is (.int k' l[i]))) := by
  have := Q67 (d := d) (ty := ty) (pos := pos) (af := af) (gd := gd) i hT hz hx hy (by simpa using hi)
  rwa [Q26 _ _ _ hi] at this

theorem Qfq (w : World) (cs : Array Value) (e : TypeId) (i : Nat) : (w.alloc (.cells cs e)).cell? ⟨w.heap.size, i, none⟩ = cs[i]? := by
  unfold World.cell?
  rw [heap_alloc_new]
  rfl

theorem Qpd {t : TypeId} {x : Operand} {v : Value} (hx : a.eval x = v) : OpOk P ⟨d, .box t x, ty, pos, af, gd⟩ a w (Cells v.cells.toList) := by
  unfold OpOk
  have : (execOp a.eval ⟨d, .box t x, ty, pos, af, gd⟩).run P w = .ok (.value (.pointer (some ⟨w.heap.size, 0, none⟩))) (w.alloc (.cells v.cells t)) := by
    simp [execOp, Instr.box, newVar, newRow, hx]
  rw [this]
  refine ⟨(Ext.refl w).alloc _, w.heap.size, 0, rfl, fun i hi => ?_⟩
  rw [Qfq]
  simp [List.getD_eq_getElem?_getD, List.getElem?_eq_getElem hi]

theorem Qi3 {t : TypeId} {x : Operand} {cs : List Value} (hx : a.eval x = .agg cs.toArray) : OpOk P ⟨d, .box t x, ty, pos, af, gd⟩ a w (Cells cs) := Qpd hx
theorem Cells.drop {cs : List Value} {b o n : Nat} (h : ∀ i, i < cs.length → w.cell? ⟨b, o + i, none⟩ = some (cs.getD i undef)) : ∀ i, i < (cs.drop n).length → w.cell? ⟨b, o + n + i, none⟩ = some ((cs.drop n).getD i undef) := by
  intro i hi
  simp only [List.length_drop] at hi
  have := h (n + i) (by omega)
  rw [Nat.add_assoc, this]
  simp [List.getD_eq_getElem?_getD, List.getElem?_drop]

theorem Q2s {t : TypeId} {fs : Array Field} {f : Field} {i n : Nat} {x : Operand} {cs : List Value} (hT : P.underlying t = some (.struct fs)) (hf : fs[i]? = some f) (hz : SizeIs P f.type n) (hn : (n == 0) = false) (hx : Cells cs (a.eval x) w) :
    OpOk P ⟨d, .fieldAddr t x i, ty, pos, af, gd⟩ a w (Cells (cs.drop f.offset)) := by
  obtain ⟨b, o, hv, hc⟩ := hx
  refine Q1g (v := .pointer (some ⟨b, o + f.offset, none⟩)) ?_ ⟨b, o + f.offset, rfl, Cells.drop hc⟩
  have hn' : n ≠ 0 := by simpa using hn
  simp [execOp, Instr.fieldAt, hv, Instr.sureAddr, run_underlying hT, hf, fieldPlace, hz.run, hn', Go.WideShapes.add_plain]

theorem Q7j {t : TypeId} {D : TypeDesc} {x : Operand} {c : Value} {cs : List Value} (hT : P.underlying t = some D) (hD : (match D with | .struct _ | .array _ _ => false | _ => true) = true) (hx : Cells (c :: cs) (a.eval x) w) :
    OpOk P ⟨d, .load t x, ty, pos, af, gd⟩ a w (Is c) := by
  obtain ⟨b, o, hv, hc⟩ := hx
  exact Qbp hT hD ⟨⟨b, o, none⟩, c, hv, rfl, by simpa using hc 0 (by simp), rfl⟩

theorem Qb6 {t : TypeId} {D : TypeDesc} {n : Nat} {x : Operand} {cs : List Value} (hT : P.underlying t = some D) (hD : (match D with | .struct _ | .array _ _ => true | _ => false) = true) (hz : SizeIs P t n) (hn : n ≤ cs.length) (hx : Cells cs (a.eval x) w) :
    OpOk P ⟨d, .load t x, ty, pos, af, gd⟩ a w (Is (.agg (cs.take n).toArray)) := by
  obtain ⟨b, o, hv, hc⟩ := hx
  refine Q1g (v := .agg (cs.take n).toArray) ?_ rfl
  have hagg : (isAgg t).run P w = .ok true w := by
    unfold isAgg
    simp only [Sem.run_bind, run_underlying hT, Result.andThen_ok]
    cases D <;> first | rfl | (simp at hD)
  have hl := run_loadCells_list (P := P) (w := w) ⟨b, o, none⟩ (cs.take n) (fun j v hj => by
    have hjn : j < (cs.take n).length := (List.getElem?_eq_some_iff.1 hj).1
    have h1 : j < cs.length := by simp at hjn; omega
    rw [Go.WideShapes.add_plain, hc j h1]
    rw [List.getElem?_take_of_lt (by simp at hjn; omega)] at hj
    simp [List.getD_eq_getElem?_getD, hj])
  have hlen : (cs.take n).length = n := by simp; omega
  rw [hlen] at hl
  simp [execOp, Instr.loadAt, hv, Instr.sureAddr, loadVar, hagg, hz.run, hl]

theorem Qgz {t : TypeId} {D : TypeDesc} {n : Nat} {x : Operand} {cs : List Value} (hT : P.underlying t = some D) (hD : (match D with | .struct _ | .array _ _ => true | _ => false) = true) (hz : SizeIs P t n) (hx : Cells cs (a.eval x) w) (hn : cs.length = n) :
    OpOk P ⟨d, .load t x, ty, pos, af, gd⟩ a w (Is (.agg cs.toArray)) := by
  have := Qb6 (d := d) (ty := ty) (pos := pos) (af := af) (gd := gd) hT hD hz (by omega) hx
  rwa [← hn, List.take_length] at this
theorem Qd2 {x : Operand} {V U : VP} (hx : Tup2 V U (a.eval x) w) : OpOk P ⟨d, .extract x 0, ty, pos, af, gd⟩ a w V := by
  obtain ⟨u, v, h, h1, h2⟩ := hx
  exact Q1g (v := u) (by simp [execOp, Instr.extract, h]) h1
theorem Qd3 {x : Operand} {V U : VP} (hx : Tup2 V U (a.eval x) w) : OpOk P ⟨d, .extract x 1, ty, pos, af, gd⟩ a w U := by
  obtain ⟨u, v, h, h1, h2⟩ := hx
  exact Q1g (v := v) (by simp [execOp, Instr.extract, h]) h2

/-! ## Slices of slices: 's[l:h]' -/

def subl (l : List UInt8) (lo hi : Nat) : List UInt8 := (l.take hi).drop lo

theorem Qi4 {l : List UInt8} {v : Value} {w : World} (hx : Bs l v w) (lo hi : Nat) (h1 : lo ≤ hi) (h2 : hi ≤ l.length) : ∀ p len cap, v = .slice p len cap → Bs (subl l lo hi) (sliced p lo hi cap 1) w := by
  intro p len cap hv
  have hlen : (subl l lo hi).length = hi - lo := by simp [subl]; omega
  rcases hx with ⟨rfl, hl⟩ | ⟨q, cap', h3, h4, h5, h6⟩
  · simp only [Value.slice.injEq] at hv
    obtain ⟨rfl, rfl, rfl⟩ := hv
    have h0 : l = [] := by simpa using hl
    subst h0
    simp at h2
    subst h2
    simp at h1
    subst h1
    left
    exact ⟨by simp [sliced], by simp [subl]⟩
  · subst h3
    simp only [Value.slice.injEq] at hv
    obtain ⟨rfl, rfl, rfl⟩ := hv
    simp only [List.length_map] at h4 h6
    right
    refine ⟨if cap' = lo then q else q.add lo, cap' - lo, ?_, by simp [hlen]; omega, by omega, fun i hi' => ?_⟩
    · simp only [sliced, List.length_map, hlen]; split <;> simp
    · simp only [List.length_map, hlen] at hi'
      obtain ⟨x, hc, hr⟩ := h6 (lo + i) (by omega)
      have hs : q.spot = none := by
        obtain ⟨x0, hc0, _⟩ := h6 0 (by omega)
        have := World.cell?_spot hc0
        simpa [Addr.add] using this
      refine ⟨x, ?_, ?_⟩
      · rw [if_neg (by omega)]
        obtain ⟨b, o, sp⟩ := q
        simp only at hs
        subst hs
        rw [Go.WideShapes.add_plain] at hc ⊢
        rw [Go.WideShapes.add_plain, Nat.add_assoc]
        exact hc
      · rw [Q26 _ _ _ (by omega)] at hr ⊢
        have : (subl l lo hi)[i]'(by omega) = l[lo + i]'(by omega) := by simp [subl]
        rw [this]; exact hr

section
variable {t e : TypeId} {x y z : Operand} {k k' : IntKind} {l : List UInt8}
theorem Qe9 (hT : P.underlying t = some (.slice e)) : P.underlying t = some (.slice (P.elem t)) := by
  rw [hT]; simp [Program.elem, hT]

theorem Q4w (len cap lo hi : Nat) (olo ohi : Option Value) (hlo : olo = none ∧ lo = 0 ∨ ∃ k : IntKind, olo = some (.int k (lo : Int))) (hhi : ohi = none ∧ hi = len ∨ ∃ k : IntKind, ohi = some (.int k (hi : Int)))
    (h1 : lo ≤ hi) (h2 : hi ≤ cap) : (Instr.sliceBounds true len cap olo ohi none).run P w = .ok (lo, hi, cap) w := by
  rcases hlo with ⟨rfl, rfl⟩ | ⟨k, rfl⟩ <;> rcases hhi with ⟨rfl, rfl⟩ | ⟨k', rfl⟩ <;>
    simp [Instr.sliceBounds, run_sliceBound, *]

theorem Q49 {W : World} {olo ohi : Option Operand} (lo hi : Nat) (hT : P.underlying t = some (.slice e)) (hz : SizeIs P e 1) (hx : Bs l (a.eval x) W)
    (hlo : olo = none ∧ lo = 0 ∨ ∃ y k, olo = some y ∧ a.eval y = .int k (lo : Int)) (hhi : ohi = none ∧ hi = l.length ∨ ∃ y k, ohi = some y ∧ a.eval y = .int k (hi : Int)) (h1 : lo ≤ hi) (h2 : hi ≤ l.length) :
    OpOk P ⟨d, .slice t x olo ohi none, ty, pos, af, gd⟩ a w (AtW W (Bs (subl l lo hi))) := by
  have hs := Qi4 hx lo hi h1 h2
  obtain ⟨p, cap, hv⟩ := hx.len
  simp only [List.length_map] at hv
  have hcap : l.length ≤ cap := by
    rcases hx with ⟨hv', hl⟩ | ⟨q, cap', h3, h4, _⟩
    · simp at hl; subst hl; simp
    · rw [hv] at h3; simp at h3 h4; omega
  refine Q1g (v := sliced p lo hi cap 1) ?_ (hs _ _ _ hv)
  have hb := Q4w (P := P) (w := w) l.length cap lo hi (olo.map a.eval) (ohi.map a.eval)
    (by rcases hlo with ⟨rfl, rfl⟩ | ⟨y, k, rfl, hy⟩
        · exact .inl ⟨rfl, rfl⟩
        · exact .inr ⟨k, by simp [hy]⟩)
    (by rcases hhi with ⟨rfl, rfl⟩ | ⟨y, k, rfl, hy⟩
        · exact .inl ⟨rfl, rfl⟩
        · exact .inr ⟨k, by simp [hy]⟩) h1 (by omega)
  have ht := Qe9 hT
  have he : P.elem t = e := by simp [Program.elem, hT]
  have h3 := run_slice_any (P := P) w t p l.length cap ht (olo.map a.eval) (ohi.map a.eval) none
  simp only [hb, Result.andThen_ok, he, hz.run] at h3
  have h4 : (Instr.sliceAt t (.slice p l.length cap) (olo.map a.eval) (ohi.map a.eval) none).run P w = .ok (sliced p lo hi cap 1) w := by
    rw [run_sliceAt_slice (P := P) (w := w) (h := ht)]; exact h3
  simp only [execOp, hv, Option.map_none]
  simp [h4]

theorem Q68 {olo ohi : Option Operand} (lo hi : Nat) (hT : P.underlying t = some (.slice e)) (hz : SizeIs P e 1) (hx : Bs l (a.eval x) w)
    (hlo : olo = none ∧ lo = 0 ∨ ∃ y k, olo = some y ∧ a.eval y = .int k (lo : Int)) (hhi : ohi = none ∧ hi = l.length ∨ ∃ y k, ohi = some y ∧ a.eval y = .int k (hi : Int)) (h1 : lo ≤ hi) (h2 : hi ≤ l.length) :
    OpOk P ⟨d, .slice t x olo ohi none, ty, pos, af, gd⟩ a w (Bs (subl l lo hi)) := (Q49 lo hi hT hz hx hlo hhi h1 h2).atw
theorem Q4x {W : World} (hi : Nat) (hT : P.underlying t = some (.slice e)) (hz : SizeIs P e 1) (hx : Bs l (a.eval x) W) (hy : a.eval y = .int k (hi : Int)) (h2 : hi ≤ l.length) :
    OpOk P ⟨d, .slice t x none (some y) none, ty, pos, af, gd⟩ a w (AtW W (Bs (l.take hi))) := by
  have := Q49 (d := d) (ty := ty) (pos := pos) (af := af) (gd := gd) (w := w) (olo := none) (ohi := some y) 0 hi hT hz hx (.inl ⟨rfl, rfl⟩) (.inr ⟨y, k, rfl, hy⟩) (by omega) h2
  simpa [subl] using this
theorem Q2e {W : World} (lo : Nat) (hT : P.underlying t = some (.slice e)) (hz : SizeIs P e 1) (hx : Bs l (a.eval x) W) (hy : a.eval y = .int k (lo : Int)) (h2 : lo ≤ l.length) :
    OpOk P ⟨d, .slice t x (some y) none none, ty, pos, af, gd⟩ a w (AtW W (Bs (l.drop lo))) := by
  have := Q49 (d := d) (ty := ty) (pos := pos) (af := af) (gd := gd) (w := w) (olo := some y) (ohi := none) lo l.length hT hz hx (.inr ⟨y, k, rfl, hy⟩) (.inl ⟨rfl, rfl⟩) h2 (Nat.le_refl _)
  simpa [subl] using this
theorem Q69 {W : World} (lo hi : Nat) (hT : P.underlying t = some (.slice e)) (hz : SizeIs P e 1) (hx : Bs l (a.eval x) W) (hy : a.eval y = .int k (lo : Int)) (hz' : a.eval z = .int k' (hi : Int)) (h1 : lo ≤ hi) (h2 : hi ≤ l.length) :
    OpOk P ⟨d, .slice t x (some y) (some z) none, ty, pos, af, gd⟩ a w (AtW W (Bs (subl l lo hi))) :=
  Q49 lo hi hT hz hx (.inr ⟨y, k, rfl, hy⟩) (.inr ⟨z, k', rfl, hz'⟩) h1 h2

theorem Qea (hi : Nat) (hT : P.underlying t = some (.slice e)) (hz : SizeIs P e 1) (hx : Bs l (a.eval x) w) (hy : a.eval y = .int k (hi : Int)) (h2 : hi ≤ l.length) :
    OpOk P ⟨d, .slice t x none (some y) none, ty, pos, af, gd⟩ a w (Bs (l.take hi)) := by
  have := Q68 (d := d) (ty := ty) (pos := pos) (af := af) (gd := gd) (olo := none) (ohi := some y) 0 hi hT hz hx (.inl ⟨rfl, rfl⟩) (.inr ⟨y, k, rfl, hy⟩) (by omega) h2
  simpa [subl] using this
theorem Qeb (lo : Nat) (hT : P.underlying t = some (.slice e)) (hz : SizeIs P e 1) (hx : Bs l (a.eval x) w) (hy : a.eval y = .int k (lo : Int)) (h2 : lo ≤ l.length) :
    OpOk P ⟨d, .slice t x (some y) none none, ty, pos, af, gd⟩ a w (Bs (l.drop lo)) := by
  have := Q68 (d := d) (ty := ty) (pos := pos) (af := af) (gd := gd) (olo := some y) (ohi := none) lo l.length hT hz hx (.inr ⟨y, k, rfl, hy⟩) (.inl ⟨rfl, rfl⟩) h2 (Nat.le_refl _)
  simpa [subl] using this
theorem Q3x (lo hi : Nat) (hT : P.underlying t = some (.slice e)) (hz : SizeIs P e 1) (hx : Bs l (a.eval x) w) (hy : a.eval y = .int k (lo : Int)) (hz' : a.eval z = .int k' (hi : Int)) (h1 : lo ≤ hi) (h2 : hi ≤ l.length) :
    OpOk P ⟨d, .slice t x (some y) (some z) none, ty, pos, af, gd⟩ a w (Bs (subl l lo hi)) :=
  Q68 lo hi hT hz hx (.inr ⟨y, k, rfl, hy⟩) (.inr ⟨z, k', rfl, hz'⟩) h1 h2
end

/-! ## Calls -/

def Body (P : Program) (f : FuncId) : Prop := ∃ fn, P.funcs[f]? = some fn ∧ fn.body.isSome = true ∧ (fn.name == "runtime.NumGoroutine") = false

section
variable {f : FuncId} {ats : Array TypeId} {x0 x1 x2 x3 x4 : Operand}
theorem Qbq (hb : Body P f) (xs : Array Operand) : (execOp a.eval ⟨d, .call ⟨.value (.func f), xs, ats⟩, ty, pos, af, gd⟩).run P w = .ok (.enter f (xs.map a.eval)) w := by
  obtain ⟨fn, hf, hbd, hn⟩ := hb
  have hnone : fn.body.isNone = false := by cases h : fn.body <;> simp_all
  have h1 : (callFunc f (#[] ++ xs.map a.eval ++ #[])).run P w = .ok (.enter f (xs.map a.eval)) w := by
    unfold callFunc
    simp only [Sem.run_bind, run_program, Result.andThen_ok, hf, hn, hnone, Bool.false_eq_true, if_false, Array.append_empty, Array.empty_append]
    rfl
  simp only [execOp, resolve, Deferred.ofValue, Act.eval]
  simp only [pure_bind, invoke]
  exact h1
theorem Q5k (hb : Body P f) (xs : Array Operand) (hc : Calls P f (xs.map a.eval) w (Ret V w)) : OpOk P ⟨d, .call ⟨.value (.func f), xs, ats⟩, ty, pos, af, gd⟩ a w V := by
  unfold OpOk
  rw [Qbq hb]
  exact ⟨Ext.refl _, hc⟩
theorem Qbr (hb : Body P f) (hc : Calls P f #[] w (Ret V w)) : OpOk P ⟨d, .call ⟨.value (.func f), #[], ats⟩, ty, pos, af, gd⟩ a w (vp V) := Q5k hb _ (by simpa using hc)
theorem Q18 (hb : Body P f) (hc : Calls P f #[a.eval x0] w (Ret V w)) : OpOk P ⟨d, .call ⟨.value (.func f), #[x0], ats⟩, ty, pos, af, gd⟩ a w (vp V) := Q5k hb _ (by simpa using hc)
theorem Q0p (hb : Body P f) (hc : Calls P f #[a.eval x0, a.eval x1] w (Ret V w)) : OpOk P ⟨d, .call ⟨.value (.func f), #[x0, x1], ats⟩, ty, pos, af, gd⟩ a w (vp V) := Q5k hb _ (by simpa using hc)
theorem Q2y (hb : Body P f) (hc : Calls P f #[a.eval x0, a.eval x1, a.eval x2] w (Ret V w)) : OpOk P ⟨d, .call ⟨.value (.func f), #[x0, x1, x2], ats⟩, ty, pos, af, gd⟩ a w (vp V) := Q5k hb _ (by simpa using hc)
theorem Q3p (hb : Body P f) (hc : Calls P f #[a.eval x0, a.eval x1, a.eval x2, a.eval x3] w (Ret V w)) : OpOk P ⟨d, .call ⟨.value (.func f), #[x0, x1, x2, x3], ats⟩, ty, pos, af, gd⟩ a w (vp V) := Q5k hb _ (by simpa using hc)
end

theorem Q1d {t : TypeId} {D : TypeDesc} {x : Operand} (hT : P.underlying t = some D) (hD : (match D with | .struct _ | .array _ _ => false | _ => true) = true) (hx : Ptr V (a.eval x) w) :
    OpOk P ⟨d, .load t x, ty, pos, af, gd⟩ a w (vp V) := Qbp hT hD hx
theorem Q2t {x : Operand} {V U : VP} (hx : Tup2 V U (a.eval x) w) : OpOk P ⟨d, .extract x 0, ty, pos, af, gd⟩ a w (vp V) := Qd2 hx
theorem Q2u {x : Operand} {V U : VP} (hx : Tup2 V U (a.eval x) w) : OpOk P ⟨d, .extract x 1, ty, pos, af, gd⟩ a w (vp U) := Qd3 hx

/-! ## '[]T{..}' -/

class One (R : VP) : Prop where
  one : ∀ v w, R v w → v.cells = #[v] ∧ v.oneCell' = true
instance (k : IntKind) (n : Int) : One (Is (.int k n)) := ⟨fun v _ h => by rw [show v = .int k n from h]; exact ⟨rfl, rfl⟩⟩
instance (b : Bool) : One (Is (.bool b)) := ⟨fun v _ h => by rw [show v = .bool b from h]; exact ⟨rfl, rfl⟩⟩
instance (c : UInt8) : One (ByteIs c) := ⟨fun v _ h => by rw [show v = Q0t c from h]; exact ⟨rfl, rfl⟩⟩
instance (Rs : List VP) : One (Sl Rs) := ⟨fun v _ h => by obtain ⟨p, c, rfl⟩ := h.len; exact ⟨rfl, rfl⟩⟩
instance (l : List UInt8) : One (Bs l) := inferInstanceAs (One (Sl _))
instance (l : List (List UInt8)) : One (Bss l) := inferInstanceAs (One (Sl _))
instance (k : IntKind) (l : List Int) : One (Ns k l) := inferInstanceAs (One (Sl _))

def PartsOk (a : Act) (w : World) : List Operand → List VP → Prop
  | x :: xs, R :: Rs => (R (a.eval x) w ∧ R.Stable ∧ (a.eval x).cells = #[a.eval x] ∧ (a.eval x).oneCell' = true) ∧ PartsOk a w xs Rs
  | [], [] => True
  | _, _ => False

theorem PartsOk.nil : PartsOk a w [] [] := trivial
theorem PartsOk.cons {x : Operand} {xs : List Operand} {R : VP} {Rs : List VP} [h : One R] [s : Stb R] (hx : R (a.eval x) w) (hr : PartsOk a w xs Rs) : PartsOk a w (x :: xs) (R :: Rs) := ⟨⟨hx, s.st, h.one _ _ hx⟩, hr⟩

theorem PartsOk.get : ∀ {xs : List Operand} {Rs : List VP}, PartsOk a w xs Rs → xs.length = Rs.length ∧ ∀ i (h : i < xs.length), (Rs.getD i VP.top) (a.eval xs[i]) w ∧ (Rs.getD i VP.top).Stable ∧ (a.eval xs[i]).cells = #[a.eval xs[i]] ∧ (a.eval xs[i]).oneCell' = true
  | [], [], _ => ⟨rfl, fun i h => by simp at h⟩
  | x :: xs, R :: Rs, h => by
    obtain ⟨h1, h2⟩ := PartsOk.get h.2
    refine ⟨by simp [h1], fun i hi => ?_⟩
    cases i with
    | zero => simpa using h.1
    | succ i => simpa using h2 i (by simpa using hi)
  | [], _ :: _, h => h.elim
  | _ :: _, [], h => h.elim

theorem Qfr : ∀ (vs : List Value) (k : Nat) (cells : Array Value), k + vs.length ≤ cells.size → (∀ v ∈ vs, v.cells = #[v]) →
    Instr.fill (fun i => some (i * 1, 1)) cells ((vs.zipIdx k).map fun p => (p.2, p.1)) = some (cells.toList.take k ++ vs ++ cells.toList.drop (k + vs.length)).toArray
  | [], k, cells, _, _ => by simp [Instr.fill]
  | v :: vs, k, cells, h, hv => by
    simp only [List.length_cons] at h
    have hvc : v.cells = #[v] := hv v (by simp)
    simp only [List.zipIdx_cons, List.map_cons, Instr.fill, hvc, List.size_toArray, List.length_cons, List.length_nil]
    rw [if_neg (by simp; omega)]
    have hz : (Array.zipIdx #[v]) = #[(v, 0)] := rfl
    rw [hz]
    simp only [List.foldl_toArray', List.foldl_cons, List.foldl_nil, Nat.add_zero]
    rw [show k * 1 = k from Nat.mul_one k]
    rw [Qfr vs (k + 1) _ (by simp; omega) (fun u hu => hv u (by simp [hu]))]
    congr 1
    congr 1
    have hk : k < cells.toList.length := by simp; omega
    simp only [Array.toList_setIfInBounds]
    rw [List.take_set, List.drop_set]
    have e1 : ((cells.toList.take (k + 1)).set k v) = cells.toList.take k ++ [v] := by
      have hkc : min k cells.size = k := Nat.min_eq_left (by simp at hk; omega)
      rw [List.take_succ_eq_append_getElem hk, List.set_append_right _ _ (by simp; omega)]
      simp [hkc]
    rw [if_pos (by omega), e1]
    simp [Nat.add_assoc, Nat.add_comm 1]

theorem Q6y {t e : TypeId} {n : Nat} {parts : Array (Nat × Operand)} {z : Value} (xs : List Operand) (Rs : List VP) (hT : P.underlying t = some (.slice e)) (hz : SizeIs P e 1) (hz0 : ZeroIs P e z)
    (hp : parts = (xs.zipIdx.map fun p => (p.2, p.1)).toArray) (hn : xs.length = n) (hn2 : n ≤ 1000) (hR : PartsOk a w xs Rs) :
    (execOp a.eval ⟨d, .buildSlice t n parts, ty, pos, af, gd⟩).run P w = .ok (.value (.slice (some ⟨w.heap.size, 0, none⟩) n n)) (w.alloc (.cells (xs.map a.eval).toArray e)) := by
  obtain ⟨hl, hg⟩ := hR.get
  have hvals : (parts.map fun (p : Nat × Operand) => (p.1, a.eval p.2)).toList = (((xs.map a.eval).zipIdx 0).map fun p => (p.2, p.1)) := by
    subst hp
    apply List.ext_getElem?
    intro i
    simp [List.getElem?_zipIdx]
    cases xs[i]? <;> simp
  have hfill := Qfr (xs.map a.eval) 0 ((Array.range (n * 1)).map fun i => z.cells[i % z.cells.size]!) (by simp [hn]) (fun v hv => by
    obtain ⟨x, hx, rfl⟩ := List.mem_map.1 hv
    obtain ⟨i, hi, rfl⟩ := List.getElem_of_mem hx
    exact (hg i hi).2.2.1)
  have hd0 : List.drop (0 + (xs.map a.eval).length) ((Array.range (n * 1)).map fun i => z.cells[i % z.cells.size]!).toList = [] := by
    apply List.drop_eq_nil_of_le; simp [hn]
  rw [hd0] at hfill
  simp only [List.take_zero, List.nil_append, List.append_nil] at hfill
  by_cases h0 : n = 0
  · have hxs : xs = [] := by simpa [h0] using hn
    subst h0
    subst hxs
    simp only [execOp]
    unfold Instr.buildSlice
    simp only [hvals]
    simp [run_underlying hT, hz.run, newRow, Instr.fill, Array.range]
  · simp only [execOp]
    unfold Instr.buildSlice
    simp only [hvals]
    have hfill' : Instr.fill (fun i => some (i * 1, 1)) ((Array.range (n * 1)).map fun i => z.cells[i % z.cells.size]!) (((xs.map a.eval).zipIdx 0).map fun p => (p.2, p.1)) = some (xs.map a.eval).toArray := hfill
    simp only [Sem.run_bind, run_underlying hT, hz.run, Result.andThen_ok, Nat.mul_one, if_neg h0]
    simp only [Nat.mul_one] at hfill'
    simp [hz0.run, hfill', newRow]
    omega

theorem Q5l {t e : TypeId} {n : Nat} {parts : Array (Nat × Operand)} {z : Value} (xs : List Operand) (Rs : List VP) (hT : P.underlying t = some (.slice e)) (hz : SizeIs P e 1) (hz0 : ZeroIs P e z)
    (hp : parts = (xs.zipIdx.map fun p => (p.2, p.1)).toArray) (hn : xs.length = n) (hn2 : n ≤ 1000) (hR : PartsOk a w xs Rs) :
    OpOk P ⟨d, .buildSlice t n parts, ty, pos, af, gd⟩ a w (Sl Rs) := by
  obtain ⟨hl, hg⟩ := hR.get
  have hrun := Q6y (a := a) (w := w) (d := d) (ty := ty) (pos := pos) (af := af) (gd := gd) xs Rs hT hz hz0 hp hn hn2 hR
  unfold OpOk
  rw [hrun]
  refine ⟨(Ext.refl w).alloc _, .inr ⟨⟨w.heap.size, 0, none⟩, n, by rw [← hl, hn], by omega, by unfold maxLen; omega, fun i hi => ?_⟩⟩
  rw [← hl] at hi
  refine ⟨a.eval xs[i], ?_, (hg i hi).2.1 _ _ _ ((Ext.refl w).alloc _) (hg i hi).1⟩
  rw [Go.WideShapes.add_plain, Nat.zero_add, Qfq]
  simp [hi]

theorem Q21 {t e : TypeId} {n : Nat} {parts : Array (Nat × Operand)} {z : Value} (xs : List Operand) (l : List UInt8) (hT : P.underlying t = some (.slice e)) (hz : SizeIs P e 1) (hz0 : ZeroIs P e z)
    (hp : parts = (xs.zipIdx.map fun p => (p.2, p.1)).toArray) (hn : xs.length = n) (hn2 : n ≤ 1000) (hR : PartsOk a w xs (l.map ByteIs)) :
    OpOk P ⟨d, .buildSlice t n parts, ty, pos, af, gd⟩ a w (Bs l) := Q5l xs _ hT hz hz0 hp hn hn2 hR
theorem Qec {t e : TypeId} {n : Nat} {parts : Array (Nat × Operand)} {z : Value} (xs : List Operand) (l : List (List UInt8)) (hT : P.underlying t = some (.slice e)) (hz : SizeIs P e 1) (hz0 : ZeroIs P e z)
    (hp : parts = (xs.zipIdx.map fun p => (p.2, p.1)).toArray) (hn : xs.length = n) (hn2 : n ≤ 1000) (hR : PartsOk a w xs (l.map Bs)) :
    OpOk P ⟨d, .buildSlice t n parts, ty, pos, af, gd⟩ a w (Bss l) := Q5l xs _ hT hz hz0 hp hn hn2 hR
theorem Qh0 {t e : TypeId} {n : Nat} {parts : Array (Nat × Operand)} {z : Value} {k : IntKind} (xs : List Operand) (l : List Int) (hT : P.underlying t = some (.slice e)) (hz : SizeIs P e 1) (hz0 : ZeroIs P e z)
    (hp : parts = (xs.zipIdx.map fun p => (p.2, p.1)).toArray) (hn : xs.length = n) (hn2 : n ≤ 1000) (hR : PartsOk a w xs (l.map fun m => Is (.int k m))) :
    OpOk P ⟨d, .buildSlice t n parts, ty, pos, af, gd⟩ a w (Ns k l) := Q5l xs _ hT hz hz0 hp hn hn2 hR

theorem Qi5 : Bs [] (.slice none 0 0) w := .inl ⟨rfl, rfl⟩
theorem Qpe {k : IntKind} : Ns k [] (.slice none 0 0) w := .inl ⟨rfl, rfl⟩

def b8 (n : Int) : UInt8 := UInt8.ofNat (n % 256).toNat
theorem Q1n (n : Int) : ((b8 n).toNat : Int) = n % 256 := by
  unfold b8
  rw [UInt8.toNat_ofNat']
  have h1 := Int.emod_nonneg n (by decide : (256 : Int) ≠ 0)
  have h2 := Int.emod_lt_of_pos n (by decide : (0 : Int) < 256)
  omega
theorem Qfs (n : Int) : Q0t (b8 n) = .int .u8 (IntKind.u8.wrap n) := by
  unfold Q0t; rw [Q1n, IntKind.wrap_u8]
theorem Q15 {src dst : TypeId} {D : TypeDesc} {x : Operand} {k : IntKind} {n : Int} (hs : P.underlying src = some D) (hd : P.underlying dst = some (.int .u8)) (hx : a.eval x = .int k n) : OpOk P ⟨d, .convert src dst x, ty, pos, af, gd⟩ a w (ByteIs (b8 n)) := by
  have := Qe6 (d := d) (ty := ty) (pos := pos) (af := af) (gd := gd) (w := w) hs hd hx
  unfold ByteIs
  rw [Qfs]
  exact this
theorem ByteIs.of {v : Value} {n : Int} (h : Is (.int .u8 n) v w) (h0 : 0 ≤ n ∧ n < 256) : ByteIs (b8 n) v w := by
  show v = Q0t (b8 n)
  rw [Qfs, IntKind.wrap_u8, Int.emod_eq_of_lt h0.1 h0.2]
  exact h
end
end Go.Proofs.Ytlmdboaghojgiaa
