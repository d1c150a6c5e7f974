/- A region that draws its order: each operation is shown to be fine in every later world, from what is known of the operations that it waits for alone; then every order of the region is fine. -/
import Derived.WalkKit
import Derived.KernelRfl
import Derived.BigQuiet
import Derived.Handy
import Derived.Deep.LoopGhost
namespace Go.Proofs.Ytpjpfmnnefgnbaa
set_option linter.unusedVariables false
set_option linter.unusedSimpArgs false
open Go.RowKit
variable {dfs : List Deferred}

/-- A later world: all that was there is as it was; blocks may have come. -/
def Ext (w w' : World) : Prop := Below w.heap.size w w'
theorem Ext.refl (w : World) : Ext w w := Below.refl _ _
theorem Ext.trans {a b c : World} (h : Ext a b) (k : Ext b c) : Ext a c := Below.trans h (Below.mono k h.size)
theorem Ext.below {a w w' : World} {B : Nat} (h : Ext a w) (hB : a.heap.size ≤ B) (k : Below B w w') : Ext a w' := Below.trans h (Below.mono k hB)
theorem Ext.alloc {a w : World} (h : Ext a w) (o : Obj) : Ext a (w.alloc o) := Below.alloc h h.size o
theorem Ext.drew {a w : World} (h : Ext a w) : Ext a w.drew := Below.drew h
theorem Ext.draw1 (w : World) : Ext w { w with drawn := w.drawn + 1 } := Below.drew (Below.refl _ _)
theorem Ext.cell {w w' : World} (h : Ext w w') {a : Addr} {v : Value} (hc : w.cell? a = some v) : w'.cell? a = some v := by
  rw [Below.cell h]; exact hc
  exact block_lt_of_cell hc

abbrev VP := Value → World → Prop
def VP.Stable (V : VP) : Prop := ∀ v w w', Ext w w' → V v w → V v w'
def VP.top : VP := fun _ _ => True

def okUpon (P : Program) (w : World) (V : VP) : Result Next → Prop
  | .ok (.value v) w' => Ext w w' ∧ V v w'
  | .ok .skip w' => Ext w w' ∧ V undef w'
  | .ok (.enter f args) w' => Ext w w' ∧ Calls P f args w' fun e w'' => ∃ v, e = .returned v ∧ Ext w w'' ∧ V v w''
  | _ => False
def OpOk (P : Program) (o : Oper) (a : Act) (w : World) (V : VP) : Prop := okUpon P w V ((execOp a.eval o).run P w)
def Obl (P : Program) (ops : Array Oper) (o : Oper) (a : Act) (w : World) (V : VP) : Prop :=
  if Region.wanted o (yielded ops a.tmps) = true then OpOk P o a w V else V undef w

abbrev Plan := List (List (Tmp × Option Nat))

def factsL (Vs : List VP) (a0 a : Act) (w : World) : List (Tmp × Option Nat) → Prop
  | [] => True
  | (t, none) :: r => a.eval (.tmp t) = a0.eval (.tmp t) ∧ factsL Vs a0 a w r
  | (t, some k) :: r => (Vs.getD k VP.top) (a.eval (.tmp t)) w ∧ factsL Vs a0 a w r

def OpsOk (P : Program) (ops : Array Oper) (a0 : Act) (w0 : World) (Vs : List VP) : List Oper → Plan → List VP → Prop
  | o :: os, p :: ps, V :: Vr => (∀ a w, Ext w0 w → factsL Vs a0 a w p → Obl P ops o a w V) ∧ OpsOk P ops a0 w0 Vs os ps Vr
  | [], _, _ => True
  | _, _, _ => False

def StableAll : List VP → Prop
  | [] => True
  | V :: r => V.Stable ∧ StableAll r

/-- Which operations one waits for, as bits, out of 'Region.before'; what is asked of a region, as a Bool. -/
def waitsOk (ops : Array Oper) (B : Array Nat) : Bool :=
  ops.zipIdx.all fun (o, j) =>
    (o.after.all fun e => !Region.binds .any e || decide (e.on < j)) &&
    (List.range ops.size).all fun k => !(B.getD j 0).testBit k || o.after.any fun e => Region.binds .any e && (e.on == k || (B.getD e.on 0).testBit k)

def dstsOk (ops : Array Oper) (n : Nat) : Bool :=
  ops.zipIdx.all fun (o, j) => match o.dst with
    | none => true
    | some t => decide (t < n) && ops.zipIdx.all fun (o', k) => j == k || o'.dst != some t

def planOk (ops : Array Oper) (B : Array Nat) : Nat → List Oper → Plan → Bool
  | j, _ :: os, p :: ps => (p.all fun x => match x with
      | (t, some k) => ((ops[k]?).bind (·.dst)) == some t && (B.getD j 0).testBit k
      | (t, none) => ops.zipIdx.all fun (o', k) => o'.dst != some t || k == j || (B.getD k 0).testBit j) && planOk ops B (j + 1) os ps
  | _, [], _ => true
  | _, _, _ => false

def freeB (ops : Array Oper) (n : Nat) (pl : Plan) : Bool :=
  waitsOk ops (Region.before ops) && dstsOk ops n && planOk ops (Region.before ops) 0 ops.toList pl

section
variable {P : Program} {ops : Array Oper} {Q : Exit → Act → World → Prop}

structure FreeInv (ops : Array Oper) (Vs : List VP) (a0 : Act) (w0 : World) (listed : Array Bool) (a : Act) (w : World) : Prop where
  ext : Ext w0 w
  size : a.tmps.size = a0.tmps.size
  defers : a.defers = a0.defers
  vals : ∀ i o t, ops[i]? = some o → o.dst = some t → listed.getD i false = true → (Vs.getD i VP.top) (a.tmps.getD t undef) w
  rest : ∀ t, (∀ i o, ops[i]? = some o → o.dst = some t → listed.getD i false = false) → a.tmps.getD t undef = a0.tmps.getD t undef
  closed : ∀ j o, ops[j]? = some o → listed.getD j false = true → ∀ e ∈ o.after, Region.binds .any e = true → listed.getD e.on false = true
  lsize : listed.size = ops.size

theorem waits_spec {B : Array Nat} (h : waitsOk ops B = true) {j : Nat} {o : Oper} (ho : ops[j]? = some o) :
    (∀ e ∈ o.after, Region.binds .any e = true → e.on < j) ∧
    ∀ k, k < ops.size → (B.getD j 0).testBit k = true → ∃ e ∈ o.after, Region.binds .any e = true ∧ (e.on = k ∨ (B.getD e.on 0).testBit k = true) := by
  unfold waitsOk at h
  rw [Array.all_eq_true_iff_forall_mem] at h
  have hm := h (o, j) (by rw [Array.mem_zipIdx_iff_getElem?]; exact ho)
  simp only [Bool.and_eq_true, Array.all_eq_true_iff_forall_mem, List.all_eq_true, List.mem_range, Bool.or_eq_true, Bool.not_eq_true', decide_eq_true_eq, Array.any_eq_true'] at hm
  obtain ⟨h1, h2⟩ := hm
  refine ⟨fun e he hb => ?_, fun k hk hb => ?_⟩
  · rcases h1 e he with h | h
    · rw [hb] at h; cases h
    · exact h
  · rcases h2 k hk with h | h
    · rw [hb] at h; cases h
    · obtain ⟨e, he, hx⟩ := h
      refine ⟨e, he, ?_⟩
      simpa using hx

theorem reach_listed {B : Array Nat} (hW : waitsOk ops B = true) {listed : Array Bool}
    (hc : ∀ j o, ops[j]? = some o → listed.getD j false = true → ∀ e ∈ o.after, Region.binds .any e = true → listed.getD e.on false = true) :
    ∀ (j : Nat) (o : Oper), ops[j]? = some o → (∀ e ∈ o.after, Region.binds .any e = true → listed.getD e.on false = true) →
      ∀ k, k < ops.size → (B.getD j 0).testBit k = true → listed.getD k false = true := by
  intro j
  induction j using Nat.strongRecOn with
  | _ j ih =>
    intro o ho hall k hk hb
    obtain ⟨h1, h2⟩ := waits_spec hW ho
    obtain ⟨e, he, heb, hx⟩ := h2 k hk hb
    have hl := hall e he heb
    rcases hx with rfl | hx
    · exact hl
    · have hlt := h1 e he heb
      have hjs : j < ops.size := (Array.getElem?_eq_some_iff.1 ho).1
      obtain ⟨o', ho'⟩ : ∃ o', ops[e.on]? = some o' := ⟨_, Array.getElem?_eq_getElem (by omega)⟩
      exact ih e.on hlt o' ho' (hc _ _ ho' hl) k hk hx

theorem dst_spec {n : Nat} (h : dstsOk ops n = true) {j : Nat} {o : Oper} {t : Tmp} (ho : ops[j]? = some o) (hd : o.dst = some t) :
    t < n ∧ ∀ k o', ops[k]? = some o' → o'.dst = some t → k = j := by
  unfold dstsOk at h
  rw [Array.all_eq_true_iff_forall_mem] at h
  have hm := h (o, j) (by rw [Array.mem_zipIdx_iff_getElem?]; exact ho)
  simp only [hd, Bool.and_eq_true, decide_eq_true_eq, Array.all_eq_true_iff_forall_mem] at hm
  refine ⟨hm.1, fun k o' hk hd' => ?_⟩
  have := hm.2 (o', k) (by rw [Array.mem_zipIdx_iff_getElem?]; exact hk)
  simp only [hd', bne_self_eq_false, Bool.or_false, beq_iff_eq] at this
  exact this.symm

theorem act_put_getD {a : Act} {d t : Tmp} {v : Value} (h : d < a.tmps.size) : (a.put (some d) v).tmps.getD t undef = if t = d then v else a.tmps.getD t undef := by
  simp only [Act.put, Array.getD_eq_getD_getElem?, Array.getElem?_setIfInBounds]
  by_cases e : d = t
  · subst e; simp [h]
  · rw [if_neg e, if_neg (fun h => e h.symm)]

theorem free_put {Vs : List VP} {a0 a : Act} {w0 w w' : World} {listed : Array Bool} {n i : Nat} {o : Oper} {v : Value}
    (hst : ∀ k, (Vs.getD k VP.top).Stable) (hn : a0.tmps.size = n) (hd : dstsOk ops n = true) (h : FreeInv ops Vs a0 w0 listed a w)
    (hi : i ∈ Region.ready .any ops listed) (ho : ops[i]? = some o) (he : Ext w w') (hv : (Vs.getD i VP.top) v w') :
    FreeInv ops Vs a0 w0 (listed.setIfInBounds i true) (a.put o.dst v) w' := by
  obtain ⟨hun, o1, ho1, hall⟩ := mem_ready.1 hi
  rw [ho] at ho1
  obtain rfl : o = o1 := by simpa using ho1
  have his : i < ops.size := (Array.getElem?_eq_some_iff.1 ho).1
  have hil : i < listed.size := by rw [h.lsize]; exact his
  have hset : ∀ j, (listed.setIfInBounds i true).getD j false = true → j = i ∨ listed.getD j false = true := fun j hj => by
    by_cases e : i = j
    · exact .inl e.symm
    · rw [getD_set_ne false e] at hj; exact .inr hj
  refine ⟨h.ext.trans he, ?_, ?_, fun k o' t hk hdk hl => ?_, fun t ht => ?_, fun j o' hj hl e hm hb => ?_, by simp [h.lsize]⟩
  · rw [← h.size]; cases o.dst <;> simp [Act.put]
  · rw [← h.defers]; cases o.dst <;> rfl
  · rcases hset k hl with rfl | hl'
    · rw [hk] at ho
      obtain rfl : o' = o := by simpa using ho
      rw [hdk, act_put_getD (by rw [h.size, hn]; exact (dst_spec hd hk hdk).1), if_pos rfl]
      exact hv
    · have := hst k _ _ _ he (h.vals k o' t hk hdk hl')
      cases hdo : o.dst with
      | none => exact this
      | some d =>
        have hb := (dst_spec hd ho hdo)
        rw [act_put_getD (by rw [h.size, hn]; exact hb.1)]
        by_cases e : t = d
        · subst e
          obtain rfl := hb.2 k o' hk hdk
          rw [hk] at ho
          obtain rfl : o' = o := by simpa using ho
          rw [if_pos rfl]; exact hv
        · rw [if_neg e]; exact this
  · have hprev := h.rest t (fun k o' hk hdk => by
      have := ht k o' hk hdk
      by_cases e : i = k
      · subst e
        simp only [Array.getD_eq_getD_getElem?, Array.getElem?_setIfInBounds, if_pos, hil] at this
        simp at this
      · rwa [getD_set_ne false e] at this)
    cases hdo : o.dst with
    | none => exact hprev
    | some d =>
      rw [act_put_getD (by rw [h.size, hn]; exact (dst_spec hd ho hdo).1)]
      by_cases e : t = d
      · subst e
        have := ht i o ho hdo
        simp only [Array.getD_eq_getD_getElem?, Array.getElem?_setIfInBounds, if_pos, hil] at this
        simp at this
      · rw [if_neg e]; exact hprev
  · rcases hset j hl with rfl | hl'
    · rw [hj] at ho
      obtain rfl : o' = o := by simpa using ho
      exact getD_set_true (hall e hm hb)
    · exact getD_set_true (h.closed j o' hj hl' e hm hb)

theorem factsL_of {B : Array Nat} {Vs : List VP} {a0 a : Act} {w0 w : World} {listed : Array Bool} {j : Nat} {o : Oper} (hW : waitsOk ops B = true)
    (h : FreeInv ops Vs a0 w0 listed a w) (ho : ops[j]? = some o) (hun : listed.getD j false = false)
    (hall : ∀ e ∈ o.after, Region.binds .any e = true → listed.getD e.on false = true) : ∀ (p : List (Tmp × Option Nat)),
    (p.all fun x => match x with
      | (t, some k) => ((ops[k]?).bind (·.dst)) == some t && (B.getD j 0).testBit k
      | (t, none) => ops.zipIdx.all fun (o', k) => o'.dst != some t || k == j || (B.getD k 0).testBit j) = true → factsL Vs a0 a w p := by
  intro p
  induction p with
  | nil => intro _; trivial
  | cons x p ih =>
    intro hp
    rw [List.all_cons, Bool.and_eq_true] at hp
    obtain ⟨h1, h2⟩ := hp
    obtain ⟨t, s⟩ := x
    cases s with
    | none =>
      refine ⟨?_, ih h2⟩
      show a.tmps.getD t undef = a0.tmps.getD t undef
      refine h.rest t fun k o' hk hdk => ?_
      simp only [Array.all_eq_true_iff_forall_mem] at h1
      have := h1 (o', k) (by rw [Array.mem_zipIdx_iff_getElem?]; exact hk)
      simp only [hdk, bne_self_eq_false, Bool.false_or, Bool.or_eq_true, beq_iff_eq] at this
      rcases this with rfl | hb
      · exact hun
      · cases hl : listed.getD k false with
        | false => rfl
        | true =>
          have := reach_listed hW h.closed k o' hk (h.closed k o' hk hl) j ((Array.getElem?_eq_some_iff.1 ho).1) hb
          rw [hun] at this; cases this
    | some k =>
      simp only [Bool.and_eq_true, beq_iff_eq] at h1
      obtain ⟨hd, hb⟩ := h1
      obtain ⟨o', hk, hdk⟩ : ∃ o', ops[k]? = some o' ∧ o'.dst = some t := by
        cases hk : ops[k]? with
        | none => rw [hk] at hd; cases hd
        | some o' => rw [hk] at hd; exact ⟨o', rfl, hd⟩
      refine ⟨h.vals k o' t hk hdk ?_, ih h2⟩
      exact reach_listed hW h.closed j o ho hall k ((Array.getElem?_eq_some_iff.1 hk).1) hb

theorem opsOk_at {a0 : Act} {w0 : World} {Vs : List VP} {B : Array Nat} : ∀ (l : List Oper) (pl : Plan) (Vr : List VP) (s : Nat),
    OpsOk P ops a0 w0 Vs l pl Vr → planOk ops B s l pl = true → ∀ j o, l[j]? = some o → ∃ p,
      (p.all fun x => match x with
        | (t, some k) => ((ops[k]?).bind (·.dst)) == some t && (B.getD (s + j) 0).testBit k
        | (t, none) => ops.zipIdx.all fun (o', k) => o'.dst != some t || k == (s + j) || (B.getD k 0).testBit (s + j)) = true ∧
      ∀ a w, Ext w0 w → factsL Vs a0 a w p → Obl P ops o a w (Vr.getD j VP.top) := by
  intro l
  induction l with
  | nil => intro pl Vr s _ _ j o hj; simp at hj
  | cons o1 l ih =>
    intro pl Vr s h hp j o hj
    cases pl with
    | nil => simp [planOk] at hp
    | cons p pl =>
      cases Vr with
      | nil => exact h.elim
      | cons V Vr =>
        unfold planOk at hp
        rw [Bool.and_eq_true] at hp
        cases j with
        | zero =>
          obtain rfl : o1 = o := by simpa using hj
          exact ⟨p, hp.1, h.1⟩
        | succ j =>
          obtain ⟨q, hq, hr⟩ := ih pl Vr (s + 1) h.2 hp.2 j o (by simpa using hj)
          refine ⟨q, ?_, ?_⟩
          · rw [show s + (j + 1) = s + 1 + j from by omega]; exact hq
          · simpa using hr

theorem stable_at : ∀ (Vs : List VP), StableAll Vs → ∀ k, (Vs.getD k VP.top).Stable
  | [], _, _ => by simp; intro _ _ _ _ _; trivial
  | V :: Vs, h, 0 => by simpa using h.1
  | V :: Vs, h, k + 1 => by simpa using stable_at Vs h.2 k

def unlisted (listed : Array Bool) : Nat := listed.toList.count false

theorem unlisted_set {listed : Array Bool} {i : Nat} (hi : i < listed.size) (h : listed.getD i true = false) : unlisted (listed.setIfInBounds i true) + 1 = unlisted listed := by
  unfold unlisted
  have hb : listed.toList[i]'(by simpa using hi) = false := by simpa [hi] using h
  have hpos : 0 < listed.toList.count false := List.count_pos_iff.2 (by rw [← hb]; exact List.getElem_mem _)
  rw [Array.toList_setIfInBounds, List.count_set (by simpa using hi), hb]
  simp only [beq_self_eq_true, if_true, show (true == false) = false from rfl, Bool.false_eq_true, if_false]
  omega

theorem all_listed {listed : Array Bool} (h : unlisted listed = 0) (i : Nat) : listed.getD i true = true := by
  rcases Nat.lt_or_ge i listed.size with hi | hi
  · cases hb : listed.getD i true with
    | true => rfl
    | false => have := unlisted_set hi hb; omega
  · simp [Array.getElem?_eq_none hi]

theorem ready_nil_all {B : Array Nat} (hW : waitsOk ops B = true) {listed : Array Bool} (hr : Region.ready .any ops listed = []) : ∀ i, i < ops.size → listed.getD i true = true := by
  intro i
  induction i using Nat.strongRecOn with
  | _ i ih =>
    intro hi
    cases hb : listed.getD i true with
    | true => rfl
    | false =>
      exfalso
      have ho : ops[i]? = some ops[i] := Array.getElem?_eq_getElem hi
      have : i ∈ Region.ready .any ops listed := mem_ready.2 ⟨hb, _, ho, fun e he heb => by
        have hlt := (waits_spec hW ho).1 e he heb
        have h1 := ih e.on hlt (by omega)
        have hls : i < listed.size := by
          rcases Nat.lt_or_ge i listed.size with h | h
          · exact h
          · simp [Array.getElem?_eq_none h] at hb
        have hl : e.on < listed.size := by omega
        simp only [Array.getD_eq_getD_getElem?, Array.getElem?_eq_getElem hl, Option.getD_some] at h1 ⊢
        exact h1⟩
      rw [hr] at this; cases this

theorem wpAny_of_free {Vs : List VP} {a0 : Act} {w0 : World} {n : Nat} {pl : Plan} (hn : a0.tmps.size = n) (hB : freeB ops n pl = true) (hst : StableAll Vs)
    (hops : OpsOk P ops a0 w0 Vs ops.toList pl Vs)
    (hend : ∀ a w listed, FreeInv ops Vs a0 w0 listed a w → (∀ i, i < ops.size → listed.getD i true = true) → Q .normal a w) :
    ∀ (fuel : Nat) (listed : Array Bool) (a : Act) (w : World), FreeInv ops Vs a0 w0 listed a w → unlisted listed ≤ fuel → wpAny P .any ops Q fuel listed a w := by
  unfold freeB at hB
  simp only [Bool.and_eq_true] at hB
  obtain ⟨⟨hW, hD⟩, hP⟩ := hB
  intro fuel
  induction fuel with
  | zero =>
    intro listed a w h hu
    have ha := all_listed (Nat.le_zero.1 hu)
    refine ⟨?_, hend a w listed h fun i _ => ha i⟩
    cases hr : Region.ready .any ops listed with
    | nil => rfl
    | cons i l =>
      have : i ∈ Region.ready .any ops listed := by rw [hr]; exact List.mem_cons_self
      have := (mem_ready.1 this).1
      rw [ha i] at this; cases this
  | succ fuel ih =>
    intro listed a w h hu
    refine ⟨fun hr => hend a w listed h (ready_nil_all hW hr), fun i hi => ?_⟩
    obtain ⟨hun, o, ho, hall⟩ := mem_ready.1 hi
    have his : i < ops.size := (Array.getElem?_eq_some_iff.1 ho).1
    have hil : i < listed.size := by rw [h.lsize]; exact his
    have hun' : listed.getD i false = false := by
      simp only [Array.getD_eq_getD_getElem?, Array.getElem?_eq_getElem hil, Option.getD_some] at hun ⊢
      exact hun
    have hu' : unlisted (listed.setIfInBounds i true) ≤ fuel := by have := unlisted_set hil hun; omega
    obtain ⟨p, hp, hobl⟩ := opsOk_at (B := Region.before ops) ops.toList pl Vs 0 hops hP i o (by simpa using ho)
    simp only [Nat.zero_add] at hp
    have hf := factsL_of hW h ho hun' hall p hp
    have hob := hobl a w h.ext hf
    have next : ∀ v w', Ext w w' → (Vs.getD i VP.top) v w' → wpAny P .any ops Q fuel (listed.setIfInBounds i true) (a.put o.dst v) w' :=
      fun v w' he hv => ih _ _ _ (free_put (stable_at Vs hst) hn hD h hi ho he hv) hu'
    unfold wpOp
    simp only [ho]
    unfold Obl at hob
    split
    · rename_i hw
      rw [if_pos hw] at hob
      left
      unfold OpOk at hob
      unfold Oper.wp
      generalize (execOp a.eval o).run P w = r at hob
      cases r with
      | halt x w' => exact hob.elim
      | ok nx w' =>
        cases nx <;> first | exact hob.elim | skip
        case value v => exact next v w' hob.1 hob.2
        case skip => exact next undef w' hob.1 hob.2
        case enter f args =>
          exact hob.2.mono fun e w'' ⟨v, he, hx, hv⟩ => by subst he; exact next v w'' hx hv
    · rename_i hw
      rw [if_neg hw] at hob
      exact next undef w (Ext.refl _) hob

end

/-! ## Frames -/

def FrD (dfs : List Deferred) (n : Nat) (a : Act) : Prop := a.tmps.size = n ∧ a.defers = dfs
abbrev Fr (n : Nat) (a : Act) : Prop := FrD [] n a
def Same (ds : List Tmp) (a a' : Act) : Prop := ∀ t, ds.contains t = false → a'.eval (.tmp t) = a.eval (.tmp t)
def dstsOf (l : List Oper) : List Tmp := l.filterMap (·.dst)
def DstFacts (l : List Oper) (Vs : List VP) (a : Act) (w : World) : Prop := ∀ i t, (l[i]?).bind (·.dst) = some t → (Vs.getD i VP.top) (a.eval (.tmp t)) w
theorem fa (V : VP) (a : Act) (w : World) (t : Tmp) (h : V (a.eval (.tmp t)) w) : V (a.eval (.tmp t)) w := h

class Stb (V : VP) : Prop where
  st : V.Stable
class StbAll (Vs : List VP) : Prop where
  st : StableAll Vs
instance : StbAll [] := ⟨trivial⟩
instance {V : VP} {Vs : List VP} [h : Stb V] [k : StbAll Vs] : StbAll (V :: Vs) := ⟨⟨h.st, k.st⟩⟩

theorem stb_nil : StbAll [] := ⟨trivial⟩
theorem stb_cons {V : VP} {Vs : List VP} [h : Stb V] (k : StbAll Vs) : StbAll (V :: Vs) := ⟨⟨h.st, k.st⟩⟩
theorem OpsOk.cons {P : Program} {ops : Array Oper} {a0 : Act} {w0 : World} {Vs : List VP} {o : Oper} {os : List Oper} {p : List (Tmp × Option Nat)} {ps : Plan} {V : VP} {Vr : List VP}
    (h : ∀ a w, Ext w0 w → factsL Vs a0 a w p → Obl P ops o a w V) (k : OpsOk P ops a0 w0 Vs os ps Vr) : OpsOk P ops a0 w0 Vs (o :: os) (p :: ps) (V :: Vr) := ⟨h, k⟩
theorem OpsOk.nil {P : Program} {ops : Array Oper} {a0 : Act} {w0 : World} {Vs : List VP} : OpsOk P ops a0 w0 Vs [] [] [] := trivial

section
variable {P : Program} {Q : Exit → Act → World → Prop}

theorem freeInv_start {ops : Array Oper} {Vs : List VP} {a0 : Act} {w0 w : World} (h : Ext w0 w) : FreeInv ops Vs a0 w0 (Array.replicate ops.size false) a0 w := by
  have hno : ∀ i, (Array.replicate ops.size false).getD i false = false := fun i => by
    simp only [Array.getD_eq_getD_getElem?, Array.getElem?_replicate]; split <;> rfl
  exact ⟨h, rfl, rfl, fun i o t _ _ hl => (by rw [hno i] at hl; cases hl), fun _ _ => rfl, fun j o _ hl => (by rw [hno j] at hl; cases hl), by simp⟩

theorem end_facts {l : List Oper} {Vs : List VP} {a0 a : Act} {w0 w : World} {listed : Array Bool} (h : FreeInv l.toArray Vs a0 w0 listed a w)
    (hall : ∀ i, i < l.toArray.size → listed.getD i true = true) : DstFacts l Vs a w ∧ Same (dstsOf l) a0 a := by
  have hget : ∀ j : Nat, l[j]? = l.toArray[j]? := fun j => by simp
  refine ⟨fun i t hi => ?_, fun t ht => ?_⟩
  · cases ho : l[i]? with
    | none => rw [ho] at hi; cases hi
    | some o =>
      rw [ho] at hi
      have ho' : l.toArray[i]? = some o := by rw [← hget]; exact ho
      refine h.vals i o t ho' hi ?_
      have hjs := (Array.getElem?_eq_some_iff.1 ho').1
      have hl : i < listed.size := by rw [h.lsize]; exact hjs
      have := hall i hjs
      simp only [Array.getD_eq_getD_getElem?, Array.getElem?_eq_getElem hl, Option.getD_some] at this ⊢
      exact this
  · refine h.rest t fun i o ho hd => ?_
    exfalso
    have hol : l[i]? = some o := by rw [hget]; exact ho
    have hm : t ∈ dstsOf l := List.mem_filterMap.2 ⟨o, List.mem_of_getElem? hol, hd⟩
    rw [← List.contains_iff_mem] at hm
    rw [hm] at ht; cases ht

theorem wpList_of_free {l : List Oper} {a0 : Act} {w0 : World} {n : Nat} {pl : Plan} {Vs : List VP} {rest : List Oper} {ops : Array Oper} (hB : freeB l.toArray n pl = true) (hn : a0.tmps.size = n)
    (hst : StableAll Vs) (hops : OpsOk P l.toArray a0 w0 Vs l pl Vs) (hpre : ∀ j : Nat, j < l.length → ∀ a : Act, yielded ops a.tmps j = yielded l.toArray a.tmps j)
    (hg : ∀ (o : Oper) g b, o ∈ l → o.guard = some (g, b) → g < l.length)
    (hend : ∀ a w, Ext w0 w → a.tmps.size = a0.tmps.size → a.defers = a0.defers → DstFacts l Vs a w → Same (dstsOf l) a0 a → wpList P ops Q rest a w) :
    ∀ (m : List Oper) (j : Nat) (listed : Array Bool) (a : Act) (w : World), l.drop j = m → FreeInv l.toArray Vs a0 w0 listed a w → (∀ i, i < l.toArray.size → listed.getD i false = decide (i < j)) → wpList P ops Q (m ++ rest) a w := by
  have hB' := hB
  unfold freeB at hB'
  simp only [Bool.and_eq_true] at hB'
  obtain ⟨⟨hW, hD⟩, hP⟩ := hB'
  intro m
  induction m with
  | nil =>
    intro j listed a w hj h hl
    have hjl : l.length ≤ j := List.drop_eq_nil_iff.1 hj
    obtain ⟨h1, h2⟩ := end_facts h (fun i hi => by
      have hli : i < listed.size := by rw [h.lsize]; exact hi
      have h3 := hl i hi
      simp only [List.size_toArray] at hi
      rw [decide_eq_true (by omega)] at h3
      simp only [Array.getD_eq_getD_getElem?, Array.getElem?_eq_getElem hli, Option.getD_some] at h3 ⊢
      exact h3)
    exact hend a w h.ext h.size h.defers h1 h2
  | cons o m ih =>
    intro j listed a w hj h hl
    have hjl : j < l.length := by
      rcases Nat.lt_or_ge j l.length with h | h
      · exact h
      · rw [List.drop_eq_nil_iff.2 h] at hj; cases hj
    have ho : l.toArray[j]? = some o := by
      have : (l.drop j)[0]? = some o := by rw [hj]; rfl
      simpa using this
    have hmem : o ∈ l := List.mem_of_getElem? (by simpa using ho)
    have hjs : j < l.toArray.size := by simpa using hjl
    have hli : j < listed.size := by rw [h.lsize]; exact hjs
    have hun : listed.getD j false = false := by rw [hl j hjs]; simp
    have hun' : listed.getD j true = false := by
      simp only [Array.getD_eq_getD_getElem?, Array.getElem?_eq_getElem hli, Option.getD_some] at hun ⊢
      exact hun
    have hall : ∀ e ∈ o.after, Region.binds .any e = true → listed.getD e.on false = true := fun e he hb => by
      have := (waits_spec hW ho).1 e he hb
      rw [hl e.on (by omega)]; simpa using this
    have hi : j ∈ Region.ready .any l.toArray listed := mem_ready.2 ⟨hun', o, ho, hall⟩
    obtain ⟨p, hp, hobl⟩ := opsOk_at (B := Region.before l.toArray) l pl Vs 0 hops hP j o (by simpa using ho)
    simp only [Nat.zero_add] at hp
    have hob := hobl a w h.ext (factsL_of hW h ho hun hall p hp)
    have next : ∀ v w', Ext w w' → (Vs.getD j VP.top) v w' → wpList P ops Q (m ++ rest) (a.put o.dst v) w' := fun v w' he hv => by
      refine ih (j + 1) _ _ _ (by rw [← List.drop_drop, hj]; rfl) (free_put (stable_at Vs hst) hn hD h hi ho he hv) fun i hi' => ?_
      by_cases e : i = j
      · subst e
        have : (listed.setIfInBounds i true).getD i false = true := by simp [hli]
        rw [this]; simp
      · rw [getD_set_ne false (fun h => e h.symm), hl i hi']
        have : (i < j) ↔ (i < j + 1) := by omega
        simp [this]
    have hwant : Region.wanted o (yielded ops a.tmps) = Region.wanted o (yielded l.toArray a.tmps) := by
      unfold Region.wanted
      cases hgu : o.guard with
      | none => rfl
      | some g => obtain ⟨g, b⟩ := g; simp only []; rw [hpre g (hg o g b hmem hgu)]
    show wpList P ops Q (o :: (m ++ rest)) a w
    unfold wpList
    rw [hwant]
    unfold Obl at hob
    split
    · rename_i hw
      rw [if_pos hw] at hob
      left
      unfold OpOk at hob
      unfold Oper.wp
      generalize (execOp a.eval o).run P w = r at hob
      cases r with
      | halt x w' => exact hob.elim
      | ok nx w' =>
        cases nx <;> first | exact hob.elim | skip
        case value v => exact next v w' hob.1 hob.2
        case skip => exact next undef w' hob.1 hob.2
        case enter f args => exact hob.2.mono fun e w'' ⟨v, he, hx, hv⟩ => by subst he; exact next v w'' hx hv
    · rename_i hw
      rw [if_neg hw] at hob
      exact next undef w (Ext.refl _) hob

def guardsIn (l : List Oper) : Bool := l.all fun o => match o.guard with | none => true | some (g, _) => decide (g < l.length)

/-- The first operations of a region that does not draw; the rest is walked on from any later state. -/
theorem wp_reg_pre {id : Nat} {l rest : List Oper} {a : Act} {w : World} (n : Nat) (pl : Plan) (Vs : List VP) (hfr : FrD dfs n a) (hst : StbAll Vs)
    (hops : OpsOk P l.toArray a w Vs l pl Vs)
    (hend : ∀ a' w', Ext w w' → FrD dfs n a' → DstFacts l Vs a' w' → Same (dstsOf l) a a' → wpList P (l ++ rest).toArray Q rest a' w') (hB : freeB l.toArray n pl = true := by kernel_rfl) (hgd : guardsIn l = true := by kernel_rfl) : (Code.region id (l ++ rest).toArray false).wp P Q a w := by
  refine wp_region_lit ?_
  refine wpList_of_free hB hfr.1 hst.st hops (fun j hj a' => ?_) (fun o g b ho hg => ?_) (fun a' w' hx h1 h2 h3 h4 => hend a' w' hx ⟨h1.trans hfr.1, h2.trans hfr.2⟩ h3 h4) l 0 _ a w rfl (freeInv_start (Ext.refl w)) (fun i hi => ?_)
  · unfold yielded
    rw [show (l ++ rest).toArray[j]? = l.toArray[j]? from by simp [List.getElem?_append_left hj]]
  · unfold guardsIn at hgd
    rw [List.all_eq_true] at hgd
    have := hgd o ho
    rw [hg] at this
    simpa using this
  · simp only [Array.getD_eq_getD_getElem?, Array.getElem?_replicate]
    split <;> simp

/-- **A REGION, WHETHER IT DRAWS ITS ORDER OR NOT.** -/
theorem wp_reg {id : Nat} {l : List Oper} {d : Bool} {a : Act} {w : World} (n : Nat) (pl : Plan) (Vs : List VP) (hm : P.follows .mixedOrders = true) (hfr : FrD dfs n a) (hst : StbAll Vs)
    (hops : OpsOk P l.toArray a w Vs l pl Vs)
    (hend : ∀ a' w', Ext w w' → FrD dfs n a' → DstFacts l Vs a' w' → Same (dstsOf l) a a' → Q .normal a' w') (hB : freeB l.toArray n pl = true := by kernel_rfl) (hgd : guardsIn l = true := by kernel_rfl) : (Code.region id l.toArray d).wp P Q a w := by
  cases d with
  | true =>
    refine wp_region_any hm ?_
    refine wpAny_of_free (w0 := w) hfr.1 hB hst.st hops (fun a' w' listed h hall => ?_) _ _ _ _ (freeInv_start (Ext.draw1 w)) (by unfold unlisted; simp)
    obtain ⟨h1, h2⟩ := end_facts h hall
    exact hend a' w' h.ext ⟨h.size.trans hfr.1, h.defers.trans hfr.2⟩ h1 h2
  | false =>
    have := wp_reg_pre (P := P) (Q := Q) (id := id) (rest := []) n pl Vs hfr hst hops (fun a' w' hx h1 h2 h3 => wpList_nil (hend a' w' hx h1 h2 h3)) hB hgd
    simpa using this

theorem keep {V : VP} {ds : List Tmp} {a a' : Act} {w w' : World} [h : Stb V] (hx : Ext w w') (hs : Same ds a a') {t : Tmp} (s : V (a.eval (.tmp t)) w) (ht : ds.contains t = false) : V (a'.eval (.tmp t)) w' := by
  rw [hs t ht]; exact h.st _ _ _ hx s
theorem later {V : VP} {v : Value} {w w' : World} [h : Stb V] (hx : Ext w w') (s : V v w) : V v w' := h.st _ _ _ hx s
theorem exit_then {K : Act → World → Prop} {a : Act} {w : World} (h : K a w) : Exit.then K Q .normal a w := h
theorem then_ret {K : Act → World → Prop} {a : Act} {w : World} (h : Q .ret a w) : Exit.then K Q .ret a w := h
theorem then_exit {K : Act → World → Prop} {i : Nat} {a : Act} {w : World} (h : Q (.exit i) a w) : Exit.then K Q (.exit i) a w := h
theorem blk_normal {i : Nat} {a : Act} {w : World} (h : Q .normal a w) : Exit.inBlock i Q .normal a w := h
theorem blk_ret {i : Nat} {a : Act} {w : World} (h : Q .ret a w) : Exit.inBlock i Q .ret a w := h
theorem blk_exit {i : Nat} {a : Act} {w : World} (h : Q .normal a w) : Exit.inBlock i Q (.exit i) a w := by simp only [Exit.inBlock, if_true]; exact h
theorem blk_pass {i j : Nat} {a : Act} {w : World} (hn : (j == i) = false) (h : Q (.exit j) a w) : Exit.inBlock i Q (.exit j) a w := by
  simp only [Exit.inBlock]; rw [if_neg (by simpa using hn)]; exact h

/-! ## Contracts -/

/-- What a call hands back; the world is a later one. -/
def Ret (V : VP) (w : World) : Ending → World → Prop := fun e w' => ∃ v, e = .returned v ∧ Ext w w' ∧ V v w'

theorem enter {f : FuncId} {fn : Func} {c : Code} {args : Array Value} {w : World} {R : Ending → World → Prop} (hf : P.funcs[f]? = some fn) (hb : fn.body = some c) {n k : Nat} (hn : fn.ntmps = n) (hk : args.size = k) (hkn : k ≤ n)
    (h : ∀ a : Act, Fr n a → (∀ i, i < k → a.eval (.tmp i) = args.getD i undef) → c.wp P (bodyPost P fn R) a w) : Calls P f args w R := by
  refine calls_of_wp hf hb (h _ ⟨by simp [hn, hk]; omega, rfl⟩ fun i hi => ?_)
  show (args ++ Array.replicate (fn.ntmps - args.size) undef).getD i undef = _
  simp only [Array.getD_eq_getD_getElem?]
  rw [Array.getElem?_append_left (by omega)]

theorem ret_tmp {fn : Func} {t : Tmp} {n : Nat} {V : VP} {w0 : World} {a : Act} {w : World} (hr : fn.results = #[.tmp t]) (hfr : Fr n a) (hx : Ext w0 w) (hv : V (a.eval (.tmp t)) w) : bodyPost P fn (Ret V w0) .ret a w :=
  ⟨hfr.2, _, results_tmp hr _ _ _, _, rfl, hx, hv⟩
theorem ret_tmp2 {fn : Func} {t u : Tmp} {n : Nat} {V : VP} {w0 : World} {a : Act} {w : World} (hr : fn.results = #[.tmp t, .tmp u]) (hfr : Fr n a) (hx : Ext w0 w) (hv : V (.tuple #[a.eval (.tmp t), a.eval (.tmp u)]) w) : bodyPost P fn (Ret V w0) .ret a w :=
  ⟨hfr.2, _, results_tmp2 hr _ _ _, _, rfl, hx, hv⟩

theorem wp_cut {x : Code} {a : Act} {w : World} {K : Act → World → Prop} (R : Act → World → Prop) (hx : x.wp P (Exit.then R Q) a w) (hy : ∀ a w, R a w → K a w) : x.wp P (Exit.then K Q) a w :=
  wp_mono hx fun e a' w' h => by cases e <;> first | exact hy _ _ h | exact h

theorem wp_loop_inv {c : Code} {a : Act} {w : World} (I : Nat → Act → World → Prop) (h₀ : ∃ n₀, I n₀ a w)
    (round : ∀ n a w, I n a w → c.wp P (Exit.then (fun a' w' => ∃ n', n' < n ∧ I n' a' w') Q) a w) : (Code.loop c).wp P Q a w := let ⟨n₀, h⟩ := h₀; wp_loop_ghost I n₀ h round

theorem sarg {V : VP} {x : Value} {a : Act} {y : Operand} {w : World} (h : V x w) (e : a.eval y = x) : V (a.eval y) w := by rw [e]; exact h
theorem Same.refl {ds : List Tmp} {a : Act} : Same ds a a := fun _ _ => rfl
theorem Same.trans {ds es fs : List Tmp} {a b c : Act} (h : Same ds a b) (k : Same es b c) (hs : (ds.all fun t => fs.contains t) = true) (ht : (es.all fun t => fs.contains t) = true) : Same fs a c := fun t hn => by
  have hd : ds.contains t = false := by
    cases hc : ds.contains t with
    | false => rfl
    | true => rw [List.contains_iff_mem] at hc; have := List.all_eq_true.1 hs t hc; rw [hn] at this; cases this
  have he : es.contains t = false := by
    cases hc : es.contains t with
    | false => rfl
    | true => rw [List.contains_iff_mem] at hc; have := List.all_eq_true.1 ht t hc; rw [hn] at this; cases this
  rw [k t he, h t hd]

/-! Facts carried from a frame to a later one, in the goal's own premises. -/
theorem kp1 {G : Prop} {V0 : VP} {u0 : World} {t0 : Tmp} {ds : List Tmp} {a a' : Act} (hs : Same ds a a') (ht : (!ds.contains t0) = true) (k : V0 (a'.eval (.tmp t0)) u0 → G) : V0 (a.eval (.tmp t0)) u0 → G := fun h0 => by
  simp only [Bool.not_eq_true'] at ht
  have e0 := ht
  exact k (by rw [hs _ e0]; exact h0)
theorem kp2 {G : Prop} {V0 V1 : VP} {u0 u1 : World} {t0 t1 : Tmp} {ds : List Tmp} {a a' : Act} (hs : Same ds a a') (ht : (!ds.contains t0 && !ds.contains t1) = true) (k : V0 (a'.eval (.tmp t0)) u0 → V1 (a'.eval (.tmp t1)) u1 → G) : V0 (a.eval (.tmp t0)) u0 → V1 (a.eval (.tmp t1)) u1 → G := fun h0 h1 => by
  simp only [Bool.and_eq_true, Bool.not_eq_true'] at ht
  obtain ⟨e0, e1⟩ := ht
  exact k (by rw [hs _ e0]; exact h0) (by rw [hs _ e1]; exact h1)
theorem kp3 {G : Prop} {V0 V1 V2 : VP} {u0 u1 u2 : World} {t0 t1 t2 : Tmp} {ds : List Tmp} {a a' : Act} (hs : Same ds a a') (ht : (!ds.contains t0 && !ds.contains t1 && !ds.contains t2) = true) (k : V0 (a'.eval (.tmp t0)) u0 → V1 (a'.eval (.tmp t1)) u1 → V2 (a'.eval (.tmp t2)) u2 → G) : V0 (a.eval (.tmp t0)) u0 → V1 (a.eval (.tmp t1)) u1 → V2 (a.eval (.tmp t2)) u2 → G := fun h0 h1 h2 => by
  simp only [Bool.and_eq_true, Bool.not_eq_true'] at ht
  obtain ⟨⟨e0, e1⟩, e2⟩ := ht
  exact k (by rw [hs _ e0]; exact h0) (by rw [hs _ e1]; exact h1) (by rw [hs _ e2]; exact h2)
theorem kp4 {G : Prop} {V0 V1 V2 V3 : VP} {u0 u1 u2 u3 : World} {t0 t1 t2 t3 : Tmp} {ds : List Tmp} {a a' : Act} (hs : Same ds a a') (ht : (!ds.contains t0 && !ds.contains t1 && !ds.contains t2 && !ds.contains t3) = true) (k : V0 (a'.eval (.tmp t0)) u0 → V1 (a'.eval (.tmp t1)) u1 → V2 (a'.eval (.tmp t2)) u2 → V3 (a'.eval (.tmp t3)) u3 → G) : V0 (a.eval (.tmp t0)) u0 → V1 (a.eval (.tmp t1)) u1 → V2 (a.eval (.tmp t2)) u2 → V3 (a.eval (.tmp t3)) u3 → G := fun h0 h1 h2 h3 => by
  simp only [Bool.and_eq_true, Bool.not_eq_true'] at ht
  obtain ⟨⟨⟨e0, e1⟩, e2⟩, e3⟩ := ht
  exact k (by rw [hs _ e0]; exact h0) (by rw [hs _ e1]; exact h1) (by rw [hs _ e2]; exact h2) (by rw [hs _ e3]; exact h3)
theorem kp5 {G : Prop} {V0 V1 V2 V3 V4 : VP} {u0 u1 u2 u3 u4 : World} {t0 t1 t2 t3 t4 : Tmp} {ds : List Tmp} {a a' : Act} (hs : Same ds a a') (ht : (!ds.contains t0 && !ds.contains t1 && !ds.contains t2 && !ds.contains t3 && !ds.contains t4) = true) (k : V0 (a'.eval (.tmp t0)) u0 → V1 (a'.eval (.tmp t1)) u1 → V2 (a'.eval (.tmp t2)) u2 → V3 (a'.eval (.tmp t3)) u3 → V4 (a'.eval (.tmp t4)) u4 → G) : V0 (a.eval (.tmp t0)) u0 → V1 (a.eval (.tmp t1)) u1 → V2 (a.eval (.tmp t2)) u2 → V3 (a.eval (.tmp t3)) u3 → V4 (a.eval (.tmp t4)) u4 → G := fun h0 h1 h2 h3 h4 => by
  simp only [Bool.and_eq_true, Bool.not_eq_true'] at ht
  obtain ⟨⟨⟨⟨e0, e1⟩, e2⟩, e3⟩, e4⟩ := ht
  exact k (by rw [hs _ e0]; exact h0) (by rw [hs _ e1]; exact h1) (by rw [hs _ e2]; exact h2) (by rw [hs _ e3]; exact h3) (by rw [hs _ e4]; exact h4)
theorem kp6 {G : Prop} {V0 V1 V2 V3 V4 V5 : VP} {u0 u1 u2 u3 u4 u5 : World} {t0 t1 t2 t3 t4 t5 : Tmp} {ds : List Tmp} {a a' : Act} (hs : Same ds a a') (ht : (!ds.contains t0 && !ds.contains t1 && !ds.contains t2 && !ds.contains t3 && !ds.contains t4 && !ds.contains t5) = true) (k : V0 (a'.eval (.tmp t0)) u0 → V1 (a'.eval (.tmp t1)) u1 → V2 (a'.eval (.tmp t2)) u2 → V3 (a'.eval (.tmp t3)) u3 → V4 (a'.eval (.tmp t4)) u4 → V5 (a'.eval (.tmp t5)) u5 → G) : V0 (a.eval (.tmp t0)) u0 → V1 (a.eval (.tmp t1)) u1 → V2 (a.eval (.tmp t2)) u2 → V3 (a.eval (.tmp t3)) u3 → V4 (a.eval (.tmp t4)) u4 → V5 (a.eval (.tmp t5)) u5 → G := fun h0 h1 h2 h3 h4 h5 => by
  simp only [Bool.and_eq_true, Bool.not_eq_true'] at ht
  obtain ⟨⟨⟨⟨⟨e0, e1⟩, e2⟩, e3⟩, e4⟩, e5⟩ := ht
  exact k (by rw [hs _ e0]; exact h0) (by rw [hs _ e1]; exact h1) (by rw [hs _ e2]; exact h2) (by rw [hs _ e3]; exact h3) (by rw [hs _ e4]; exact h4) (by rw [hs _ e5]; exact h5)

theorem Same.tr {ds es : List Tmp} {a b c : Act} (h : Same ds a b) (k : Same es b c) (ht : (es.all fun t => ds.contains t) = true) : Same ds a c := fun t hn => by
  have he : es.contains t = false := by
    cases hc : es.contains t with
    | false => rfl
    | true => rw [List.contains_iff_mem] at hc; have := List.all_eq_true.1 ht t hc; rw [hn] at this; cases this
  rw [k t he, h t hn]
theorem Same.rfl {ds : List Tmp} {a : Act} : Same ds a a := Same.refl
theorem q0 (V : VP) (a : Act) (w : World) (t : Tmp) {r : Prop} (h : V (a.eval (.tmp t)) w ∧ r) : V (a.eval (.tmp t)) w := h.1
theorem r0 {q r : Prop} (h : q ∧ r) : q := h.1
theorem q1 (V : VP) (a : Act) (w : World) (t : Tmp) {p0 r : Prop} (h : p0 ∧ V (a.eval (.tmp t)) w ∧ r) : V (a.eval (.tmp t)) w := h.2.1
theorem r1 {p0 q r : Prop} (h : p0 ∧ q ∧ r) : q := h.2.1
theorem q2 (V : VP) (a : Act) (w : World) (t : Tmp) {p0 p1 r : Prop} (h : p0 ∧ p1 ∧ V (a.eval (.tmp t)) w ∧ r) : V (a.eval (.tmp t)) w := h.2.2.1
theorem r2 {p0 p1 q r : Prop} (h : p0 ∧ p1 ∧ q ∧ r) : q := h.2.2.1
theorem q3 (V : VP) (a : Act) (w : World) (t : Tmp) {p0 p1 p2 r : Prop} (h : p0 ∧ p1 ∧ p2 ∧ V (a.eval (.tmp t)) w ∧ r) : V (a.eval (.tmp t)) w := h.2.2.2.1
theorem r3 {p0 p1 p2 q r : Prop} (h : p0 ∧ p1 ∧ p2 ∧ q ∧ r) : q := h.2.2.2.1
theorem q4 (V : VP) (a : Act) (w : World) (t : Tmp) {p0 p1 p2 p3 r : Prop} (h : p0 ∧ p1 ∧ p2 ∧ p3 ∧ V (a.eval (.tmp t)) w ∧ r) : V (a.eval (.tmp t)) w := h.2.2.2.2.1
theorem r4 {p0 p1 p2 p3 q r : Prop} (h : p0 ∧ p1 ∧ p2 ∧ p3 ∧ q ∧ r) : q := h.2.2.2.2.1
theorem q5 (V : VP) (a : Act) (w : World) (t : Tmp) {p0 p1 p2 p3 p4 r : Prop} (h : p0 ∧ p1 ∧ p2 ∧ p3 ∧ p4 ∧ V (a.eval (.tmp t)) w ∧ r) : V (a.eval (.tmp t)) w := h.2.2.2.2.2.1
theorem r5 {p0 p1 p2 p3 p4 q r : Prop} (h : p0 ∧ p1 ∧ p2 ∧ p3 ∧ p4 ∧ q ∧ r) : q := h.2.2.2.2.2.1
theorem q6 (V : VP) (a : Act) (w : World) (t : Tmp) {p0 p1 p2 p3 p4 p5 r : Prop} (h : p0 ∧ p1 ∧ p2 ∧ p3 ∧ p4 ∧ p5 ∧ V (a.eval (.tmp t)) w ∧ r) : V (a.eval (.tmp t)) w := h.2.2.2.2.2.2.1
theorem r6 {p0 p1 p2 p3 p4 p5 q r : Prop} (h : p0 ∧ p1 ∧ p2 ∧ p3 ∧ p4 ∧ p5 ∧ q ∧ r) : q := h.2.2.2.2.2.2.1
theorem q7 (V : VP) (a : Act) (w : World) (t : Tmp) {p0 p1 p2 p3 p4 p5 p6 r : Prop} (h : p0 ∧ p1 ∧ p2 ∧ p3 ∧ p4 ∧ p5 ∧ p6 ∧ V (a.eval (.tmp t)) w ∧ r) : V (a.eval (.tmp t)) w := h.2.2.2.2.2.2.2.1
theorem r7 {p0 p1 p2 p3 p4 p5 p6 q r : Prop} (h : p0 ∧ p1 ∧ p2 ∧ p3 ∧ p4 ∧ p5 ∧ p6 ∧ q ∧ r) : q := h.2.2.2.2.2.2.2.1
theorem q8 (V : VP) (a : Act) (w : World) (t : Tmp) {p0 p1 p2 p3 p4 p5 p6 p7 r : Prop} (h : p0 ∧ p1 ∧ p2 ∧ p3 ∧ p4 ∧ p5 ∧ p6 ∧ p7 ∧ V (a.eval (.tmp t)) w ∧ r) : V (a.eval (.tmp t)) w := h.2.2.2.2.2.2.2.2.1
theorem r8 {p0 p1 p2 p3 p4 p5 p6 p7 q r : Prop} (h : p0 ∧ p1 ∧ p2 ∧ p3 ∧ p4 ∧ p5 ∧ p6 ∧ p7 ∧ q ∧ r) : q := h.2.2.2.2.2.2.2.2.1
theorem q9 (V : VP) (a : Act) (w : World) (t : Tmp) {p0 p1 p2 p3 p4 p5 p6 p7 p8 r : Prop} (h : p0 ∧ p1 ∧ p2 ∧ p3 ∧ p4 ∧ p5 ∧ p6 ∧ p7 ∧ p8 ∧ V (a.eval (.tmp t)) w ∧ r) : V (a.eval (.tmp t)) w := h.2.2.2.2.2.2.2.2.2.1
theorem r9 {p0 p1 p2 p3 p4 p5 p6 p7 p8 q r : Prop} (h : p0 ∧ p1 ∧ p2 ∧ p3 ∧ p4 ∧ p5 ∧ p6 ∧ p7 ∧ p8 ∧ q ∧ r) : q := h.2.2.2.2.2.2.2.2.2.1
/-- .. of a slot that stood ahead of the region: at the region's own first world; at an earlier one. -/
theorem o1 {V : VP} {a0 a : Act} {w0 w : World} {x : Operand} [h : Stb V] (s : V (a0.eval x) w0) (hx : Ext w0 w) (e : a.eval x = a0.eval x) : V (a.eval x) w := by rw [e]; exact h.st _ _ _ hx s
theorem o2 {V : VP} {a0 a : Act} {w1 w0 w : World} {x : Operand} [h : Stb V] (s : V (a0.eval x) w1) (k : Ext w1 w0) (hx : Ext w0 w) (e : a.eval x = a0.eval x) : V (a.eval x) w := by rw [e]; exact h.st _ _ _ (k.trans hx) s
theorem p1 {V : VP} {a0 a : Act} {w0 w : World} {x y : Operand} [h : Stb V] (s : V (a0.eval x) w0) (hx : Ext w0 w) (e : a.eval y = a0.eval x) : V (a.eval y) w := by rw [e]; exact h.st _ _ _ hx s
theorem p2 {V : VP} {a0 a : Act} {w1 w0 w : World} {x y : Operand} [h : Stb V] (s : V (a0.eval x) w1) (k : Ext w1 w0) (hx : Ext w0 w) (e : a.eval y = a0.eval x) : V (a.eval y) w := by rw [e]; exact h.st _ _ _ (k.trans hx) s
/-- An operation under a guard: 't' is where the guard's value lies. -/
def Gd (P : Program) (t : Tmp) (b : Bool) (o : Oper) (a : Act) (w : World) (V : VP) : Prop :=
  match a.eval (.tmp t) with
  | .bool p => if (p == b) = true then OpOk P o a w V else V undef w
  | _ => V undef w
theorem ocg {P : Program} {ops : Array Oper} {a0 : Act} {w0 : World} {Vs : List VP} {d : Option Tmp} {op : Op} {ty : TypeId} {pos : String} {af : Array Edge} {j : Nat} {b : Bool} {os : List Oper} {p : List (Tmp × Option Nat)} {ps : Plan} {V : VP} {Vr : List VP}
    (t : Tmp) (hd : (ops[j]?).bind (·.dst) = some t) (h : ∀ a w, Ext w0 w → factsL Vs a0 a w p → Gd P t b ⟨d, op, ty, pos, af, some (j, b)⟩ a w V) (k : OpsOk P ops a0 w0 Vs os ps Vr) :
    OpsOk P ops a0 w0 Vs (⟨d, op, ty, pos, af, some (j, b)⟩ :: os) (p :: ps) (V :: Vr) := by
  refine ⟨fun a w hx hf => ?_, k⟩
  have h1 := h a w hx hf
  unfold Obl Region.wanted
  have hy : yielded ops a.tmps j = match a.eval (.tmp t) with | .bool p => some p | _ => none := by
    unfold yielded
    rw [hd]
    show (match a.tmps[t]? with | some (.bool b) => some b | _ => none) = match a.tmps.getD t undef with | .bool p => some p | _ => none
    rw [Array.getD_eq_getD_getElem?]
    cases a.tmps[t]? with
    | none => rfl
    | some v => cases v <;> rfl
  simp only [hy]
  unfold Gd at h1
  generalize a.eval (.tmp t) = v at h1
  cases v with
  | bool p => simpa using h1
  | _ => simpa using h1
end

end Go.Proofs.Ytpjpfmnnefgnbaa
