/- A region that draws its order: first what yields the same in every world, then what only reads, in any order, then what writes, in one. -/
import Derived.Test.YtpjpfmnnefgnbaaY
namespace Go.Proofs.Ytpjpfmnnefgnbaa
set_option linter.unusedVariables false
set_option linter.unusedSimpArgs false
open Go.RowKit
variable {dfs : List Deferred}

instance : Stb VP.top := ⟨fun _ _ _ _ _ => trivial⟩
def tailOk (B : Array Nat) : List Nat → Bool
  | [] => true
  | j :: T => T.all (fun k => k != j && (B.getD k 0).testBit j) && tailOk B T
def planL (ops : Array Oper) (B : Array Nat) (L : Array Bool) : Nat → List Oper → List Bool → Plan → Bool
  | j, _ :: os, s :: sk, p :: ps => (s || p.all fun x => match x with
      | (t, some k) => ((ops[k]?).bind (·.dst)) == some t && (B.getD j 0).testBit k && !L.getD k false
      | (t, none) => ops.zipIdx.all fun (o', k) => o'.dst != some t || k == j || L.getD k false || (B.getD k 0).testBit j) && planL ops B L (j + 1) os sk ps
  | _, [], _, _ => true
  | _, _, _, _ => false
/-- 'L': what is listed already; 'T': what writes, in its order; 'sk': which have no obligation. -/
def selB (ops : Array Oper) (L : Array Bool) (sk : List Bool) (T : List Nat) (n : Nat) (pl : Plan) : Bool :=
  waitsOk ops (Region.before ops) && dstsOk ops n && planL ops (Region.before ops) L 0 ops.toList sk pl && tailOk (Region.before ops) T &&
  L.size == ops.size && T.all (fun j => decide (j < ops.size) && !L.getD j false) &&
  (List.range ops.size).all (fun i => L.getD i false || T.contains i || T.all fun j => ((Region.before ops).getD j 0).testBit i) &&
  (List.range ops.size).all (fun i => sk.getD i false == (L.getD i false || T.contains i)) &&
  ops.zipIdx.all fun (o, j) => !L.getD j false || o.after.all fun e => !Region.binds .any e || L.getD e.on false

def OpsOkL (P : Program) (ops : Array Oper) (a0 : Act) (w0 : World) (Vs : List VP) : List Oper → List Bool → Plan → List VP → Prop
  | o :: os, s :: sk, p :: ps, V :: Vr => (s = false → ∀ a w, Ext w0 w → factsL Vs a0 a w p → Obl P ops o a w V) ∧ OpsOkL P ops a0 w0 Vs os sk ps Vr
  | [], _, _, _ => True
  | _, _, _, _ => False

section
variable {P : Program} {ops : Array Oper} {Q : Exit → Act → World → Prop}

structure FreeL (ops : Array Oper) (L : Array Bool) (Vs : List VP) (a0 : Act) (w0 : World) (listed : Array Bool) (a : Act) (w : World) : Prop where
  ext : Ext w0 w
  size : a.tmps.size = a0.tmps.size
  defers : a.defers = a0.defers
  vals : ∀ i o t, ops[i]? = some o → o.dst = some t → L.getD i false = false → listed.getD i false = true → (Vs.getD i VP.top) (a.tmps.getD t undef) w
  rest : ∀ t, (∀ i o, ops[i]? = some o → o.dst = some t → listed.getD i false = false ∨ L.getD i false = true) → a.tmps.getD t undef = a0.tmps.getD t undef
  closed : ∀ j o, ops[j]? = some o → listed.getD j false = true → ∀ e ∈ o.after, Region.binds .any e = true → listed.getD e.on false = true
  lsize : listed.size = ops.size
  sub : ∀ i, L.getD i false = true → listed.getD i false = true

theorem freeL_put {L : Array Bool} {Vs : List VP} {a0 a : Act} {w0 w w' : World} {listed : Array Bool} {n i : Nat} {o : Oper} {v : Value}
    (hst : ∀ k, (Vs.getD k VP.top).Stable) (hn : a0.tmps.size = n) (hd : dstsOk ops n = true) (h : FreeL ops L Vs a0 w0 listed a w)
    (hi : i ∈ Region.ready .any ops listed) (ho : ops[i]? = some o) (he : Ext w w') (hv : (Vs.getD i VP.top) v w') :
    FreeL ops L Vs a0 w0 (listed.setIfInBounds i true) (a.put o.dst v) w' := by
  obtain ⟨hun, o1, ho1, hall⟩ := mem_ready.1 hi
  rw [ho] at ho1
  obtain rfl : o = o1 := by simpa using ho1
  have his : i < ops.size := (Array.getElem?_eq_some_iff.1 ho).1
  have hil : i < listed.size := by rw [h.lsize]; exact his
  have hun' : listed.getD i false = false := by
    simp only [Array.getD_eq_getD_getElem?, Array.getElem?_eq_getElem hil, Option.getD_some] at hun ⊢
    exact hun
  have hLi : L.getD i false = false := by
    cases hb : L.getD i false with
    | false => rfl
    | true => have := h.sub i hb; rw [hun'] at this; cases this
  have hset : ∀ j, (listed.setIfInBounds i true).getD j false = true → j = i ∨ listed.getD j false = true := fun j hj => by
    by_cases e : i = j
    · exact .inl e.symm
    · rw [getD_set_ne false e] at hj; exact .inr hj
  have hti : (listed.setIfInBounds i true).getD i false = true := by
    simp only [Array.getD_eq_getD_getElem?, Array.getElem?_setIfInBounds, if_pos, hil]
    simp
  refine ⟨h.ext.trans he, ?_, ?_, fun k o' t hk hdk hL hl => ?_, fun t ht => ?_, fun j o' hj hl e hm hb => ?_, by simp [h.lsize], fun k hk => getD_set_true (h.sub k hk)⟩
  · rw [← h.size]; cases o.dst <;> simp [Act.put]
  · rw [← h.defers]; cases o.dst <;> rfl
  · rcases hset k hl with rfl | hl'
    · rw [hk] at ho
      obtain rfl : o' = o := by simpa using ho
      rw [hdk, act_put_getD (by rw [h.size, hn]; exact (dst_spec hd hk hdk).1), if_pos rfl]
      exact hv
    · have := hst k _ _ _ he (h.vals k o' t hk hdk hL hl')
      cases hdo : o.dst with
      | none => exact this
      | some d =>
        have hb := (dst_spec hd ho hdo)
        rw [act_put_getD (by rw [h.size, hn]; exact hb.1)]
        by_cases e : t = d
        · subst e
          obtain rfl := hb.2 k o' hk hdk
          rw [hk] at ho
          obtain rfl : o' = o := by simpa using ho
          rw [if_pos rfl]; exact hv
        · rw [if_neg e]; exact this
  · have hprev := h.rest t (fun k o' hk hdk => by
      have := ht k o' hk hdk
      by_cases e : i = k
      · subst e
        rcases this with this | this
        · rw [hti] at this; cases this
        · exact .inr this
      · rwa [getD_set_ne false e] at this)
    cases hdo : o.dst with
    | none => exact hprev
    | some d =>
      rw [act_put_getD (by rw [h.size, hn]; exact (dst_spec hd ho hdo).1)]
      by_cases e : t = d
      · subst e
        have := ht i o ho hdo
        rcases this with this | this
        · rw [hti] at this; cases this
        · rw [hLi] at this; cases this
      · rw [if_neg e]; exact hprev
  · rcases hset j hl with rfl | hl'
    · rw [hj] at ho
      obtain rfl : o' = o := by simpa using ho
      exact getD_set_true (hall e hm hb)
    · exact getD_set_true (h.closed j o' hj hl' e hm hb)

theorem factsL_ofL {B : Array Nat} {L : Array Bool} {Vs : List VP} {a0 a : Act} {w0 w : World} {listed : Array Bool} {j : Nat} {o : Oper} (hW : waitsOk ops B = true)
    (h : FreeL ops L Vs a0 w0 listed a w) (ho : ops[j]? = some o) (hun : listed.getD j false = false)
    (hall : ∀ e ∈ o.after, Region.binds .any e = true → listed.getD e.on false = true) : ∀ (p : List (Tmp × Option Nat)),
    (p.all fun x => match x with
      | (t, some k) => ((ops[k]?).bind (·.dst)) == some t && (B.getD j 0).testBit k && !L.getD k false
      | (t, none) => ops.zipIdx.all fun (o', k) => o'.dst != some t || k == j || L.getD k false || (B.getD k 0).testBit j) = true → factsL Vs a0 a w p := by
  intro p
  induction p with
  | nil => intro _; trivial
  | cons x p ih =>
    intro hp
    rw [List.all_cons, Bool.and_eq_true] at hp
    obtain ⟨h1, h2⟩ := hp
    obtain ⟨t, s⟩ := x
    cases s with
    | none =>
      refine ⟨?_, ih h2⟩
      show a.tmps.getD t undef = a0.tmps.getD t undef
      refine h.rest t fun k o' hk hdk => ?_
      simp only [Array.all_eq_true_iff_forall_mem] at h1
      have := h1 (o', k) (by rw [Array.mem_zipIdx_iff_getElem?]; exact hk)
      simp only [hdk, bne_self_eq_false, Bool.false_or, Bool.or_eq_true, beq_iff_eq] at this
      rcases this with (rfl | hL) | hb
      · exact .inl hun
      · exact .inr hL
      · left
        cases hl : listed.getD k false with
        | false => rfl
        | true =>
          have := reach_listed hW h.closed k o' hk (h.closed k o' hk hl) j ((Array.getElem?_eq_some_iff.1 ho).1) hb
          rw [hun] at this; cases this
    | some k =>
      simp only [Bool.and_eq_true, beq_iff_eq, Bool.not_eq_true'] at h1
      obtain ⟨⟨hd, hb⟩, hL⟩ := h1
      obtain ⟨o', hk, hdk⟩ : ∃ o', ops[k]? = some o' ∧ o'.dst = some t := by
        cases hk : ops[k]? with
        | none => rw [hk] at hd; cases hd
        | some o' => rw [hk] at hd; exact ⟨o', rfl, hd⟩
      refine ⟨h.vals k o' t hk hdk hL ?_, ih h2⟩
      exact reach_listed hW h.closed j o ho hall k ((Array.getElem?_eq_some_iff.1 hk).1) hb

theorem opsOkL_at {a0 : Act} {w0 : World} {Vs : List VP} {B : Array Nat} {L : Array Bool} : ∀ (l : List Oper) (sk : List Bool) (pl : Plan) (Vr : List VP) (s : Nat),
    OpsOkL P ops a0 w0 Vs l sk pl Vr → planL ops B L s l sk pl = true → ∀ j o, l[j]? = some o → sk.getD j false = false → ∃ p,
      (p.all fun x => match x with
        | (t, some k) => ((ops[k]?).bind (·.dst)) == some t && (B.getD (s + j) 0).testBit k && !L.getD k false
        | (t, none) => ops.zipIdx.all fun (o', k) => o'.dst != some t || k == (s + j) || L.getD k false || (B.getD k 0).testBit (s + j)) = true ∧
      ∀ a w, Ext w0 w → factsL Vs a0 a w p → Obl P ops o a w (Vr.getD j VP.top) := by
  intro l
  induction l with
  | nil => intro sk pl Vr s _ _ j o hj; simp at hj
  | cons o1 l ih =>
    intro sk pl Vr s h hp j o hj hsk
    cases sk with
    | nil => simp [planL] at hp
    | cons s1 sk =>
      cases pl with
      | nil => simp [planL] at hp
      | cons p pl =>
        cases Vr with
        | nil => exact h.elim
        | cons V Vr =>
          unfold planL at hp
          rw [Bool.and_eq_true] at hp
          cases j with
          | zero =>
            obtain rfl : o1 = o := by simpa using hj
            have hs1 : s1 = false := by simpa using hsk
            subst hs1
            exact ⟨p, by simpa using hp.1, h.1 rfl⟩
          | succ j =>
            obtain ⟨q, hq, hr⟩ := ih sk pl Vr (s + 1) h.2 hp.2 j o (by simpa using hj) (by simpa using hsk)
            refine ⟨q, ?_, ?_⟩
            · rw [show s + (j + 1) = s + 1 + j from by omega]; exact hq
            · simpa using hr

theorem getD_tf {listed : Array Bool} {i : Nat} (h : i < listed.size) : listed.getD i true = listed.getD i false := by simp [h]

theorem wpAny_tailT {B : Array Nat} (hW : waitsOk ops B = true) : ∀ (T : List Nat) (fuel : Nat) (listed : Array Bool) (a : Act) (w : World), tailOk B T = true → (∀ j ∈ T, j < ops.size) → listed.size = ops.size →
      (∀ i, i < ops.size → listed.getD i false = !T.contains i) → (∀ j o, ops[j]? = some o → listed.getD j false = true → ∀ e ∈ o.after, Region.binds .any e = true → listed.getD e.on false = true) →
      unlisted listed ≤ fuel → wpList P ops Q (T.filterMap (ops[·]?)) a w → wpAny P .any ops Q fuel listed a w := by
  intro T
  induction T with
  | nil =>
    intro fuel listed a w _ _ hls hl _ hu h
    have hall : ∀ i, listed.getD i true = true := fun i => by
      rcases Nat.lt_or_ge i listed.size with hi | hi
      · rw [getD_tf hi, hl i (by omega)]; simp
      · simp [Array.getElem?_eq_none hi]
    have hr : Region.ready .any ops listed = [] := by
      cases hr : Region.ready .any ops listed with
      | nil => rfl
      | cons i l =>
        have : i ∈ Region.ready .any ops listed := by rw [hr]; exact List.mem_cons_self
        have := (mem_ready.1 this).1
        rw [hall i] at this; cases this
    cases fuel with
    | zero => exact ⟨hr, h⟩
    | succ fuel => exact ⟨fun _ => h, fun i hi => by rw [hr] at hi; cases hi⟩
  | cons j T ih =>
    intro fuel listed a w hT hlt hls hl hc hu h
    unfold tailOk at hT
    simp only [Bool.and_eq_true, List.all_eq_true, bne_iff_ne, ne_eq] at hT
    obtain ⟨hT1, hT2⟩ := hT
    have hjs : j < ops.size := hlt j List.mem_cons_self
    have ho : ops[j]? = some ops[j] := Array.getElem?_eq_getElem hjs
    have hjl : j < listed.size := by omega
    have hunf : listed.getD j false = false := by rw [hl j hjs]; simp
    have hun : listed.getD j true = false := by rw [getD_tf hjl]; exact hunf
    cases fuel with
    | zero => have := all_listed (Nat.le_zero.1 hu) j; rw [hun] at this; cases this
    | succ fuel =>
      refine ⟨fun hr => ?_, fun i hi => ?_⟩
      · have := ready_nil_all hW hr j hjs; rw [hun] at this; cases this
      · obtain ⟨h0, o', ho', hall⟩ := mem_ready.1 hi
        have his : i < ops.size := (Array.getElem?_eq_some_iff.1 ho').1
        have hiT : i = j ∨ i ∈ T := by
          rw [getD_tf (by omega), hl i his] at h0
          rcases Nat.decEq i j with h | h
          · exact .inr (by simpa [h] using h0)
          · exact .inl h
        have hij : i = j := by
          rcases hiT with h | h
          · exact h
          · have := reach_listed hW hc i o' ho' hall j hjs (hT1 i h).2
            rw [hunf] at this; cases this
        subst hij
        obtain rfl : ops[i] = o' := by rw [ho] at ho'; exact Option.some.inj ho'
        have hu' : unlisted (listed.setIfInBounds i true) ≤ fuel := by have := unlisted_set hjl hun; omega
        have hnT : T.contains i = false := by
          cases hb : T.contains i with
          | false => rfl
          | true => rw [List.contains_iff_mem] at hb; exact absurd rfl (hT1 i hb).1
        have hti : (listed.setIfInBounds i true).getD i false = true := by simp [hjl]
        have next : ∀ a w, wpList P ops Q (T.filterMap (ops[·]?)) a w → wpAny P .any ops Q fuel (listed.setIfInBounds i true) a w := fun a w h =>
          ih fuel _ a w hT2 (fun k hk => hlt k (List.mem_cons_of_mem _ hk)) (by simpa using hls) (fun k hk => by
            by_cases e : i = k
            · subst e; rw [hti, hnT]; rfl
            · rw [getD_set_ne false e, hl k hk]
              have : ¬ k = i := fun h => e h.symm
              simp [this]) (fun k o hk hlk e he hb => by
            by_cases ek : i = k
            · subst ek
              rw [ho] at hk
              obtain rfl := Option.some.inj hk
              exact getD_set_true (hall e he hb)
            · rw [getD_set_ne false ek] at hlk
              exact getD_set_true (hc k o hk hlk e he hb)) hu' h
        rw [List.filterMap_cons_some ho] at h
        unfold wpOp
        simp only [ho]
        unfold wpList at h
        split
        · rename_i hw
          rw [if_pos hw] at h
          exact h.imp (Oper.wp_mono next) id
        · rename_i hw
          rw [if_neg hw] at h
          exact next _ _ h

theorem wpAny_of_sel {l : List Oper} (hlo : ops = l.toArray) {L : Array Bool} {sk : List Bool} {T : List Nat} {Vs : List VP} {a0 : Act} {w0 : World} {n : Nat} {pl : Plan} (hn : a0.tmps.size = n) (hB : selB ops L sk T n pl = true) (hst : StableAll Vs)
    (hops : OpsOkL P ops a0 w0 Vs l sk pl Vs)
    (hend : ∀ a w listed, FreeL ops L Vs a0 w0 listed a w → (∀ i, i < ops.size → listed.getD i false = !T.contains i) → wpList P ops Q (T.filterMap (ops[·]?)) a w) :
    ∀ (fuel : Nat) (listed : Array Bool) (a : Act) (w : World), FreeL ops L Vs a0 w0 listed a w → (∀ i ∈ T, listed.getD i false = false) → unlisted listed ≤ fuel → wpAny P .any ops Q fuel listed a w := by
  unfold selB at hB
  simp only [Bool.and_eq_true, beq_iff_eq] at hB
  obtain ⟨⟨⟨⟨⟨⟨⟨⟨hW, hD⟩, hP⟩, hT⟩, hLs⟩, hTl⟩, hTp⟩, hsk⟩, hLc⟩ := hB
  simp only [List.all_eq_true, Bool.and_eq_true, decide_eq_true_eq, Bool.not_eq_true', List.mem_range, Bool.or_eq_true, beq_iff_eq] at hTl hTp hsk
  intro fuel
  induction fuel with
  | zero =>
    intro listed a w h ht hu
    have ha := all_listed (Nat.le_zero.1 hu)
    have hTe : T = [] := by
      cases T with
      | nil => rfl
      | cons j T =>
        have h1 := ht j List.mem_cons_self
        have hj := (hTl j List.mem_cons_self).1
        have h2 := ha j
        rw [getD_tf (by rw [h.lsize]; exact hj), h1] at h2; cases h2
    subst hTe
    have hl : ∀ i, i < ops.size → listed.getD i false = !([] : List Nat).contains i := fun i hi => by
      have := ha i
      rw [getD_tf (by rw [h.lsize]; exact hi)] at this
      rw [this]; rfl
    exact wpAny_tailT hW [] 0 listed a w rfl (fun _ h => by cases h) h.lsize hl h.closed hu (hend a w listed h hl)
  | succ fuel ih =>
    intro listed a w h ht hu
    by_cases hall : ∀ i, i < ops.size → T.contains i = false → listed.getD i false = true
    · have hl : ∀ i, i < ops.size → listed.getD i false = !T.contains i := fun i hi => by
        cases hc : T.contains i with
        | false => rw [hall i hi hc]; rfl
        | true => rw [ht i (List.contains_iff_mem.1 hc)]; rfl
      exact wpAny_tailT hW T (fuel + 1) listed a w hT (fun j hj => (hTl j hj).1) h.lsize hl h.closed hu (hend a w listed h hl)
    · refine ⟨fun hr => ?_, fun i hi => ?_⟩
      · exfalso
        apply hall
        intro i hi _
        have := ready_nil_all hW hr i hi
        rw [getD_tf (by rw [h.lsize]; exact hi)] at this
        exact this
      · obtain ⟨hun, o, ho, hal⟩ := mem_ready.1 hi
        have his : i < ops.size := (Array.getElem?_eq_some_iff.1 ho).1
        have hil : i < listed.size := by rw [h.lsize]; exact his
        have hun' : listed.getD i false = false := by rw [← getD_tf hil]; exact hun
        have hLi : L.getD i false = false := by
          cases hb : L.getD i false with
          | false => rfl
          | true => have := h.sub i hb; rw [hun'] at this; cases this
        have hiT : T.contains i = false := by
          cases hc : T.contains i with
          | false => rfl
          | true =>
            exfalso
            apply hall
            intro k hk hkT
            rcases hTp k hk with (h1 | h1) | h1
            · exact h.sub k h1
            · rw [hkT] at h1; cases h1
            · exact reach_listed hW h.closed i o ho hal k hk (h1 i (List.contains_iff_mem.1 hc))
        have hu' : unlisted (listed.setIfInBounds i true) ≤ fuel := by have := unlisted_set hil hun; omega
        have hsi : sk.getD i false = false := by rw [hsk i his, hLi, hiT]; rfl
        obtain ⟨p, hp, hobl⟩ := opsOkL_at (B := Region.before ops) (L := L) l sk pl Vs 0 hops (by rw [hlo] at hP ⊢; exact hP) i o (by rw [hlo] at ho; simpa using ho) hsi
        simp only [Nat.zero_add] at hp
        have hf := factsL_ofL hW h ho hun' hal p hp
        have hob := hobl a w h.ext hf
        have next : ∀ v w', Ext w w' → (Vs.getD i VP.top) v w' → wpAny P .any ops Q fuel (listed.setIfInBounds i true) (a.put o.dst v) w' :=
          fun v w' he hv => ih _ _ _ (freeL_put (stable_at Vs hst) hn hD h hi ho he hv) (fun k hk => by
            have : i ≠ k := fun e => by subst e; rw [List.contains_iff_mem.2 hk] at hiT; cases hiT
            rw [getD_set_ne false this]; exact ht k hk) hu'
        unfold wpOp
        simp only [ho]
        unfold Obl at hob
        split
        · rename_i hw
          rw [if_pos hw] at hob
          left
          unfold OpOk at hob
          unfold Oper.wp
          generalize (execOp a.eval o).run P w = r at hob
          cases r with
          | halt x w' => exact hob.elim
          | ok nx w' =>
            cases nx <;> first | exact hob.elim | skip
            case value v => exact next v w' hob.1 hob.2
            case skip => exact next undef w' hob.1 hob.2
            case enter f args =>
              exact hob.2.mono fun e w'' ⟨v, he, hx, hv⟩ => by subst he; exact next v w'' hx hv
        · rename_i hw
          rw [if_neg hw] at hob
          exact next undef w (Ext.refl _) hob

def DstFactsL (l : List Oper) (sk : List Bool) (Vs : List VP) (a : Act) (w : World) : Prop := ∀ i t, (l[i]?).bind (·.dst) = some t → sk.getD i false = false → (Vs.getD i VP.top) (a.eval (.tmp t)) w
def dstsOfL (l : List Oper) (sk : List Bool) : List Tmp := (l.zip sk).filterMap fun (o, s) => if s then none else o.dst

/-- **A REGION THAT DRAWS ITS ORDER AND WRITES**, what yields the same in every world being listed. -/
theorem wp_sel {l : List Oper} {a : Act} {w : World} (n : Nat) (L : Array Bool) (sk : List Bool) (T : List Nat) (pl : Plan) (Vs : List VP) {fuel : Nat} (hB : selB l.toArray L sk T n pl = true) (hsl : (sk.length == l.length) = true) (hfl : decide (unlisted L ≤ fuel) = true) (hfr : FrD dfs n a) (hst : StbAll Vs)
    (hops : OpsOkL P l.toArray a w Vs l sk pl Vs)
    (hend : ∀ a' w', Ext w w' → FrD dfs n a' → DstFactsL l sk Vs a' w' → Same (dstsOfL l sk) a a' → wpList P l.toArray Q (T.filterMap (l.toArray[·]?)) a' w') : wpAny P .any l.toArray Q fuel L a w := by
  have hB' := hB
  unfold selB at hB'
  simp only [Bool.and_eq_true, beq_iff_eq] at hB'
  obtain ⟨⟨⟨⟨⟨⟨⟨⟨hW, hD⟩, hP⟩, hT⟩, hLs⟩, hTl⟩, hTp⟩, hsk⟩, hLc⟩ := hB'
  simp only [List.all_eq_true, Bool.and_eq_true, decide_eq_true_eq, Bool.not_eq_true', List.mem_range, Bool.or_eq_true, beq_iff_eq] at hTl hTp hsk
  have hsl' : sk.length = l.length := by simpa using hsl
  refine wpAny_of_sel (w0 := w) rfl hfr.1 hB hst.st hops (fun a' w' listed h hl => ?_) fuel L a w ⟨Ext.refl _, rfl, rfl, fun i o t _ _ h1 h2 => (by rw [h1] at h2; cases h2), fun _ _ => rfl, fun j o hj hl e he hb => ?_, hLs, fun _ h => h⟩ (fun i hi => (hTl i hi).2) (of_decide_eq_true hfl)
  · refine hend a' w' h.ext ⟨h.size.trans hfr.1, h.defers.trans hfr.2⟩ (fun i t hi hs => ?_) (fun t ht => ?_)
    · cases ho : l[i]? with
      | none => rw [ho] at hi; cases hi
      | some o =>
        rw [ho] at hi
        have hil : i < l.length := (List.getElem?_eq_some_iff.1 ho).1
        have h2 := hsk i (by simpa using hil)
        rw [hs] at h2
        have h2 := h2.symm
        rw [Bool.or_eq_false_iff] at h2
        exact h.vals i o t (by simpa using ho) hi h2.1 (by rw [hl i (by simpa using hil), h2.2]; rfl)
    · refine h.rest t fun i o ho hd => ?_
      have his : i < l.toArray.size := (Array.getElem?_eq_some_iff.1 ho).1
      have hil : i < l.length := by simpa using his
      cases hs : sk.getD i false with
      | true =>
        have h2 := hsk i his
        rw [hs] at h2
        have h2 := h2.symm
        rw [Bool.or_eq_true] at h2
        rcases h2 with h2 | h2
        · exact .inr h2
        · left; rw [hl i his, h2]; rfl
      | false =>
        exfalso
        have hm : t ∈ dstsOfL l sk := by
          refine List.mem_filterMap.2 ⟨(o, false), ?_, by simpa using hd⟩
          have ho' : l[i]? = some o := by simpa using ho
          have hs' : sk[i]? = some false := by
            rw [List.getD_eq_getElem?_getD, List.getElem?_eq_getElem (by omega)] at hs
            rw [List.getElem?_eq_getElem (by omega)]
            simpa using hs
          exact List.mem_of_getElem? (i := i) (by rw [List.getElem?_zip_eq_some]; exact ⟨ho', hs'⟩)
        rw [← List.contains_iff_mem] at hm
        rw [hm] at ht; cases ht
  · rw [Array.all_eq_true_iff_forall_mem] at hLc
    have := hLc (o, j) (by rw [Array.mem_zipIdx_iff_getElem?]; exact hj)
    simp only [Bool.or_eq_true, Bool.not_eq_true', Array.all_eq_true_iff_forall_mem] at this
    rcases this with h1 | h1
    · rw [hl] at h1; cases h1
    · rcases h1 e he with h2 | h2
      · rw [hb] at h2; cases h2
      · exact h2

/-- What yields the same in every world, first. -/
theorem any_op {i d : Nat} {op : Op} {ty : TypeId} {pos : String} {af : Array Edge} {fuel n : Nat} {L : Array Bool} {a : Act} {w : World} {V : VP} (hfr : FrD dfs n a) (hi : ops[i]? = some ⟨some d, op, ty, pos, af, none⟩) (hd : decide (d < n) = true)
    (hc : (Region.noSelect ops && Region.free .any ops L i && (Region.ready .any ops L).contains i) = true) (hQ : ∀ c a w v, Q (.panic c) (a.put (some d) v) w → Q (.panic c) a w)
    (hy : ∃ v, (∀ w, (execOp a.eval ⟨some d, op, ty, pos, af, none⟩).run P w = .ok (.value v) w) ∧ V v w)
    (k : ∀ a', FrD dfs n a' → V (a'.eval (.tmp d)) w → Same [d] a a' → wpAny P .any ops Q fuel (L.setIfInBounds i true) a' w) : wpAny P .any ops Q (fuel + 1) L a w := by
  simp only [Bool.and_eq_true] at hc
  obtain ⟨⟨h1, h2⟩, h3⟩ := hc
  obtain ⟨v, hv, hV⟩ := hy
  refine wpAny_take hi h1 h2 h3 (fun c a w h => hQ c a w v h) (.inl ⟨rfl, hv⟩) (k _ (put_fr hfr) ?_ put_same)
  rw [put_eval (by rw [hfr.1]; simpa using hd)]
  exact hV
theorem wp_any_start {id : Nat} {l : List Oper} {a : Act} {w : World} (hm : P.follows .mixedOrders = true) (h : ∀ w', Ext w w' → wpAny P .any l.toArray Q l.toArray.size (Array.replicate l.toArray.size false) a w') : (Code.region id l.toArray true).wp P Q a w :=
  wp_region_any hm (h _ (Ext.draw1 w))
end

/-! ## Obligations, one by one; what yields the same in every world -/
section
variable {P : Program} {ops : Array Oper} {a0 : Act} {w0 : World} {Vs : List VP} {d : Option Tmp} {op : Op} {ty : TypeId} {pos : String} {af : Array Edge} {os : List Oper} {sk : List Bool} {p : List (Tmp × Option Nat)} {ps : Plan} {V : VP} {Vr : List VP}
theorem lcs {o : Oper} (k : OpsOkL P ops a0 w0 Vs os sk ps Vr) : OpsOkL P ops a0 w0 Vs (o :: os) (true :: sk) (p :: ps) (V :: Vr) := ⟨fun h => (by cases h), k⟩
theorem lc0 (h : ∀ a w, Ext w0 w → factsL Vs a0 a w p → OpOk P ⟨d, op, ty, pos, af, none⟩ a w V) (k : OpsOkL P ops a0 w0 Vs os sk ps Vr) : OpsOkL P ops a0 w0 Vs (⟨d, op, ty, pos, af, none⟩ :: os) (false :: sk) (p :: ps) (V :: Vr) :=
  ⟨fun _ => (oc0 (os := []) (ps := []) (Vr := []) h trivial).1, k⟩
theorem lcg {j : Nat} {b : Bool} (t : Tmp) (hd : (ops[j]?).bind (·.dst) = some t) (h : ∀ a w, Ext w0 w → factsL Vs a0 a w p → Gd P t b ⟨d, op, ty, pos, af, some (j, b)⟩ a w V) (k : OpsOkL P ops a0 w0 Vs os sk ps Vr) :
    OpsOkL P ops a0 w0 Vs (⟨d, op, ty, pos, af, some (j, b)⟩ :: os) (false :: sk) (p :: ps) (V :: Vr) :=
  ⟨fun _ => (ocg (os := []) (ps := []) (Vr := []) t hd h trivial).1, k⟩
theorem lcn : OpsOkL P ops a0 w0 Vs [] [] [] [] := trivial
end
section
variable {P : Program} {d : Option Tmp} {ty : TypeId} {pos : String} {af : Array Edge} {gd : Option (Nat × Bool)} {a : Act} {w : World} {V : VP} {o : Oper} {t e : TypeId} {x y : Operand}
theorem py_of (h : OpOk P o a w V) (hv : ∃ v, ∀ w, (execOp a.eval o).run P w = .ok (.value v) w) : ∃ v, (∀ w, (execOp a.eval o).run P w = .ok (.value v) w) ∧ V v w := by
  obtain ⟨v, hv⟩ := hv
  unfold OpOk at h
  rw [hv w] at h
  exact ⟨v, hv, h.2⟩
theorem pv_move : ∃ v, ∀ w, (execOp a.eval ⟨d, .move x, ty, pos, af, gd⟩).run P w = .ok (.value v) w := ⟨_, fun _ => rfl⟩
theorem pv_assign : ∃ v, ∀ w, (execOp a.eval ⟨d, .assign x, ty, pos, af, gd⟩).run P w = .ok (.value v) w := ⟨_, fun _ => rfl⟩
theorem pv_field {fs : Array Field} {f : Field} {k n : Nat} {cs : List Value} (hT : P.underlying t = some (.struct fs)) (hf : fs[k]? = some f) (hz : SizeIs P f.type n) (hn : (n == 0) = false) (hx : Cells cs (a.eval x) w) :
    ∃ v, ∀ w, (execOp a.eval ⟨d, .fieldAddr t x k, ty, pos, af, gd⟩).run P w = .ok (.value v) w := by
  obtain ⟨b, o, hv, _⟩ := hx
  have hn' : n ≠ 0 := by simpa using hn
  exact ⟨.pointer (some ⟨b, o + f.offset, none⟩), fun w => by simp [execOp, Instr.fieldAt, hv, Instr.sureAddr, run_underlying hT, hf, fieldPlace, hz.run, hn', Go.WideShapes.add_plain]⟩
theorem pv_index {k : IntKind} {l : List UInt8} {i : Nat} (hT : P.underlying t = some (.slice e)) (hz : SizeIs P e 1) (hx : Bs l (a.eval x) w) (hy : a.eval y = .int k (i : Int)) (hi : i < l.length) :
    ∃ v, ∀ w, (execOp a.eval ⟨d, .indexAddr t x y, ty, pos, af, gd⟩).run P w = .ok (.value v) w := by
  rcases bs_src hx with ⟨_, rfl⟩ | ⟨p, c, hv, _⟩
  · simp at hi
  · exact ⟨.pointer (some (p.add i)), fun w => by simp [execOp, Instr.indexAt, hv, hy, asIntOf, run_underlying hT, hz.run, hi]⟩
theorem pv_arr_hi {k : IntKind} {n hi : Nat} {cs : List Value} (hT : P.underlying t = some (.array n e)) (hz : SizeIs P e 1) (hx : Cells cs (a.eval x) w) (hy : a.eval y = .int k (hi : Int)) (hb : hi ≤ n) :
    ∃ v, ∀ w, (execOp a.eval ⟨d, .slice t x none (some y) none, ty, pos, af, gd⟩).run P w = .ok (.value v) w := by
  obtain ⟨b, o, hv, _⟩ := hx
  obtain ⟨h1, h2, h3⟩ := arr_of hT
  refine ⟨slicedAt ⟨b, o, none⟩ 0 hi n 1, fun w => ?_⟩
  have hr := run_sliceAt_array_h (P := P) w t ⟨b, o, none⟩ h1 k hi (by omega) (by omega)
  simp only [h2, h3, hz.run, Result.andThen_ok, Int.toNat_natCast] at hr
  simp only [execOp, hv, hy, Option.map_none, Option.map_some]
  simp [hr]
end
end Go.Proofs.Ytpjpfmnnefgnbaa
