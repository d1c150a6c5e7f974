/- Reading that gives up by a panic, which a deferred call catches. -/
import Derived.Test.YtlmdboaghojgiaaFacts
import Derived.Tactics
import Derived.Tactics2
import Derived.Defers
import Derived.Recover
import Derived.Laws.Pointers
import Derived.Laws.Build
import Derived.WalkSmall
import Derived.Test.YtlmdboaghojgiaaT11
namespace Go.Proofs.Ytlmdboaghojgiaa
set_option linter.unusedVariables false
set_option linter.unusedSimpArgs false
open Go Go.RowKit
set_option maxRecDepth 4000

def Qhk (k : Int) : Value := .iface 99 (.int .i64 k)
theorem Qke : Try.prog.concrete 99 = true := by kernel_rfl
theorem Qm5 (k : Int) (w : World) : Calls Try.prog 58 #[.bool true, .int .i64 k] w fun e w' => e = .returned (.tuple #[]) ∧ w' = w := by
  go_enter Try.func58, Try.ntmps58
  go_wp2
  go_end0
  exact ⟨rfl, rfl⟩
theorem Qoq (k : Int) (w : World) : Calls Try.prog 58 #[.bool false, .int .i64 k] w fun e w' => e = .panicked [{ v := Qhk k, recovered := false }] ∧ w' = w := by
  have hc := Qke
  go_enter Try.func58, Try.ntmps58
  go_wp2
  exact ⟨rfl, rfl, rfl⟩

theorem Qhl (p : Addr) (w : World) :
    CallsD Try.prog 56 #[.pointer (some p)] .returning w fun e u' w' => e = .returned (.tuple #[]) ∧ u' = .returning ∧ w' = w := by
  refine callsD_of_wpS Try.func56 rfl fun c₀ cs hu => ?_
  apply wpS_seq
  apply wpS_region
  simp [wpOpsS, go_sem, recoverD, hu, Try.ntmps56, Exit.thenS]
  apply wpS_seq
  apply wpS_region
  simp [wpOpsS, go_sem, recoverD, hu, Try.ntmps56, Exit.thenS]
  refine wpS_cond (t := false) (by simp [Act.eval, Array.replicate]) ?_
  simp only [Bool.false_eq_true, if_false]
  refine wpS_of_wp (wp_skip ?_)
  cases c₀
  simp_all [bodyPostS, results, Try.results56]

def pktZ : List (List Value) := [[.int .i64 0], (tupS tup0).flatten, [.int .i64 0], [.int .i64 0], [.int .i64 0], [.int .i64 0]]
theorem Qrj : Q96 Try.prog 37 [1, 37, 1, 1, 1, 1] pktZ := ⟨by kernel_rfl, by kernel_rfl, _, Try.underlying37, by kernel_rfl⟩
theorem Qkf : SizeIs Try.prog 37 42 := Qg2
theorem Qkg {ops : Array Oper} {Q : Exit → Act → World → Prop} {β B : Nat} {cs0 : List Value} {p : Addr} {k : Int} {w : World} {a : Act} {t1 t2 t3 : TypeId} {p1 p2 p3 : String} {f1 f2 f3 : Array Edge} (hr : Fr 17 a)
    (h0 : a.eval (.tmp 0) = .pointer (some p)) (h2 : a.eval (.tmp 2) = .int .i64 k) (hp : PxS β B [42] [cs0] 0 (.pointer (some p)) w)
    (kk : ∀ a' w2 w', Fr 17 a' → Ext w w2 → ChgAt β w2 w' → UpS β [42] [cs0] [(pktS (give k)).flatten] w2 w' → Q .normal a' w') :
    wpList Try.prog ops Q [⟨some 15, .move (.tmp 2), t1, p1, f1, none⟩, ⟨some 16, .build 37 #[(0, .tmp 15)], t2, p2, f2, none⟩, ⟨none, .store 37 (.tmp 0) (.tmp 16), t3, p3, f3, none⟩] a w := by
  refine Q11 hr (Q0h (V := Is (.int .i64 k)) h2) inferInstance ?_
  intro a1 w1 x1 hr1 hd1 hs1
  have s15 := hd1 15 rfl (by decide)
  refine Q11 hr1 (Q1e [(0, .tmp 15)] [(0, _)] Qrj rfl (PartsC.one s15 rfl PartsC.nil) (by first | rfl | simp)) inferInstance ?_
  intro a2 w2 x2 hr2 hd2 hs2
  have s16 := hd2 16 rfl (by decide)
  have e0 : a2.eval (.tmp 0) = .pointer (some p) := by rw [hs2 0 rfl, hs1 0 rfl, h0]
  have hp2 : PxS β B [42] [cs0] 0 (a2.eval (.tmp 0)) w2 := by rw [e0]; exact Q00 (x1.trans x2) hp
  refine Q0k hr2 Qkf hp2 (vs := (pktS (give k)).flatten) (Is.conv s16 (by rfl)) (Qj7 (Qj2 k)) Qel rfl ?_
  intro a3 w3 hc hu hr3 hs3
  exact wpList_nil (kk a3 w2 w3 hr3 (x1.trans x2) hc hu)
theorem Qan {β B : Nat} {cs0 : List Value} {p : Addr} {k : Int} {older : List PanicEntry} {w : World} (hp : PxS β B [42] [cs0] 0 (.pointer (some p)) w) :
    CallsD Try.prog 56 #[.pointer (some p)] (.panicking ({ v := Qhk k, recovered := false } :: older)) w fun e u' w' =>
      e = .returned (.tuple #[]) ∧ u' = .panicking ({ v := Qhk k, recovered := true } :: older) ∧ ∃ w2, Ext w w2 ∧ ChgAt β w2 w' ∧ UpS β [42] [cs0] [(pktS (give k)).flatten] w2 w' := by
  have hu54 := Try.underlying99
  refine callsD_of_wpS Try.func56 rfl fun c₀ cs hu => ?_
  apply wpS_seq
  apply wpS_region
  simp [wpOpsS, go_sem, recoverD, hu, Try.ntmps56, Exit.thenS]
  apply wpS_seq
  apply wpS_region
  simp [wpOpsS, go_sem, Qhk, recoverD, hu, Try.ntmps56, Exit.thenS]
  refine wpS_cond (t := true) (by simp [Act.eval, Array.replicate]) ?_
  simp only [if_true]
  apply wpS_seq
  apply wpS_region
  simp [wpOpsS, go_sem, Instr.typeAssert, hu54, Exit.thenS]
  apply wpS_seq
  apply wpS_seq
  apply wpS_region
  simp [wpOpsS, go_sem, Exit.thenS]
  refine wpS_cond (t := false) (by simp [Act.eval, Array.replicate]) ?_
  simp only [Bool.false_eq_true, if_false]
  refine wpS_of_wp (wp_skip ?_)
  simp only [Exit.thenS]
  refine wpS_of_wp (wp_region_lit ?_)
  refine Qkg (k := k) ⟨by simp, rfl⟩ (by simp [Act.eval]) (by simp [Act.eval, Array.replicate]) hp ?_
  intro a' w2 w' hr x hc hu'
  cases c₀
  refine ⟨hr.2, _, rfl, _, ?_, rfl, rfl, w2, x, hc, hu'⟩
  simp [results, Try.results56]

/-! ## Deferring; giving up -/
section
variable {P : Program} {dfs : List Deferred} {ops : Array Oper} {Q : Exit → Act → World → Prop} {rest : List Oper} {a : Act} {w : World} {n : Nat} {ty : TypeId} {pos : String} {af : Array Edge} {d dst : Option Tmp} {gd : Option (Nat × Bool)} {ats : Array TypeId} {x : Operand}
theorem Qk7 {fn : Fn} {first cap : Array Operand} : OpOk P ⟨d, .makeFunc fn first cap, ty, pos, af, gd⟩ a w (Is (.func fn (first.map a.eval) (cap.map a.eval))) :=
  Q1g (v := .func fn (first.map a.eval) (cap.map a.eval)) (by simp [execOp, Instr.makeFunc]) rfl
theorem Qm3 {f : FuncId} {cap : Array Value} (hfr : FrD dfs n a) (hx : a.eval x = .func (.func f) #[] cap)
    (k : ∀ a', FrD ({ target := .fn (.func f) cap, args := #[] } :: dfs) n a' → Same [] a a' → wpList P ops Q rest a' w) :
    wpList P ops Q (⟨none, .defer ⟨.value x, #[], #[]⟩, ty, pos, af, none⟩ :: rest) a w := by
  refine wpList_plain rfl fun K hK => ?_
  have e : (execOp a.eval ⟨none, .defer ⟨.value x, #[], #[]⟩, ty, pos, af, none⟩).run P w = .ok (.defer { target := .fn (.func f) cap, args := #[] }) w := by
    simp [execOp, resolve, hx, Deferred.ofValue]
  unfold Oper.wp
  rw [e]
  exact hK _ _ (k _ ⟨hfr.1, by show _ :: a.defers = _; rw [hfr.2]⟩ (fun t ht => rfl))
theorem Qe2 : Body Try.prog 58 := Qq0
theorem Q8n {b : Bool} {k : Int} (hx : Is (.bool b) (a.eval x) w) (hb : b = true) : OpOk Try.prog ⟨d, .call ⟨.value (.func 58), #[x, .const (.int .i64 k)], ats⟩, ty, pos, af, gd⟩ a w VP.top := by
  subst hb
  refine Q5k Qe2 _ ?_
  have e : (#[x, .const (.int .i64 k)] : Array Operand).map a.eval = #[.bool true, .int .i64 k] := by simp only [List.map_toArray, List.map_cons, List.map_nil]; rw [show a.eval x = .bool true from hx]; rfl
  rw [e]
  exact (Qm5 k w).mono fun e w' ⟨he, hw⟩ => ⟨_, he, by rw [hw]; exact Ext.refl w, trivial⟩
theorem Q4d {b : Bool} {k : Int} (hx : Is (.bool b) (a.eval x) w) (hb : b = false) (hQ : Q (.panic [{ v := Qhk k, recovered := false }]) a w) :
    wpList Try.prog ops Q (⟨dst, .call ⟨.value (.func 58), #[x, .const (.int .i64 k)], ats⟩, ty, pos, af, none⟩ :: rest) a w := by
  subst hb
  refine wpList_plain rfl fun K hK => ?_
  have e : (#[x, .const (.int .i64 k)] : Array Operand).map a.eval = #[.bool false, .int .i64 k] := by simp only [List.map_toArray, List.map_cons, List.map_nil]; rw [show a.eval x = .bool false from hx]; rfl
  unfold Oper.wp
  rw [Qbq Qe2, e]
  exact (Qoq k w).mono fun e' w' ⟨he, hw⟩ => by subst he; subst hw; exact hQ
end

/-! ## Behind the body: the deferred call -/
theorem Qrf {β B : Nat} {ls : List Nat} {S : List (List Value)} {v : Value} {w : World} (h : PxS β B ls S 0 v w) : v = .pointer (some ⟨β - 1, 0, none⟩) := by
  obtain ⟨h0, g, e9, h1, h2, h3, h4⟩ := h
  rw [h3, h1]
  simp
theorem Qrg {a1 : Act} {v pv : Value} {w : World} {f : FuncId} {p : Tmp} (h : Is (.func (.func f) ((#[] : Array Operand).map a1.eval) ((#[.tmp p] : Array Operand).map a1.eval)) v w) (hp : a1.eval (.tmp p) = pv) : v = .func (.func f) #[] #[pv] := by
  rw [show v = _ from h, ← hp]
  simp only [List.map_toArray, List.map_cons, List.map_nil]
theorem Q4c {b : Bool} {v : Value} {w : World} {G : Prop} (_h : Is (.bool b) v w) (h1 : b = true → G) (h2 : b = false → G) : G := by
  cases b
  · exact h2 rfl
  · exact h1 rfl
theorem Qre {P : Program} {f : FuncId} {fn : Func} {c : Code} {args : Array Value} {w : World} {R : Ending → World → Prop} (hf : P.funcs[f]? = some fn) (hb : fn.body = some c) {n k : Nat} (hn : fn.ntmps = n) (hk : args.size = k) (hkn : k ≤ n)
    (h : ∀ a : Act, Fr n a → (∀ i, i < k → a.eval (.tmp i) = args.getD i undef) → c.wp P (bodyPostD P fn R) a w) : Calls P f args w R := by
  refine calls_of_wp_defers hf hb (h _ ⟨by simp [hn, hk]; omega, rfl⟩ fun i hi => ?_)
  show (args ++ Array.replicate (fn.ntmps - args.size) undef).getD i undef = _
  simp [Array.getElem?_append, hk, hi]
abbrev Qm4 (v : Value) : Deferred := { target := .fn (.func 56) #[v], args := #[] }
theorem Qgj {w : World} {β B : Nat} {cs : List Value} {a : Act} (hp : PxS β B [42] [cs] 0 (a.eval (.tmp 2)) w) : (results Try.f37 a.tmps).run Try.prog w = .ok (.agg cs.toArray) w := by
  have h1 := hp.loadAll (P := Try.prog) Try.underlying37 rfl Qkf
  have : (results Try.f37 a.tmps).run Try.prog w = ((asAddr (a.tmps.getD 2 undef)).run Try.prog w).andThen fun a1 w1 => (loadVar 37 a1).run Try.prog w1 := by
    simp only [results, Try.results37]
    simp [Sem.run_bind, Result.andThen]
  rw [this, h1]
theorem Qf1 {w0 w : World} {β B n : Nat} {V : VP} {cs : List Value} {a : Act} (hr : FrD [Qm4 (.pointer (some ⟨β - 1, 0, none⟩))] n a) (hp : PxS β B [42] [cs] 0 (a.eval (.tmp 2)) w) (hx : Ext w0 w) (hV : V (.agg cs.toArray) w) :
    bodyPostD Try.prog Try.f37 (Ret V w0) .ret a w := by
  obtain ⟨h0, g, e9, h1, h2, h3, h4⟩ := id hp
  have hpv : β - 1 = g := by omega
  show Leaves Try.prog _ a.tmps _ a.defers .returning w
  rw [hr.2, hpv]
  refine leaves_cons (f := 56) (args := #[.pointer (some ⟨g, 0, none⟩)]) (by simp) (by simp [go_sem]) ?_
  refine (Qhl _ _).mono ?_
  rintro e u' w'' ⟨rfl, rfl, rfl⟩
  exact ⟨_, Qgj hp, _, rfl, hx, hV⟩
theorem Q31 {w0 w : World} {β B n : Nat} {V : VP} {cs : List Value} {a : Act} {k : Int} (hr : FrD [Qm4 (.pointer (some ⟨β - 1, 0, none⟩))] n a) (hp : PxS β B [42] [cs] 0 (a.eval (.tmp 2)) w) (hx : Ext w0 w) (hB : w0.heap.size < β) (hV : ∀ w', V (PktV (give k)) w') :
    bodyPostD Try.prog Try.f37 (Ret V w0) (.panic [{ v := Qhk k, recovered := false }]) a w := by
  obtain ⟨h0, g, e9, h1, h2, h3, h4⟩ := id hp
  have hpv : β - 1 = g := by omega
  show Leaves Try.prog _ a.tmps _ a.defers (.panicking _) w
  rw [hr.2, hpv]
  refine leaves_cons (f := 56) (args := #[.pointer (some ⟨g, 0, none⟩)]) (by simp) (by simp [go_sem]) ?_
  have h3' : a.eval (.tmp 2) = .pointer (some ⟨g, 0, none⟩) := h3
  refine (Qan (by rw [← h3']; exact hp)).mono ?_
  rintro e u' w'' ⟨rfl, rfl, w2, x, hc, hu⟩
  have hp' := hu _ _ _ (Q00 x hp)
  refine ⟨_, Qgj hp', _, rfl, ?_, hV _⟩
  exact (hx.trans x).below (Nat.le_refl _) (hc.below (hx.trans x).size (.inr hB))

theorem Qkh {P : Program} {fn : Func} {t t' : Array Value} {R : Ending → World → Prop} (h : results fn t = results fn t') : ∀ (ds : List Deferred) (u : FrameMode) (w : World), Leaves P fn t R ds u w → Leaves P fn t' R ds u w := by
  intro ds
  induction ds with
  | nil =>
    intro u w h9
    cases u with
    | run => exact h9
    | returning => obtain ⟨v, k1, k2⟩ := h9; exact ⟨v, by rw [← h]; exact k1, k2⟩
    | panicking c => exact h9
  | cons d ds ih =>
    intro u w h9
    obtain ⟨k1, fv, cap, f, args, k2, k3, k4⟩ := h9
    refine ⟨k1, fv, cap, f, args, k2, k3, k4.mono fun e u' w' r => ?_⟩
    cases e with
    | returned v => exact ih _ _ r
    | panicked c => exact ih _ _ r
    | outgrown => exact r
theorem Q1w {R : Ending → World → Prop} {d : Tmp} {v : Value} {a : Act} {w : World} {c : List PanicEntry} (hd : d ≠ 2) (h : bodyPostD Try.prog Try.f37 R (.panic c) (a.put (some d) v) w) : bodyPostD Try.prog Try.f37 R (.panic c) a w := by
  refine Qkh ?_ _ _ _ h
  have e : (a.tmps.setIfInBounds d v).getD 2 undef = a.tmps.getD 2 undef := by
    simp only [Array.getD_eq_getD_getElem?]
    rw [Array.getElem?_setIfInBounds_ne hd]
  simp only [results, Try.results37, Act.put]
  simp only [Array.getD_eq_getD_getElem?] at e
  simp [e]
end Go.Proofs.Ytlmdboaghojgiaa
