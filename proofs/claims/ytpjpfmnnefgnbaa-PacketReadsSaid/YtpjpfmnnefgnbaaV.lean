/- Memory of the function's own, where several rows are written into: each owned row at its place ('bk'); stores into an owned row. -/
import Derived.Test.YtpjpfmnnefgnbaaX
import Derived.Lib.ReflectliteSwap
namespace Go.Proofs.Ytpjpfmnnefgnbaa
set_option linter.unusedVariables false
set_option linter.unusedSimpArgs false
open Go Go.RowKit
variable {dfs : List Deferred}

/-- Where a slice lies: 0, or one more than its block. -/
def bk : Value → Nat
  | .slice (some p) _ _ => p.block + 1
  | _ => 0
theorem bk_own {v : Value} : (∀ k, v.ownBlock = some k → bk v = k + 1) ∧ (v.ownBlock = none → bk v = 0) := by
  cases v with
  | slice p l c =>
    cases p with
    | none => exact ⟨fun k h => (by cases h), fun _ => rfl⟩
    | some p => exact ⟨fun k h => (by cases h; rfl), fun h => (by cases h)⟩
  | _ => exact ⟨fun k h => (by simp [Value.ownBlock] at h), fun _ => rfl⟩

/-- All is as it was but what lies at one place, and new blocks. -/
structure ChgAt (β : Nat) (w w' : World) : Prop where
  os : w'.os = w.os
  tape : w'.tape = w.tape
  output : w'.output = w.output
  size : w.heap.size ≤ w'.heap.size
  block : ∀ k, k < w.heap.size → k + 1 ≠ β → w'.heap[k]? = w.heap[k]?
theorem ChgAt.of_grown {v : Value} {w w' : World} (h : w.grownBy w' v.ownBlock) : ChgAt (bk v) w w' :=
  ⟨h.os, h.tape, h.output, h.size, fun k hk hne => h.block k hk fun e => hne (bk_own.1 k e.symm).symm⟩
theorem ChgAt.below {β B : Nat} {w w' : World} (h : ChgAt β w w') (hb : B ≤ w.heap.size) (hβ : β = 0 ∨ B < β) : Below B w w' :=
  ⟨h.os, h.tape, h.output, h.size, fun k hk => h.block k (by omega) (by omega)⟩
theorem ChgAt.refl (β : Nat) (w : World) : ChgAt β w w := ⟨rfl, rfl, rfl, Nat.le_refl _, fun _ _ _ => rfl⟩

def OwnAt (β B : Nat) (e : TypeId) (vs : List Value) : VP := fun v w => Own B e vs v w ∧ bk v = β
instance (β B : Nat) (e : TypeId) (vs : List Value) : Stb (OwnAt β B e vs) := ⟨fun v w w' hx h => ⟨Stb.st v w w' hx h.1, h.2⟩⟩
def OwnBA (β B : Nat) (e : TypeId) (l : List UInt8) : VP := OwnAt β B e (l.map byteV)
instance (β B : Nat) (e : TypeId) (l : List UInt8) : Stb (OwnBA β B e l) := inferInstanceAs (Stb (OwnAt _ _ _ _))
def OwnNA (β B : Nat) (e : TypeId) (k : IntKind) (l : List Int) : VP := OwnAt β B e (l.map fun n => .int k n)
instance (β B : Nat) (e : TypeId) (k : IntKind) (l : List Int) : Stb (OwnNA β B e k l) := inferInstanceAs (Stb (OwnAt _ _ _ _))

theorem ownBA_nil {B : Nat} {e : TypeId} {w : World} : OwnBA 0 B e [] (.slice none 0 0) w := ⟨Own.nil, rfl⟩
theorem OwnBA.bs {β B : Nat} {e : TypeId} {l : List UInt8} {v : Value} {w : World} (h : OwnBA β B e l v w) : Bs l v w := OwnB.bs h.1
theorem OwnNA.ns {β B : Nat} {e : TypeId} {k : IntKind} {l : List Int} {v : Value} {w : World} (h : OwnNA β B e k l v w) : Ns k l v w := OwnN.ns h.1
theorem OwnBA.own {β B : Nat} {e : TypeId} {l : List UInt8} {v : Value} {w : World} (h : OwnBA β B e l v w) : OwnB B e l v w := h.1
theorem OwnNA.own {β B : Nat} {e : TypeId} {k : IntKind} {l : List Int} {v : Value} {w : World} (h : OwnNA β B e k l v w) : OwnN B e k l v w := h.1
theorem OwnB.at {B : Nat} {e : TypeId} {l : List UInt8} {v : Value} {w : World} (h : OwnB B e l v w) : ∃ β, OwnBA β B e l v w := ⟨_, h, rfl⟩
theorem OwnN.at {B : Nat} {e : TypeId} {k : IntKind} {l : List Int} {v : Value} {w : World} (h : OwnN B e k l v w) : ∃ β, OwnNA β B e k l v w := ⟨_, h, rfl⟩

theorem OwnBA.mono {β B B' : Nat} {e : TypeId} {l : List UInt8} {v : Value} {w : World} (h : OwnBA β B e l v w) (hB : B' ≤ B) : OwnBA β B' e l v w := ⟨OwnB.mono h.1 hB, h.2⟩
theorem OwnNA.mono {β B B' : Nat} {e : TypeId} {k : IntKind} {l : List Int} {v : Value} {w : World} (h : OwnNA β B e k l v w) (hB : B' ≤ B) : OwnNA β B' e k l v w := ⟨OwnN.mono h.1 hB, h.2⟩
theorem OwnBA.cast {β B : Nat} {e : TypeId} {l m : List UInt8} {v : Value} {w : World} (h : OwnBA β B e l v w) (e' : l = m) : OwnBA β B e m v w := e' ▸ h
theorem OwnNA.cast {β B : Nat} {e : TypeId} {k : IntKind} {l m : List Int} {v : Value} {w : World} (h : OwnNA β B e k l v w) (e' : l = m) : OwnNA β B e k m v w := e' ▸ h
theorem OwnB.cast {B : Nat} {e : TypeId} {l m : List UInt8} {v : Value} {w : World} (h : OwnB B e l v w) (e' : l = m) : OwnB B e m v w := e' ▸ h
theorem Own.blk {B : Nat} {e : TypeId} {vs : List Value} {v : Value} {w : World} (h : Own B e vs v w) : (bk v = 0 ∨ B < bk v) ∧ bk v ≤ w.heap.size := by
  have hl := h.lt
  cases hb : v.ownBlock with
  | none => rw [bk_own.2 hb]; exact ⟨.inl rfl, by omega⟩
  | some k => rw [bk_own.1 k hb]; have := hl k hb; omega
theorem OwnAt.lt {β B : Nat} {e : TypeId} {vs : List Value} {v : Value} {w : World} (h : OwnAt β B e vs v w) : (β = 0 ∨ B < β) ∧ β ≤ w.heap.size := by
  have := h.1.blk; rw [h.2] at this; exact this
theorem OwnBA.lt {β B : Nat} {e : TypeId} {l : List UInt8} {v : Value} {w : World} (h : OwnBA β B e l v w) : (β = 0 ∨ B < β) ∧ β ≤ w.heap.size := OwnAt.lt h
theorem OwnNA.lt {β B : Nat} {e : TypeId} {k : IntKind} {l : List Int} {v : Value} {w : World} (h : OwnNA β B e k l v w) : (β = 0 ∨ B < β) ∧ β ≤ w.heap.size := OwnAt.lt h

theorem Own.other {β B : Nat} {e : TypeId} {vs : List Value} {v : Value} {w w' : World} (h : Own B e vs v w) (hc : ChgAt β w w') (hne : bk v = 0 ∨ bk v ≠ β) : Own B e vs v w' := by
  obtain ⟨h1, h2⟩ := h
  refine ⟨h1, ?_⟩
  rcases h2 with h2 | ⟨g, cap, cur, h3, h4, h5, h6⟩
  · exact .inl h2
  · have hlt : g < w.heap.size := (Array.getElem?_eq_some_iff.1 h5).1
    have hg : g + 1 ≠ β := by
      have : bk v = g + 1 := by rw [h3]; rfl
      omega
    exact .inr ⟨g, cap, cur, h3, h4, by rw [hc.block g hlt hg]; exact h5, h6⟩
theorem OwnAt.other {β γ B : Nat} {e : TypeId} {vs : List Value} {v : Value} {w w' : World} (h : OwnAt γ B e vs v w) (hc : ChgAt β w w') (hne : γ = 0 ∨ γ ≠ β) : OwnAt γ B e vs v w' :=
  ⟨h.1.other hc (by rw [h.2]; exact hne), h.2⟩
theorem OwnBA.other {β γ B : Nat} {e : TypeId} {l : List UInt8} {v : Value} {w w' : World} (h : OwnBA γ B e l v w) (hc : ChgAt β w w') (hne : γ = 0 ∨ γ ≠ β) : OwnBA γ B e l v w' := OwnAt.other h hc hne
theorem OwnNA.other {β γ B : Nat} {e : TypeId} {k : IntKind} {l : List Int} {v : Value} {w w' : World} (h : OwnNA γ B e k l v w) (hc : ChgAt β w w') (hne : γ = 0 ∨ γ ≠ β) : OwnNA γ B e k l v w' := OwnAt.other h hc hne

/-- 'append', and where the row lies then. -/
theorem run_append_at {P : Program} (w : World) (base : Nat) (t ty e : TypeId) (i : TypeInfo) (z : Value) (size bytes : Nat) (ht : P.underlying t = some (.slice e)) (hi : P.info? e = some i) (hz : i.zero = some z)
    (hsize : i.size = size) (hby : i.bytes = bytes) (hzs : z.cells.size = size) (hsz : 0 < size)
    (v : Value) (n : Nat) (xs : List Value) (hown : w.ownsRow base e size v n xs)
    (a : Addr) (m c : Nat) (news : List Value) (hl : news.length = m * size) (hnews : ∀ j u, news[j]? = some u → w.cell? (a.add j) = some u) (h1 : ∀ u ∈ news, u.oneCell' = true)
    (h63 : n + m ≤ maxLen) (hbytes : (n + m) * bytes ≤ 140737488355328) (hbase : base ≤ w.heap.size) :
    ∃ v' w', (Builtin.append_ #[t, t] ty #[v, .slice (some a) m c]).run P w = .ok v' w' ∧ w'.ownsRow base e size v' (n + m) (xs ++ news) ∧ w.grownBy w' v.ownBlock ∧
      (bk v' = bk v ∨ bk v' = w.heap.size + 1) := by
  obtain ⟨v', w', hr, h2, h3, _⟩ := run_append_own (P := P) w base t ty e i z size bytes ht hi hz hsize hby hzs hsz v n xs hown a m c news hl hnews h1 h63 hbytes hbase
  refine ⟨v', w', hr, h2, h3, ?_⟩
  subst hsize
  subst hby
  have hsmall : n + m ≤ 9223372036854775807 := by simp only [maxLen] at h63; omega
  rcases hown.2 with ⟨rfl, rfl⟩ | ⟨g, cap, cur, rfl, hbg, hg, hnc, hcm, hcs, htake⟩
  · have hx : xs = [] := List.eq_nil_of_length_eq_zero (by simpa using hown.1)
    subst hx
    by_cases hm : m = 0
    · subst hm
      have hn : news = [] := List.eq_nil_of_length_eq_zero (by simpa using hl)
      subst hn
      have : (Builtin.append_ #[t, t] ty #[.slice none 0 0, .slice (some a) 0 c]).run P w = .ok (.slice none 0 0) w := by
        simp [Builtin.append_, run_underlying ht, sizeOf, typeInfo, hi, Builtin.lenOf, Builtin.firstCells, loadCells, loadCellsFrom]
      rw [this] at hr
      cases hr
      exact .inl rfl
    · have h := run_append_nil (P := P) w t ty e i z ht hi hz a m c news hl hnews (by omega) (by omega) (by have hb := hbytes; simp only [Nat.zero_add] at hb; omega)
      rw [h] at hr
      cases hr
      exact .inr rfl
  · by_cases hroom : n + m ≤ cap
    · have hfit : n * i.size + news.length ≤ cur.size := by rw [hl, hcs, ← Nat.add_mul]; exact Nat.mul_le_mul_right _ hroom
      have h := run_append_room (P := P) w t ty e i ht hi g n cap cur hg a m c news hl hnews h1 hroom hfit
      rw [h] at hr
      cases hr
      exact .inl rfl
    · have holds : ∀ j u, xs[j]? = some u → w.cell? ((⟨g, 0, none⟩ : Addr).add j) = some u := hown.cells (g := g) rfl
      have h := run_append_grow (P := P) w t ty e i z ht hi hz ⟨g, 0, none⟩ n cap xs hown.1 holds a m c news hl hnews (by omega) (by omega) (growslice_fits (by omega) hbytes)
      rw [h] at hr
      cases hr
      exact .inr rfl

section
variable {P : Program} {Q : Exit → Act → World → Prop} {ops : Array Oper} {rest : List Oper} {d : Tmp} {op : Op} {ty : TypeId} {pos : String} {af : Array Edge} {a : Act} {w : World} {n : Nat}

theorem wl_append_at {β B : Nat} {t e : TypeId} {z : Value} {bytes : Nat} {x y : Operand} {vs us : List Value} (hfr : FrD dfs n a) (hd : decide (d < n) = true) (hT : P.underlying t = some (.slice e)) (hI : InfoIs P e z bytes) (hzc : z.cells.size = 1)
    (hx : OwnAt β B e vs (a.eval x) w) (hy : SlV us (a.eval y) w) (hone : ∀ u ∈ us, u.oneCell' = true) (hB : B ≤ w.heap.size) (hmax : vs.length + us.length ≤ maxLen) (hroom : (vs.length + us.length) * bytes ≤ 140737488355328)
    (k : ∀ β' a' w', (β' = β ∨ β' = w.heap.size + 1) → ChgAt β w w' → FrD dfs n a' → OwnAt β' B e (vs ++ us) (a'.eval (.tmp d)) w' → Same [d] a a' → wpList P ops Q rest a' w') :
    wpList P ops Q (⟨some d, .call ⟨.builtin .append, #[x, y], #[t, t]⟩, ty, pos, af, none⟩ :: rest) a w := by
  obtain ⟨i, hi, hz, hsz, hby⟩ := hI.get
  have hdn : d < a.tmps.size := by rw [hfr.1]; simpa using hd
  obtain ⟨hx, rfl⟩ := hx
  rcases hy with ⟨hy, hus⟩ | ⟨p, cap, hy, h2, h3, h4⟩
  · -- nothing is appended
    have hus' : us = [] := by simpa using hus
    subst hus'
    refine wpList_plain rfl fun K hK => ?_
    have hrun : (execOp a.eval ⟨some d, .call ⟨.builtin .append, #[x, y], #[t, t]⟩, ty, pos, af, none⟩).run P w = .ok (.value (a.eval x)) w := by
      obtain ⟨_, h2⟩ := hx
      rcases h2 with ⟨h3, h4⟩ | ⟨g, cap, cur, h3, h4, h5, h6, h7, h8, h9⟩
      · simp [execOp, resolve, invoke, builtin, Builtin.append_, h3, hy, run_underlying hT, sizeOf, typeInfo, hi, Builtin.lenOf, Builtin.firstCells]
      · simp [execOp, resolve, invoke, builtin, Builtin.append_, h3, hy, run_underlying hT, sizeOf, typeInfo, hi, Builtin.lenOf, Builtin.firstCells, h6, storeCells]
    unfold Oper.wp
    rw [hrun]
    refine hK _ _ (k (bk (a.eval x)) _ w (.inl rfl) (ChgAt.refl _ _) (put_fr hfr) ?_ put_same)
    rw [put_eval hdn, List.append_nil]
    exact ⟨hx, rfl⟩
  · simp only [List.length_map] at hy h2 h4
    refine wpList_plain rfl fun K hK => ?_
    obtain ⟨v', w', hr, hown, hg, hbk⟩ := run_append_at (P := P) w B t ty e i z 1 bytes hT hi hz hsz hby hzc (by decide) (a.eval x) vs.length vs hx p us.length cap us (by simp) (fun j u hj => by
      obtain ⟨hjl, rfl⟩ := List.getElem?_eq_some_iff.1 hj
      obtain ⟨x', hc, hr⟩ := h4 j hjl
      rw [getD_map _ _ _ hjl] at hr
      rw [hc]; exact congrArg some hr) hone hmax hroom hB
    unfold Oper.wp execOp
    simp only [resolve, invoke, builtin, Sem.run_bind, Sem.run_pure, Result.andThen_ok, List.map_toArray, List.map_cons, List.map_nil, hy, hr]
    refine hK _ _ (k (bk v') _ w' hbk (ChgAt.of_grown hg) (put_fr hfr) ?_ put_same)
    rw [put_eval hdn]
    refine ⟨?_, rfl⟩
    unfold Own
    rw [List.length_append]
    exact hown

theorem wl_append_bsA {β B : Nat} {t e : TypeId} {z : Value} {bytes : Nat} {x y : Operand} {l m : List UInt8} (hfr : FrD dfs n a) (hd : decide (d < n) = true) (hT : P.underlying t = some (.slice e)) (hI : InfoIs P e z bytes) (hzc : z.cells.size = 1)
    (hx : OwnBA β B e l (a.eval x) w) (hy : Bs m (a.eval y) w) (hB : B ≤ w.heap.size) (hroom : (l.length + m.length) * bytes ≤ 140737488355328 ∧ l.length + m.length ≤ 9223372036854775807)
    (k : ∀ β' a' w', (β' = β ∨ β' = w.heap.size + 1) → ChgAt β w w' → FrD dfs n a' → OwnBA β' B e (l ++ m) (a'.eval (.tmp d)) w' → Same [d] a a' → wpList P ops Q rest a' w') :
    wpList P ops Q (⟨some d, .call ⟨.builtin .append, #[x, y], #[t, t]⟩, ty, pos, af, none⟩ :: rest) a w :=
  wl_append_at hfr hd hT hI hzc hx hy.v (fun u hu => by obtain ⟨c, _, rfl⟩ := List.mem_map.1 hu; rfl) hB (by unfold maxLen; simpa using hroom.2) (by simpa using hroom.1) fun β' a' w' h0 h1 h2 h3 h4 => k β' a' w' h0 h1 h2 (by unfold OwnBA; rw [List.map_append]; exact h3) h4
/-- The address of an element of a slice. -/
def elemPtr (v : Value) (i : Nat) : Value := match v with | .slice (some p) _ _ => .pointer (some (p.add i)) | _ => undef
theorem ok_index_ptr {dst : Option Tmp} {gd : Option (Nat × Bool)} {t e : TypeId} {x y : Operand} {k : IntKind} {vs : List Value} {v : Value} (i : Nat) (hT : P.underlying t = some (.slice e)) (hz : SizeIs P e 1) (hx : SlV vs (a.eval x) w) (hv : a.eval x = v) (hy : a.eval y = .int k (i : Int)) (hi : i < vs.length) :
    OpOk P ⟨dst, .indexAddr t x y, ty, pos, af, gd⟩ a w (Is (elemPtr v i)) := by
  have hi' : i < (vs.map Is).length := by simpa using hi
  obtain ⟨p, cap, u, hv', hs, hc, hr⟩ := hx.some_of hi'
  refine ok_val (v := .pointer (some (p.add i))) ?_ ?_
  · have h1 : (0 : Int) ≤ i ∧ (i : Int) < ((vs.map Is).length : Int) := by omega
    have h2 : i < (vs.map Is).length := hi'
    simp [execOp, Instr.indexAt, hv', hy, asIntOf, run_underlying hT, hz.run, hi]
  · rw [← hv, hv']; rfl

end

/-- An owned row, and the value that leads to it. -/
def OwnV (v : Value) (B : Nat) (e : TypeId) (l : List UInt8) : VP := fun u w => u = v ∧ OwnB B e l u w
instance (v : Value) (B : Nat) (e : TypeId) (l : List UInt8) : Stb (OwnV v B e l) := ⟨fun u w w' hx h => ⟨h.1, Stb.st u w w' hx h.2⟩⟩
theorem OwnB.v {B : Nat} {e : TypeId} {l : List UInt8} {u : Value} {w : World} (h : OwnB B e l u w) : ∃ v, OwnV v B e l u w := ⟨u, rfl, h⟩
theorem OwnV.own {v : Value} {B : Nat} {e : TypeId} {l : List UInt8} {u : Value} {w : World} (h : OwnV v B e l u w) : OwnB B e l v w := h.1 ▸ h.2
theorem OwnV.set {v : Value} {B : Nat} {e : TypeId} {l l' : List UInt8} {a a' : Act} {t : Tmp} {w w' : World} (h : OwnV v B e l (a.eval (.tmp t)) w) (hs : Same [] a a') (k : OwnB B e l' v w') : OwnV v B e l' (a'.eval (.tmp t)) w' := by
  have e1 : a'.eval (.tmp t) = a.eval (.tmp t) := hs t (by simp)
  refine ⟨e1.trans h.1, ?_⟩
  rw [e1, h.1]; exact k
section
variable {P : Program} {ty : TypeId} {pos : String} {af : Array Edge} {a : Act} {w : World} {d : Option Tmp} {gd : Option (Nat × Bool)}
end
end Go.Proofs.Ytpjpfmnnefgnbaa
