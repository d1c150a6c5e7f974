/- A region that draws its order, where what only reads may run behind a store: all that yields the same while some condition on the world holds is taken first, then the stores in their order. -/
import Derived.Test.YtpjpfmnnefgnbaaZ
import Derived.OrdersHeld
namespace Go.Proofs.Ytpjpfmnnefgnbaa
set_option linter.unusedVariables false
set_option linter.unusedSimpArgs false
open Go Go.RowKit
variable {dfs : List Deferred}
section
variable {P : Program} {ops : Array Oper} {Q : Exit → Act → World → Prop} {S : World → Prop}
theorem wp_anyH_start {id : Nat} {l : List Oper} {a : Act} {w : World} (S : World → Prop) (hm : P.follows .mixedOrders = true) (hS : ∀ w', Ext w w' → S w') (h : ∀ w', Ext w w' → S w' → wpAnyH P .any l.toArray Q S l.toArray.size (Array.replicate l.toArray.size false) a w') :
    (Code.region id l.toArray true).wp P Q a w := wp_region_held hm (h _ (Ext.draw1 w) (hS _ (Ext.draw1 w)))
/-- What yields the same while 'S' holds, first. -/
theorem anyH_op {i d : Nat} {op : Op} {ty : TypeId} {pos : String} {af : Array Edge} {fuel n : Nat} {L : Array Bool} {a : Act} {w : World} {V : VP} (hfr : FrD dfs n a) (hi : ops[i]? = some ⟨some d, op, ty, pos, af, none⟩) (hd : decide (d < n) = true)
    (hc : (Region.noSelect ops && Region.free .any ops L i && (Region.ready .any ops L).contains i) = true) (hQ : ∀ c a w v, Q (.panic c) (a.put (some d) v) w → Q (.panic c) a w)
    (hy : ∃ v, (∀ w, S w → (execOp a.eval ⟨some d, op, ty, pos, af, none⟩).run P w = .ok (.value v) w) ∧ V v w) (hS : S w)
    (k : ∀ a', FrD dfs n a' → V (a'.eval (.tmp d)) w → Same [d] a a' → wpAnyH P .any ops Q S fuel (L.setIfInBounds i true) a' w) : wpAnyH P .any ops Q S (fuel + 1) L a w := by
  simp only [Bool.and_eq_true] at hc
  obtain ⟨⟨h1, h2⟩, h3⟩ := hc
  obtain ⟨v, hv, hV⟩ := hy
  refine wpAnyH_take hi h1 h2 h3 (fun c a w h => hQ c a w v h) (.inl ⟨rfl, hv⟩) hS (k _ (put_fr hfr) ?_ put_same)
  rw [put_eval (by rw [hfr.1]; simpa using hd)]
  exact hV
theorem yh {a : Act} {w : World} {V : VP} {o : Oper} (h : ∃ v, (∀ w, (execOp a.eval o).run P w = .ok (.value v) w) ∧ V v w) : ∃ v, (∀ w, S w → (execOp a.eval o).run P w = .ok (.value v) w) ∧ V v w := by
  obtain ⟨v, h1, h2⟩ := h
  exact ⟨v, fun w _ => h1 w, h2⟩
/-- A load of what stays while 'S' holds. -/
theorem yh_load {a : Act} {w : World} {V : VP} {d : Option Tmp} {ty : TypeId} {pos : String} {af : Array Edge} {gd : Option (Nat × Bool)} {t : TypeId} {D : TypeDesc} {x : Operand} {p : Addr} {u : Value} (hT : P.underlying t = some D) (hD : (match D with | .struct _ | .array _ _ => false | _ => true) = true) (hx : a.eval x = .pointer (some p))
    (hc : ∀ W, S W → W.cell? p = some u) (hV : V u w) : ∃ v, (∀ w, S w → (execOp a.eval ⟨d, .load t x, ty, pos, af, gd⟩).run P w = .ok (.value v) w) ∧ V v w := by
  refine ⟨u, fun W hW => ?_, hV⟩
  have hagg : (isAgg t).run P W = .ok false W := by
    unfold isAgg
    simp only [Sem.run_bind, run_underlying hT, Result.andThen_ok]
    cases D <;> first | rfl | (simp at hD)
  simp [execOp, Instr.loadAt, hx, Instr.sureAddr, loadVar, hagg, hc W hW]
/-- .. of a byte that stood in an earlier world. -/
theorem yh_loadb {a : Act} {w W0 : World} {d : Option Tmp} {ty : TypeId} {pos : String} {af : Array Edge} {gd : Option (Nat × Bool)} {t : TypeId} {D : TypeDesc} {x : Operand} {c : UInt8} (hT : P.underlying t = some D) (hD : (match D with | .struct _ | .array _ _ => false | _ => true) = true)
    (hx : AtW W0 (Ptr (ByteIs c)) (a.eval x) w) (hS : ∀ W, S W → Below W0.heap.size W0 W) : ∃ v, (∀ w, S w → (execOp a.eval ⟨d, .load t x, ty, pos, af, gd⟩).run P w = .ok (.value v) w) ∧ ByteIs c v w := by
  obtain ⟨p, u, h1, _, h3, h4⟩ := hx
  exact yh_load hT hD h1 (fun W hW => by rw [(hS W hW).cell (block_lt_of_cell h3)]; exact h3) h4
end
section
variable {P : Program} {d : Option Tmp} {ty : TypeId} {pos : String} {af : Array Edge} {gd : Option (Nat × Bool)} {a : Act} {w : World} {t t' e : TypeId} {x y : Operand} {k : IntKind} {m n : Int}
theorem okW_index_bs {W : World} {l : List UInt8} (i : Nat) (hT : P.underlying t = some (.slice e)) (hz : SizeIs P e 1) (hx : Bs l (a.eval x) W) (hy : a.eval y = .int k (i : Int)) (hi : i < l.length) :
    OpOk P ⟨d, .indexAddr t x y, ty, pos, af, gd⟩ a w (AtW W (Ptr (ByteIs l[i]))) := by
  have hi' : i < (l.map ByteIs).length := by simpa using hi
  have hx' : Sl (l.map ByteIs) (a.eval x) W := hx
  obtain ⟨p, cap, u, hv', hs, hc, hr⟩ := hx'.some_of hi'
  refine ok_val (v := .pointer (some (p.add i))) ?_ ⟨p.add i, u, rfl, by unfold Addr.add; split <;> simp [hs], hc, by rw [getD_map _ _ _ hi] at hr; exact hr⟩
  simp [execOp, Instr.indexAt, hv', hy, asIntOf, run_underlying hT, hz.run, hi]
theorem pv_bin {o : BinOp} {v : Value} (hg : o ≠ .shl ∧ o ≠ .shr) (hx : a.eval x = .int k m) (hy : a.eval y = .int k n)
    (h : (match o with | .add | .sub | .mul => Op.intArith o k m n | .quo | .rem => Op.intDiv o k m n | .and | .or | .xor | .andNot => Op.intBits o k m n | _ => Op.intCmp o m n) = pure v) :
    ∃ v, ∀ w, (execOp a.eval ⟨d, .binOp o t x y t', ty, pos, af, gd⟩).run P w = .ok (.value v) w := by
  refine ⟨v, fun w => ?_⟩
  have he : (eqGuard o t x y (.int k m) (.int k n)).run P w = .ok () w := by
    unfold eqGuard; split <;> rfl
  simp only [execOp, hx, hy]
  have hb : binOp o t (.int k m) (.int k n) = pure v := by
    rw [← h]; cases o <;> first | exact absurd rfl hg.1 | exact absurd rfl hg.2 | simp [binOp]
  rw [hb]
  simp [he]
theorem pv_shift {o : BinOp} {k' : IntKind} (ho : o = .shl ∨ o = .shr) (hx : a.eval x = .int k m) (hy : a.eval y = .int k' n) (hn : 0 ≤ n) : ∃ v, ∀ w, (execOp a.eval ⟨d, .binOp o t x y t', ty, pos, af, gd⟩).run P w = .ok (.value v) w := by
  obtain ⟨v, hv⟩ : ∃ v, Op.shift o k m k' n = pure v := by
    unfold Op.shift; rw [if_neg (by omega)]
    rcases ho with rfl | rfl <;> exact ⟨_, rfl⟩
  refine ⟨v, fun w => ?_⟩
  have he : (eqGuard o t x y (.int k m) (.int k' n)).run P w = .ok () w := by
    unfold eqGuard; rcases ho with rfl | rfl <;> rfl
  simp only [execOp, hx, hy]
  have hb : binOp o t (.int k m) (.int k' n) = pure v := by
    rw [← hv]; rcases ho with rfl | rfl <;> rfl
  rw [hb]
  simp [he]
theorem pv_conv {src dst : TypeId} {D : TypeDesc} {k' : IntKind} (hs : P.underlying src = some D) (hd : P.underlying dst = some (.int k')) (hx : a.eval x = .int k n) : ∃ v, ∀ w, (execOp a.eval ⟨d, .convert src dst x, ty, pos, af, gd⟩).run P w = .ok (.value v) w :=
  ⟨.int k' (k'.wrap n), fun w => by simp [execOp, hx, convert, run_underlying hs, run_underlying hd, Conv.intToInt]⟩
end

/-! ## What is left then: stores, in their order -/
section
variable {P : Program} {ops : Array Oper} {Q : Exit → Act → World → Prop} {S : World → Prop}
/-- A store of the region, the next one. -/
theorem anyH_store {i : Nat} {ty t : TypeId} {pos : String} {af : Array Edge} {fuel n : Nat} {L : Array Bool} {a : Act} {w : World} {x y : Operand} (hfr : FrD dfs n a) (hi : ops[i]? = some ⟨none, .store t x y, ty, pos, af, none⟩)
    (hr : (Region.ready .any ops L == [i]) = true) (h : ∃ w', (∃ nx, (nx = .skip ∨ nx = .value undef) ∧ (execOp a.eval ⟨none, .store t x y, ty, pos, af, none⟩).run P w = .ok nx w') ∧ S w' ∧ wpAnyH P .any ops Q S fuel (L.setIfInBounds i true) a w') :
    wpAnyH P .any ops Q S (fuel + 1) L a w := by
  have hr' : Region.ready .any ops L = [i] := by simpa using hr
  refine wpAnyH_all hr' (by simp) fun j hj => ?_
  simp only [List.mem_cons, List.not_mem_nil, or_false] at hj
  subst hj
  obtain ⟨w', ⟨nx, hnx, hrun⟩, hS, hk⟩ := h
  unfold wpOp
  simp only [hi]
  have hw : Region.wanted ⟨none, .store t x y, ty, pos, af, none⟩ (yielded ops a.tmps) = true := rfl
  rw [if_pos hw]
  left
  unfold Oper.wp
  rw [hrun]
  rcases hnx with rfl | rfl <;> exact ⟨hS, hk⟩
theorem anyH_done {fuel : Nat} {L : Array Bool} {a : Act} {w : World} (hr : (Region.ready .any ops L == []) = true) (h : Q .normal a w) : wpAnyH P .any ops Q S fuel L a w := wpAnyH_done (by simpa using hr) h fuel
variable {a : Act} {w : World} {β B : Nat} {ls : List Nat} {T : List (List Value)} {j : Nat} {t : TypeId} {x y : Operand} {ty : TypeId} {pos : String} {af : Array Edge}
theorem st_S {u : Value} (hz : SizeIs P t 1) (hx : PxS β B ls T j (a.eval x) w) (hy : a.eval y = u) (hu : u.oneCell' = true) (hl : (ls[j]? == some 1) = true) :
    ∃ w', (∃ nx, (nx = .skip ∨ nx = .value undef) ∧ (execOp a.eval ⟨none, .store t x y, ty, pos, af, none⟩).run P w = .ok nx w') ∧ ChgAt β w w' ∧ UpS β ls T (T.set j [u]) w w' := by
  obtain ⟨h0, g, e9, h1, h2, h3, h4⟩ := hx
  have hl : ls[j]? = some 1 := by simpa using hl
  have hiS : j < T.length := by
    have := (List.getElem?_eq_some_iff.1 hl).1
    rw [← h0] at this; simpa using this
  have hli : ls.getD j 0 = 1 := by simp [List.getD_eq_getElem?_getD, hl]
  have hoff : (ls.take j).sum < T.flatten.length := by
    have hs : T[j].length = 1 := by rw [← seg_len h0 (List.getElem?_eq_getElem hiS)]; exact hli
    have := flat_at (k := 0) h0 (List.getElem?_eq_getElem hiS) (by omega)
    have := (List.getElem?_eq_some_iff.1 this).1
    omega
  obtain ⟨w', hrun, hc, hb⟩ := run_store1 (ty := ty) (pos := pos) (af := af) (gd := none) (dst := none) hz hu h4 hoff h3 hy
  exact ⟨w', hrun, h1 ▸ hc, upS h1 h0 hiS (by simpa using hli.symm) h4 hb⟩
theorem anyH_storeS {i n fuel : Nat} {L : Array Bool} {u : Value} (hi : ops[i]? = some ⟨none, .store t x y, ty, pos, af, none⟩) (hr : (Region.ready .any ops L == [i]) = true) (hSc : ∀ w', ChgAt β w w' → S w') (hfr : FrD dfs n a)
    (hz : SizeIs P t 1) (hx : PxS β B ls T j (a.eval x) w) (hy : a.eval y = u) (hu : u.oneCell' = true) (hl : (ls[j]? == some 1) = true)
    (k : ∀ a' w', ChgAt β w w' → UpS β ls T (T.set j [u]) w w' → FrD dfs n a' → Same [] a a' → S w' → wpAnyH P .any ops Q S fuel (L.setIfInBounds i true) a' w') : wpAnyH P .any ops Q S (fuel + 1) L a w := by
  obtain ⟨w', hrun, hc, hup⟩ := st_S (ty := ty) (pos := pos) (af := af) hz hx hy hu hl
  exact anyH_store hfr hi hr ⟨w', hrun, hSc w' hc, k a w' hc hup hfr Same.rfl (hSc w' hc)⟩
end

/-- Bytes now, and in an earlier world. -/
def BsW (W : World) (l : List UInt8) : VP := fun v w => Bs l v w ∧ Bs l v W
instance (W : World) (l : List UInt8) : Stb (BsW W l) := ⟨fun v w w' hx h => ⟨Stb.st v w w' hx h.1, h.2⟩⟩
theorem BsW.now {W : World} {l : List UInt8} {v : Value} {w : World} (h : BsW W l v w) : Bs l v w := h.1
theorem BsW.old {W : World} {l : List UInt8} {v : Value} {w : World} (h : BsW W l v w) : Bs l v W := h.2
end Go.Proofs.Ytpjpfmnnefgnbaa
