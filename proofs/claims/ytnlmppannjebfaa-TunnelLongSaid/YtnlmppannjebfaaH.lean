/- A region that draws its order, where what only reads may run behind a store: all that yields the same while some condition on the world holds is taken first, then the stores in their order. -/
import Derived.Test.YtnlmppannjebfaaZ
import Derived.OrdersHeld
namespace Go.Proofs.Ytnlmppannjebfaa
set_option linter.unusedVariables false
set_option linter.unusedSimpArgs false
open Go Go.RowKit
section
variable {P : Program} {ops : Array Oper} {Q : Exit → Act → World → Prop} {S : World → Prop}
theorem wp_anyH_start {id : Nat} {l : List Oper} {a : Act} {w : World} (S : World → Prop) (hm : P.follows .mixedOrders = true) (hS : ∀ w', Ext w w' → S w') (h : ∀ w', Ext w w' → S w' → wpAnyH P .any l.toArray Q S l.toArray.size (Array.replicate l.toArray.size false) a w') :
    (Code.region id l.toArray true).wp P Q a w := wp_region_held hm (h _ (Ext.draw1 w) (hS _ (Ext.draw1 w)))
/-- What yields the same while 'S' holds, first. -/
theorem anyH_op {i d : Nat} {op : Op} {ty : TypeId} {pos : String} {af : Array Edge} {fuel n : Nat} {L : Array Bool} {a : Act} {w : World} {V : VP} (hfr : Fr n a) (hi : ops[i]? = some ⟨some d, op, ty, pos, af, none⟩) (hd : decide (d < n) = true)
    (hc : (Region.noSelect ops && Region.free .any ops L i && (Region.ready .any ops L).contains i) = true) (hQ : ∀ c a w v, Q (.panic c) (a.put (some d) v) w → Q (.panic c) a w)
    (hy : ∃ v, (∀ w, S w → (execOp a.eval ⟨some d, op, ty, pos, af, none⟩).run P w = .ok (.value v) w) ∧ V v w) (hS : S w)
    (k : ∀ a', Fr n a' → V (a'.eval (.tmp d)) w → Same [d] a a' → wpAnyH P .any ops Q S fuel (L.setIfInBounds i true) a' w) : wpAnyH P .any ops Q S (fuel + 1) L a w := by
  simp only [Bool.and_eq_true] at hc
  obtain ⟨⟨h1, h2⟩, h3⟩ := hc
  obtain ⟨v, hv, hV⟩ := hy
  refine wpAnyH_take hi h1 h2 h3 (fun c a w h => hQ c a w v h) (.inl ⟨rfl, hv⟩) hS (k _ (put_fr hfr) ?_ put_same)
  rw [put_eval (by rw [hfr.1]; simpa using hd)]
  exact hV
theorem yh {a : Act} {w : World} {V : VP} {o : Oper} (h : ∃ v, (∀ w, (execOp a.eval o).run P w = .ok (.value v) w) ∧ V v w) : ∃ v, (∀ w, S w → (execOp a.eval o).run P w = .ok (.value v) w) ∧ V v w := by
  obtain ⟨v, h1, h2⟩ := h
  exact ⟨v, fun w _ => h1 w, h2⟩
/-- A load of what stays while 'S' holds. -/
theorem yh_load {a : Act} {w : World} {V : VP} {d : Option Tmp} {ty : TypeId} {pos : String} {af : Array Edge} {gd : Option (Nat × Bool)} {t : TypeId} {D : TypeDesc} {x : Operand} {p : Addr} {u : Value} (hT : P.underlying t = some D) (hD : (match D with | .struct _ | .array _ _ => false | _ => true) = true) (hx : a.eval x = .pointer (some p))
    (hc : ∀ W, S W → W.cell? p = some u) (hV : V u w) : ∃ v, (∀ w, S w → (execOp a.eval ⟨d, .load t x, ty, pos, af, gd⟩).run P w = .ok (.value v) w) ∧ V v w := by
  refine ⟨u, fun W hW => ?_, hV⟩
  have hagg : (isAgg t).run P W = .ok false W := by
    unfold isAgg
    simp only [Sem.run_bind, run_underlying hT, Result.andThen_ok]
    cases D <;> first | rfl | (simp at hD)
  simp [execOp, Instr.loadAt, hx, Instr.sureAddr, loadVar, hagg, hc W hW]
end
section
variable {P : Program} {d : Option Tmp} {ty : TypeId} {pos : String} {af : Array Edge} {gd : Option (Nat × Bool)} {a : Act} {w : World} {t t' e : TypeId} {x y : Operand} {k : IntKind} {m n : Int}
theorem pv_bin {o : BinOp} {v : Value} (hg : o ≠ .shl ∧ o ≠ .shr) (hx : a.eval x = .int k m) (hy : a.eval y = .int k n)
    (h : (match o with | .add | .sub | .mul => Op.intArith o k m n | .quo | .rem => Op.intDiv o k m n | .and | .or | .xor | .andNot => Op.intBits o k m n | _ => Op.intCmp o m n) = pure v) :
    ∃ v, ∀ w, (execOp a.eval ⟨d, .binOp o t x y t', ty, pos, af, gd⟩).run P w = .ok (.value v) w := by
  refine ⟨v, fun w => ?_⟩
  have he : (eqGuard o t x y (.int k m) (.int k n)).run P w = .ok () w := by
    unfold eqGuard; split <;> rfl
  simp only [execOp, hx, hy]
  have hb : binOp o t (.int k m) (.int k n) = pure v := by
    rw [← h]; cases o <;> first | exact absurd rfl hg.1 | exact absurd rfl hg.2 | simp [binOp]
  rw [hb]
  simp [he]
end

/-! ## What is left then: stores, in their order -/
section
variable {P : Program} {ops : Array Oper} {Q : Exit → Act → World → Prop} {S : World → Prop}
theorem anyH_done {fuel : Nat} {L : Array Bool} {a : Act} {w : World} (hr : (Region.ready .any ops L == []) = true) (h : Q .normal a w) : wpAnyH P .any ops Q S fuel L a w := wpAnyH_done (by simpa using hr) h fuel
variable {a : Act} {w : World} {β B : Nat} {ls : List Nat} {T : List (List Value)} {j : Nat} {t : TypeId} {x y : Operand} {ty : TypeId} {pos : String} {af : Array Edge}
end

/-- Bytes now, and in an earlier world. -/
def BsW (W : World) (l : List UInt8) : VP := fun v w => Bs l v w ∧ Bs l v W
instance (W : World) (l : List UInt8) : Stb (BsW W l) := ⟨fun v w w' hx h => ⟨Stb.st v w w' hx h.1, h.2⟩⟩
theorem BsW.now {W : World} {l : List UInt8} {v : Value} {w : World} (h : BsW W l v w) : Bs l v w := h.1
theorem BsW.old {W : World} {l : List UInt8} {v : Value} {w : World} (h : BsW W l v w) : Bs l v W := h.2
end Go.Proofs.Ytnlmppannjebfaa
