/- The statements of layer 7, in plain Lean. -/
import Derived.Test.YtdbjpfjnambenaaS07
import Derived.Test.YtdbjpfjnambenaaT08
namespace Go.Proofs.Ytdbjpfjnambenaa
open Go

def some7 : LinkL := ⟨[1, 0, 0, 0, 0, 0], [2, 0, 0, 0, 0, 0], [⟨33024, 258⟩], 2048, 0⟩
def bad7 : LinkL := ⟨[0, 0, 0, 0, 0, 0], [0, 0, 0, 0, 0, 0], [], 33024, 0⟩
theorem some7_ok : LinkOk some7 := ⟨rfl, rfl⟩
theorem some7_right : linkRight some7 = true := by decide
theorem some7_put : linkPutR some7 = (linkPut some7, 0) := by unfold linkPutR; rw [if_pos some7_right]
theorem bad7_put : linkPutR bad7 = ([], 1) := by unfold linkPutR; rw [if_neg (by decide)]
theorem some7_len : (linkPut some7).length = 18 := linkPut_len some7_ok
theorem some7_read : linkRead (linkPut some7 ++ [9]) = ({ some7 with at' := 18 }, 0) := link_back some7_ok some7_right
theorem some7_early : (linkRead ((linkPut some7).take 17)).2 = 2 := by rw [link_early some7_ok some7_right (by decide)]
theorem linkPut_no {L : LinkL} (h : ((linkPutR L).2 != 0) = true) : linkRight L = false ∧ (linkPutR L).1 = [] := by
  unfold linkPutR at h ⊢
  cases hr : linkRight L with
  | false => exact ⟨rfl, rfl⟩
  | true => rw [if_pos hr] at h; simp at h
theorem linkPut_yes {L : LinkL} (h : ((linkPutR L).2 != 0) = false) : linkRight L = true ∧ linkPutR L = (linkPut L, 0) := by
  unfold linkPutR at h ⊢
  cases hr : linkRight L with
  | true => exact ⟨rfl, rfl⟩
  | false => rw [if_neg (by rw [hr]; decide)] at h; simp at h
/-- Turned bytes are read alike. -/
theorem linkGo_turn {l l' : List UInt8} (hl : l'.length = l.length) (hb : ∀ i, 12 ≤ i → byteAt l' i = byteAt l i) : ∀ (k p : Nat) (ts : List TagL), 12 ≤ p →
    (linkGo l' k p ts).2 = (linkGo l k p ts).2 ∧ ((linkGo l k p ts).2 = 0 → (linkGo l' k p ts).1 = { (linkGo l k p ts).1 with dst := l'.take 6, src := (l'.drop 6).take 6 }) := by
  have hw : ∀ i, 12 ≤ i → wordAt l' i = wordAt l i := fun i h => by unfold wordAt; rw [hb i h, hb (i + 1) (by omega)]
  intro k
  induction k with
  | zero =>
    intro p ts hp
    by_cases h1 : l.length < p + 2
    · rw [linkGo_end h1, linkGo_end (by omega)]; exact ⟨rfl, fun h => by simp at h⟩
    · cases h2 : tagB (wordAt l p) with
      | true => rw [linkGo_long h1 h2, linkGo_long (by omega) (by rw [hw p hp]; exact h2)]; exact ⟨rfl, fun h => by simp at h⟩
      | false => rw [linkGo_done h1 h2, linkGo_done (by omega) (by rw [hw p hp]; exact h2), hw p hp]; exact ⟨rfl, fun _ => rfl⟩
  | succ k ih =>
    intro p ts hp
    by_cases h1 : l.length < p + 2
    · rw [linkGo_end h1, linkGo_end (by omega)]; exact ⟨rfl, fun h => by simp at h⟩
    · cases h2 : tagB (wordAt l p) with
      | true =>
        by_cases h6 : l.length < p + 6
        · rw [linkGo_cut h1 h2 h6, linkGo_cut (by omega) (by rw [hw p hp]; exact h2) (by omega)]; exact ⟨rfl, fun h => by simp at h⟩
        · rw [linkGo_step h1 h2 h6, linkGo_step (by omega) (by rw [hw p hp]; exact h2) (by omega), hw p hp, hw (p + 2) (by omega)]
          exact ih _ _ (by omega)
      | false => rw [linkGo_done h1 h2, linkGo_done (by omega) (by rw [hw p hp]; exact h2), hw p hp]; exact ⟨rfl, fun _ => rfl⟩
section
variable {l d s : List UInt8}
theorem turn_byte (hd : d.length = 6) (hs : s.length = 6) {i : Nat} (h : 12 ≤ i) : byteAt (turnL l d s) i = byteAt l i := by
  by_cases hi : i < l.length
  · have := turnL_at (l := l) hd hs hi
    rw [if_neg (by omega), if_neg (by omega)] at this
    unfold byteAt
    rw [List.getD_eq_getElem?_getD, List.getD_eq_getElem?_getD, this]
  · rw [byteAt_out (by rw [turnL_len]; omega), byteAt_out (by omega)]
theorem turn_read (hd : d.length = 6) (hs : s.length = 6) : (linkRead (turnL l d s)).2 = (linkRead l).2 ∧ ((linkRead l).2 = 0 → (linkRead (turnL l d s)).1 = { (linkRead l).1 with dst := d, src := s }) := by
  have h := linkGo_turn (l := l) (l' := turnL l d s) turnL_len (fun i hi => turn_byte hd hs hi) 2 12 [] (by omega)
  refine ⟨h.1, fun h0 => ?_⟩
  have hb := linkRead_bd h0
  have hlen : 14 ≤ l.length := by omega
  have e1 : (turnL l d s).take 6 = d := by
    apply List.ext_getElem?
    intro i
    by_cases c : i < 6
    · rw [List.getElem?_take_of_lt c, turnL_at hd hs (by omega), if_pos c]
    · rw [List.getElem?_take, if_neg c, List.getElem?_eq_none (by omega)]
  have e2 : ((turnL l d s).drop 6).take 6 = s := by
    apply List.ext_getElem?
    intro i
    by_cases c : i < 6
    · rw [List.getElem?_take_of_lt c, List.getElem?_drop, turnL_at hd hs (by omega), if_neg (by omega), if_pos (by omega)]
      congr 1; omega
    · rw [List.getElem?_take, if_neg c, List.getElem?_eq_none (by omega)]
  have h2 := h.2 h0
  rw [e1, e2] at h2
  exact h2
theorem turn_a {i : Nat} (hd : d.length = 6) (hs : s.length = 6) (hi : i < l.length) (h : i < 6) : (turnL l d s)[i]'(by rw [turnL_len]; exact hi) = d[i]'(by omega) := by
  have := turnL_at (l := l) hd hs hi
  rw [if_pos h, List.getElem?_eq_getElem (by rw [turnL_len]; exact hi), List.getElem?_eq_getElem (by omega)] at this
  exact Option.some.inj this
theorem turn_b {i : Nat} (hd : d.length = 6) (hs : s.length = 6) (hi : i < l.length) (h : ¬ i < 6) (h2 : i < 12) : (turnL l d s)[i]'(by rw [turnL_len]; exact hi) = s[i - 6]'(by omega) := by
  have := turnL_at (l := l) hd hs hi
  rw [if_neg h, if_pos h2, List.getElem?_eq_getElem (by rw [turnL_len]; exact hi), List.getElem?_eq_getElem (by omega)] at this
  exact Option.some.inj this
theorem turn_c {i : Nat} (hd : d.length = 6) (hs : s.length = 6) (hi : i < l.length) (h : ¬ i < 6) (h2 : ¬ i < 12) : (turnL l d s)[i]'(by rw [turnL_len]; exact hi) = l[i] := by
  have := turnL_at (l := l) hd hs hi
  rw [if_neg h, if_neg h2, List.getElem?_eq_getElem (by rw [turnL_len]; exact hi), List.getElem?_eq_getElem hi] at this
  exact Option.some.inj this
end
/-- A struct with a slice in it, built. -/
theorem ok_buildO {P : Program} {d : Option Tmp} {ty t e : TypeId} {pos : String} {af : Array Edge} {gd : Option (Nat × Bool)} {a : Act} {w : World} {ls : List Nat} {Z : List (List Value)} {parts : Array (Nat × Operand)} {B : Nat} {L : LinkL} (xs : List (Nat × Operand)) (qs : Value → List (Nat × List Value)) (y : Operand)
    (hL : LayIs P t ls Z) (hp : parts = xs.toArray) (hy : OwnR B e tagR L.tags (a.eval y) w) (hR : PartsC a xs (qs (a.eval y))) (hq : ((qs (a.eval y)).all fun q => q.2.length == ls.getD q.1 0 && decide (q.1 < ls.length)) = true)
    (he : ∀ v, (setAll Z (qs v)).flatten = (lnkS L v).flatten) : OpOk P ⟨d, .build t parts, ty, pos, af, gd⟩ a w (vp (LinkO B e L)) := by
  have h := ok_buildS (d := d) (ty := ty) (pos := pos) (af := af) (gd := gd) (w := w) xs (qs (a.eval y)) hL hp hR hq
  unfold vp
  unfold OpOk okUpon at h ⊢
  generalize (execOp a.eval _).run P w = q at h ⊢
  have fin : ∀ {u : Value} {w' : World}, Ext w w' → u = .agg (setAll Z (qs (a.eval y))).flatten.toArray → LinkO B e L u w' := fun {u w'} hx hu => ⟨a.eval y, by rw [hu, he]; rfl, Stb.st _ _ _ hx hy⟩
  cases q with
  | halt x w' => exact h.elim
  | ok nx w' =>
    cases nx <;> first | exact h.elim | skip
    case value u => exact ⟨h.1, fin h.1 h.2⟩
    case skip => exact ⟨h.1, fin h.1 h.2⟩
    case enter f args => exact ⟨h.1, h.2.mono fun e w'' ⟨u, hu, hx', hv⟩ => ⟨u, hu, hx', fin hx' hv⟩⟩
theorem Tup2.openL {B : Nat} {e : TypeId} {L : LinkL} {U : VP} {u : Value} {w : World} (h : Tup2 (LinkO B e L) U u w) : ∃ v, Tup2 (Is (LnkA L v)) U u w ∧ OwnR B e tagR L.tags v w := by
  obtain ⟨x, y, h1, ⟨v, h2, h3⟩, h4⟩ := h
  exact ⟨v, ⟨x, y, h1, h2, h4⟩, h3⟩
end Go.Proofs.Ytdbjpfjnambenaa
