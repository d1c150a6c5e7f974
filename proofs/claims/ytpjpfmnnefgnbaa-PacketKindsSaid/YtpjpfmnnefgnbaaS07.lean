import Derived.Test.YtpjpfmnnefgnbaaJ
import Derived.Test.YtpjpfmnnefgnbaaS08
/- Headers of Ethernet, in plain Lean. -/
namespace Go.Proofs.Ytpjpfmnnefgnbaa
set_option linter.unusedVariables false
set_option linter.unusedSimpArgs false
open Go

structure TagL where
  type : Int
  tci : Int
def tagC (x : TagL) : List Value := [.int .i64 x.type, .int .i64 x.tci]
def tagR : RT TagL := ⟨tagC, 2, fun _ => rfl, by decide, fun x u hu => by simp [tagC] at hu; rcases hu with rfl | rfl <;> rfl⟩
structure LinkL where
  dst : List UInt8
  src : List UInt8
  tags : List TagL
  type : Int
  at' : Int
def link0 : LinkL := ⟨List.replicate 6 0, List.replicate 6 0, [], 0, 0⟩
def LinkOk (L : LinkL) : Prop := L.dst.length = 6 ∧ L.src.length = 6
theorem link0_ok : LinkOk link0 := ⟨rfl, rfl⟩
def lnkS (L : LinkL) (v : Value) : List (List Value) := [L.dst.map byteV, L.src.map byteV, [v], [.int .i64 L.type], [.int .i64 L.at']]
def LnkA (L : LinkL) (v : Value) : Value := .agg (lnkS L v).flatten.toArray
def LinkV (L : LinkL) : VP := fun u w => ∃ v, u = LnkA L v ∧ Rw tagR L.tags v w ∧ v.oneCell' = true
instance (L : LinkL) : Stb (LinkV L) := ⟨fun _ _ _ hx ⟨v, h1, h2, h3⟩ => ⟨v, h1, Stb.st _ _ _ hx h2, h3⟩⟩
theorem lnkS_lens {L : LinkL} {v : Value} (h : LinkOk L) : (lnkS L v).map List.length = [6, 6, 1, 1, 1] := by
  obtain ⟨h1, h2⟩ := h
  simp [lnkS, h1, h2]
theorem lnk_one {L : LinkL} {v : Value} (hv : v.oneCell' = true) : ∀ u ∈ (lnkS L v).flatten, u.oneCell' = true := by
  intro u hu
  simp only [lnkS, List.flatten_cons, List.flatten_nil, List.mem_append, List.mem_cons, List.mem_map, List.not_mem_nil, or_false] at hu
  rcases hu with ⟨c, _, h⟩ | ⟨c, _, h⟩ | h | h | h <;> subst h <;> first | rfl | exact hv
theorem lnk_len {L : LinkL} {v : Value} (h : LinkOk L) : (lnkS L v).flatten.length = 15 := by
  obtain ⟨h1, h2⟩ := h
  simp [lnkS, h1, h2]
theorem rw_one {α : Type} {R : RT α} {l : List α} {v : Value} {w : World} (h : Rw R l v w) : v.oneCell' = true := by
  rcases h with ⟨rfl, _⟩ | ⟨p, cap, rfl, _⟩ <;> rfl
/-! ## Reading -/
def tagB (n : Int) : Bool := n == 33024 || n == 34984
def linkGo (l : List UInt8) : Nat → Nat → List TagL → LinkL × Int
  | k, at9, ts =>
    if l.length < at9 + 2 then (link0, 2)
    else if tagB (wordAt l at9) = true then match k with
      | 0 => (link0, 4)
      | k + 1 => if l.length < at9 + 6 then (link0, 2) else linkGo l k (at9 + 4) (ts ++ [⟨wordAt l at9, wordAt l (at9 + 2)⟩])
    else (⟨l.take 6, (l.drop 6).take 6, ts, wordAt l at9, (at9 : Int) + 2⟩, 0)
def linkRead (l : List UInt8) : LinkL × Int := linkGo l 2 12 []
section
variable {l : List UInt8} {k p : Nat} {ts : List TagL}
theorem linkGo_end (h : l.length < p + 2) : linkGo l k p ts = (link0, 2) := by unfold linkGo; rw [if_pos h]
theorem linkGo_done (h : ¬ l.length < p + 2) (t : tagB (wordAt l p) = false) : linkGo l k p ts = (⟨l.take 6, (l.drop 6).take 6, ts, wordAt l p, (p : Int) + 2⟩, 0) := by
  unfold linkGo; rw [if_neg h, if_neg (by rw [t]; decide)]
theorem linkGo_long (h : ¬ l.length < p + 2) (t : tagB (wordAt l p) = true) : linkGo l 0 p ts = (link0, 4) := by
  unfold linkGo; rw [if_neg h, if_pos t]
theorem linkGo_cut (h : ¬ l.length < p + 2) (t : tagB (wordAt l p) = true) (h6 : l.length < p + 6) : linkGo l (k + 1) p ts = (link0, 2) := by
  unfold linkGo; rw [if_neg h, if_pos t]; simp only []; rw [if_pos h6]
theorem linkGo_step (h : ¬ l.length < p + 2) (t : tagB (wordAt l p) = true) (h6 : ¬ l.length < p + 6) : linkGo l (k + 1) p ts = linkGo l k (p + 4) (ts ++ [⟨wordAt l p, wordAt l (p + 2)⟩]) := by
  conv => lhs; unfold linkGo
  rw [if_neg h, if_pos t]; simp only []; rw [if_neg h6]
end
theorem linkGo_ok {l : List UInt8} : ∀ (k p : Nat) (ts : List TagL), 12 ≤ p → (linkGo l k p ts).2 = 0 →
    LinkOk (linkGo l k p ts).1 ∧ (p : Int) + 2 ≤ (linkGo l k p ts).1.at' ∧ (linkGo l k p ts).1.at' ≤ l.length ∧ (linkGo l k p ts).1.tags.length ≤ ts.length + k ∧
      (linkGo l k p ts).1.at' = (p : Int) + 2 + 4 * ((linkGo l k p ts).1.tags.length - ts.length : Nat) ∧ ts.length ≤ (linkGo l k p ts).1.tags.length := by
  intro k
  induction k with
  | zero =>
    intro p ts hp h
    by_cases h1 : l.length < p + 2
    · rw [linkGo_end h1] at h; simp at h
    · cases h2 : tagB (wordAt l p) with
      | true => rw [linkGo_long h1 h2] at h; simp at h
      | false => rw [linkGo_done h1 h2]; refine ⟨⟨by simp; omega, by simp; omega⟩, ?_⟩; simp; omega
  | succ k ih =>
    intro p ts hp h
    by_cases h1 : l.length < p + 2
    · rw [linkGo_end h1] at h; simp at h
    · cases h2 : tagB (wordAt l p) with
      | true =>
        by_cases h6 : l.length < p + 6
        · rw [linkGo_cut h1 h2 h6] at h; simp at h
        · rw [linkGo_step h1 h2 h6] at h ⊢
          have := ih _ _ (by omega) h
          simp only [List.length_append, List.length_cons, List.length_nil] at this
          refine ⟨this.1, ?_⟩
          omega
      | false => rw [linkGo_done h1 h2]; refine ⟨⟨by simp; omega, by simp; omega⟩, ?_⟩; simp; omega
theorem linkGo_okr {l : List UInt8} : ∀ (k p : Nat) (ts : List TagL), 12 ≤ p → LinkOk (linkGo l k p ts).1 := by
  intro k
  induction k with
  | zero =>
    intro p ts hp
    by_cases h1 : l.length < p + 2
    · rw [linkGo_end h1]; exact link0_ok
    · cases h2 : tagB (wordAt l p) with
      | true => rw [linkGo_long h1 h2]; exact link0_ok
      | false => rw [linkGo_done h1 h2]; exact ⟨by simp; omega, by simp; omega⟩
  | succ k ih =>
    intro p ts hp
    by_cases h1 : l.length < p + 2
    · rw [linkGo_end h1]; exact link0_ok
    · cases h2 : tagB (wordAt l p) with
      | true =>
        by_cases h6 : l.length < p + 6
        · rw [linkGo_cut h1 h2 h6]; exact link0_ok
        · rw [linkGo_step h1 h2 h6]; exact ih _ _ (by omega)
      | false => rw [linkGo_done h1 h2]; exact ⟨by simp; omega, by simp; omega⟩
theorem linkRead_ok (l : List UInt8) : LinkOk (linkRead l).1 := linkGo_okr _ _ _ (by omega)
theorem linkRead_bd {l : List UInt8} (h : (linkRead l).2 = 0) : 14 ≤ (linkRead l).1.at' ∧ (linkRead l).1.at' ≤ l.length ∧ (linkRead l).1.tags.length ≤ 2 ∧ (linkRead l).1.at' = 14 + 4 * ((linkRead l).1.tags.length : Int) := by
  unfold linkRead at h ⊢
  have := linkGo_ok (l := l) 2 12 [] (by omega) h
  simp only [List.length_nil] at this
  omega
/-! ## Laying -/
def inW (n : Int) : Bool := decide (0 ≤ n) && decide (n ≤ 65535)
def tagOk (x : TagL) : Bool := tagB x.type && inW x.tci
def linkRight (L : LinkL) : Bool := decide (L.tags.length ≤ 2) && inW L.type && !tagB L.type && L.tags.all tagOk
def tagPut (x : TagL) : List UInt8 := put2 x.type ++ put2 x.tci
def linkPut (L : LinkL) : List UInt8 := L.dst ++ L.src ++ L.tags.flatMap tagPut ++ put2 L.type
def linkPutR (L : LinkL) : List UInt8 × Int := if linkRight L then (linkPut L, 0) else ([], 1)
theorem tags_len (ts : List TagL) : (ts.flatMap tagPut).length = 4 * ts.length := by
  induction ts with
  | nil => rfl
  | cons x ts ih => rw [List.flatMap_cons, List.length_append, ih]; simp [tagPut, put2_len]; omega
theorem linkPut_len {L : LinkL} (h : LinkOk L) : (linkPut L).length = 14 + 4 * L.tags.length := by
  obtain ⟨h1, h2⟩ := h
  simp only [linkPut, List.length_append, h1, h2, tags_len, put2_len]
  omega
theorem tagB_bd {n : Int} (h : tagB n = true) : 0 ≤ n ∧ n ≤ 65535 := by
  unfold tagB at h
  simp only [Bool.or_eq_true, beq_iff_eq] at h
  omega
theorem inW_bd {n : Int} (h : inW n = true) : 0 ≤ n ∧ n ≤ 65535 := by
  unfold inW at h; simpa using h
theorem linkRight_bd {L : LinkL} (h : linkRight L = true) : L.tags.length ≤ 2 ∧ (0 ≤ L.type ∧ L.type ≤ 65535) ∧ tagB L.type = false ∧ ∀ x ∈ L.tags, tagOk x = true := by
  unfold linkRight at h
  simp only [Bool.and_eq_true, decide_eq_true_eq, Bool.not_eq_true', List.all_eq_true] at h
  exact ⟨h.1.1.1, inW_bd h.1.1.2, h.1.2, h.2⟩
theorem wordAt_put2 {n : Int} {r : List UInt8} (h : 0 ≤ n ∧ n ≤ 65535) : wordAt (put2 n ++ r) 0 = n := by
  have h1 := b8_toNat n
  have h2 := b8_toNat (n / 256)
  show 256 * ((b8 (n / 256)).toNat : Int) + ((b8 n).toNat : Int) = n
  omega
theorem wordAt_drop {l : List UInt8} {i j : Nat} : wordAt (l.drop i) j = wordAt l (i + j) := by
  unfold wordAt byteAt
  simp [List.getD_eq_getElem?_getD, List.getElem?_drop, Nat.add_assoc]
theorem wordAt_at {l q r : List UInt8} {p : Nat} {n : Int} (h : l.drop p = put2 n ++ r) (hn : 0 ≤ n ∧ n ≤ 65535) : wordAt l p = n := by
  have := wordAt_drop (l := l) (i := p) (j := 0)
  rw [Nat.add_zero, h, wordAt_put2 hn] at this
  exact this.symm
theorem linkGo_tags {l r : List UInt8} {n : Int} : ∀ (us ts : List TagL) (k p : Nat), (∀ x ∈ us, tagOk x = true) → 0 ≤ n ∧ n ≤ 65535 → tagB n = false → us.length ≤ k → p ≤ l.length → l.drop p = us.flatMap tagPut ++ (put2 n ++ r) →
    linkGo l k p ts = (⟨l.take 6, (l.drop 6).take 6, ts ++ us, n, (p : Int) + 4 * (us.length : Int) + 2⟩, 0)
  | [], ts, k, p, _, hn, ht, _, hpl, h => by
    have hw := wordAt_at (q := []) (by simpa using h) hn
    have hlen : (l.drop p).length = 2 + r.length := by rw [h]; simp [put2_len]
    rw [List.length_drop] at hlen
    rw [linkGo_done (by omega) (by rw [hw]; exact ht), hw]
    simp
  | x :: us, ts, k + 1, p, hx, hn, ht, hk, hpl, h => by
    have hxo := hx x (by simp)
    have hxo2 := hxo
    unfold tagOk at hxo
    simp only [Bool.and_eq_true] at hxo
    have b1 := tagB_bd hxo.1
    have b2 := inW_bd hxo.2
    rw [List.flatMap_cons, tagPut, List.append_assoc, List.append_assoc] at h
    have hw := wordAt_at (q := []) h b1
    have h2 : l.drop (p + 2) = put2 x.tci ++ (us.flatMap tagPut ++ (put2 n ++ r)) := by
      rw [← List.drop_drop, h]; rfl
    have hw2 := wordAt_at (q := []) h2 b2
    have h4 : l.drop (p + 4) = us.flatMap tagPut ++ (put2 n ++ r) := by
      rw [show p + 4 = p + 2 + 2 from rfl, ← List.drop_drop, h2]; rfl
    have hlen : (l.drop (p + 4)).length = 4 * us.length + 2 + r.length := by rw [h4]; simp only [List.length_append, put2_len, tags_len]; omega
    rw [List.length_drop] at hlen
    have hlen2 : 2 ≤ 4 * us.length + 2 + r.length := by omega
    rw [linkGo_step (by omega) (by rw [hw]; exact hxo.1) (by omega), hw, hw2]
    rw [linkGo_tags us (ts ++ [(⟨x.type, x.tci⟩ : TagL)]) k (p + 4) (fun y hy => hx y (by simp [hy])) hn ht (by simpa using hk) (by omega) h4]
    simp only [Prod.mk.injEq, and_true, LinkL.mk.injEq, true_and, List.append_assoc, List.cons_append, List.nil_append, List.length_cons]
    omega
  | x :: us, ts, 0, p, _, _, _, hk, _, _ => by simp at hk
theorem link_back {L : LinkL} {r : List UInt8} (hL : LinkOk L) (hr : linkRight L = true) : linkRead (linkPut L ++ r) = ({ L with at' := 14 + 4 * (L.tags.length : Int) }, 0) := by
  obtain ⟨h1, h2⟩ := hL
  obtain ⟨k1, k2, k3, k4⟩ := linkRight_bd hr
  have e0 : linkPut L ++ r = L.dst ++ (L.src ++ (L.tags.flatMap tagPut ++ (put2 L.type ++ r))) := by simp [linkPut]
  have e6 : (linkPut L ++ r).take 6 = L.dst := by rw [e0, List.take_append_of_le_length (by omega), List.take_of_length_le (by omega)]
  have d6 : (linkPut L ++ r).drop 6 = L.src ++ (L.tags.flatMap tagPut ++ (put2 L.type ++ r)) := by
    rw [e0, List.drop_append_of_le_length (by omega), List.drop_of_length_le (by omega), List.nil_append]
  have e66 : ((linkPut L ++ r).drop 6).take 6 = L.src := by rw [d6, List.take_append_of_le_length (by omega), List.take_of_length_le (by omega)]
  have d12 : (linkPut L ++ r).drop 12 = L.tags.flatMap tagPut ++ (put2 L.type ++ r) := by
    rw [show (12 : Nat) = 6 + 6 from rfl, ← List.drop_drop, d6, List.drop_append_of_le_length (by omega), List.drop_of_length_le (by omega), List.nil_append]
  have hlen : (linkPut L ++ r).length = 14 + 4 * L.tags.length + r.length := by rw [List.length_append, linkPut_len ⟨h1, h2⟩]
  unfold linkRead
  rw [linkGo_tags L.tags [] 2 12 k4 k2 k3 k1 (by omega) d12, e6, e66]
  simp only [List.nil_append, Prod.mk.injEq, and_true, LinkL.mk.injEq, true_and]
  omega
/-! ## Turning -/
/-! ## For the walks -/
def LinkO (B : Nat) (e : TypeId) (L : LinkL) : VP := fun u w => ∃ v, u = LnkA L v ∧ OwnR B e tagR L.tags v w
instance (B : Nat) (e : TypeId) (L : LinkL) : Stb (LinkO B e L) := ⟨fun _ _ _ hx ⟨v, h1, h2⟩ => ⟨v, h1, Stb.st _ _ _ hx h2⟩⟩
theorem LinkO.open {B : Nat} {e : TypeId} {L : LinkL} {u : Value} {w : World} (h : LinkO B e L u w) : ∃ v, Is (LnkA L v) u w ∧ OwnR B e tagR L.tags v w := h
theorem LinkV.open {L : LinkL} {u : Value} {w : World} (h : LinkV L u w) : ∃ v, Is (LnkA L v) u w ∧ Rw tagR L.tags v w ∧ v.oneCell' = true := h
theorem LinkV.of {L : LinkL} {u v : Value} {w : World} (h : Is (LnkA L v) u w) (k : Rw tagR L.tags v w) : LinkV L u w := ⟨v, h, k, rw_one k⟩
theorem ok_isW {P : Program} {o : Oper} {a : Act} {w W : World} {c : Value} {V : VP} (h : OpOk P o a w (Is c)) (hv : V c W) : OpOk P o a w (AtW W V) := by
  unfold OpOk okUpon at h ⊢
  generalize (execOp a.eval _).run P w = q at h ⊢
  cases q with
  | halt x w' => exact h.elim
  | ok nx w' =>
    cases nx <;> first | exact h.elim | skip
    case value u => exact ⟨h.1, by show V u W; rw [show u = c from h.2]; exact hv⟩
    case skip => exact ⟨h.1, by show V undef W; rw [show undef = c from h.2]; exact hv⟩
    case enter f args => exact ⟨h.1, h.2.mono fun e w'' ⟨u, he, hx', hu⟩ => ⟨u, he, hx', by show V u W; rw [show u = c from hu]; exact hv⟩⟩
theorem lnk_all {L : LinkL} {v : Value} : Value.agg (((lnkS L v).drop 0).take (5 - 0)).flatten.toArray = LnkA L v := rfl
theorem cpy6 {m : List UInt8} (h : 6 ≤ m.length) : cpy (List.replicate 6 0) 0 6 m = m.take 6 := by
  unfold cpy
  simp only [List.take_zero, List.nil_append, Nat.zero_add, Nat.min_eq_left h]
  rw [List.drop_of_length_le (by simp), List.append_nil]
def p6 (l : List UInt8) (q i : Nat) : List UInt8 := (l.drop q).take i ++ List.replicate (6 - i) 0
theorem put_c (L : LinkL) : ((decide ((L.tags.length : Int) > 2) || !inW L.type) || tagB L.type) = !(decide (L.tags.length ≤ 2) && inW L.type && !tagB L.type) := by
  have e1 : decide ((L.tags.length : Int) > 2) = !decide (L.tags.length ≤ 2) := by rw [Bool.eq_iff_iff]; simp; omega
  rw [e1]
  cases decide (L.tags.length ≤ 2) <;> cases inW L.type <;> cases tagB L.type <;> rfl
theorem linkRight_no {L : LinkL} (h : ((decide ((L.tags.length : Int) > 2) || !inW L.type) || tagB L.type) = true) : linkRight L = false := by
  rw [put_c] at h
  unfold linkRight
  rw [Bool.not_eq_true'] at h
  rw [h, Bool.false_and]
theorem linkRight_part {L : LinkL} (h : ((decide ((L.tags.length : Int) > 2) || !inW L.type) || tagB L.type) = false) : linkRight L = L.tags.all tagOk ∧ L.tags.length ≤ 2 ∧ (0 ≤ L.type ∧ L.type ≤ 65535) := by
  rw [put_c] at h
  rw [Bool.not_eq_false'] at h
  unfold linkRight
  refine ⟨by rw [h, Bool.true_and], ?_⟩
  simp only [Bool.and_eq_true, decide_eq_true_eq] at h
  exact ⟨h.1.1, inW_bd h.1.2⟩
theorem all_no {l : List TagL} {i : Nat} (hi : i < l.length) (h : tagOk l[i] = false) : l.all tagOk = false := by
  rw [List.all_eq_false]; exact ⟨l[i], List.getElem_mem hi, by simp [h]⟩
theorem all_step {l : List TagL} {i : Nat} (hi : i < l.length) (h : (l.take i).all tagOk = true) (k : tagOk l[i] = true) : (l.take (i + 1)).all tagOk = true := by
  rw [List.take_succ_eq_append_getElem hi, List.all_append, h]; simp [k]
theorem tags_step {l : List TagL} {i : Nat} (hi : i < l.length) : (l.take (i + 1)).flatMap tagPut = (l.take i).flatMap tagPut ++ tagPut l[i] := by
  rw [List.take_succ_eq_append_getElem hi, List.flatMap_append]; simp
theorem tags_len2 {l : List TagL} (h : l.length ≤ 2) (i : Nat) : ((l.take i).flatMap tagPut).length ≤ 8 := by
  rw [tags_len]; simp; omega
end Go.Proofs.Ytpjpfmnnefgnbaa

/- The statements of layer 7, in plain Lean. -/
namespace Go.Proofs.Ytpjpfmnnefgnbaa
set_option linter.unusedVariables false
set_option linter.unusedSimpArgs false
open Go

theorem linkPut_no {L : LinkL} (h : ((linkPutR L).2 != 0) = true) : linkRight L = false ∧ (linkPutR L).1 = [] := by
  unfold linkPutR at h ⊢
  cases hr : linkRight L with
  | false => exact ⟨rfl, rfl⟩
  | true => rw [if_pos hr] at h; simp at h
theorem linkPut_yes {L : LinkL} (h : ((linkPutR L).2 != 0) = false) : linkRight L = true ∧ linkPutR L = (linkPut L, 0) := by
  unfold linkPutR at h ⊢
  cases hr : linkRight L with
  | true => exact ⟨rfl, rfl⟩
  | false => rw [if_neg (by rw [hr]; decide)] at h; simp at h
section
variable {l d s : List UInt8}
end
end Go.Proofs.Ytpjpfmnnefgnbaa
