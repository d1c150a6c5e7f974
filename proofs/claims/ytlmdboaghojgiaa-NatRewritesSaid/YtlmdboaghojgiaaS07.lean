import Derived.Test.YtlmdboaghojgiaaJ
import Derived.Test.YtlmdboaghojgiaaS08
/- Headers of Ethernet, in plain Lean. -/
namespace Go.Proofs.Ytlmdboaghojgiaa
set_option linter.unusedVariables false
set_option linter.unusedSimpArgs false
open Go

structure TagL where
  type : Int
  tci : Int
def tagC (x : TagL) : List Value := [.int .i64 x.type, .int .i64 x.tci]
def tagR : RT TagL := ⟨tagC, 2, fun _ => rfl, by decide, fun x u hu => by simp [tagC] at hu; rcases hu with rfl | rfl <;> rfl⟩
structure LinkL where
  dst : List UInt8
  src : List UInt8
  tags : List TagL
  type : Int
  at' : Int
def link0 : LinkL := ⟨List.replicate 6 0, List.replicate 6 0, [], 0, 0⟩
def LinkOk (L : LinkL) : Prop := L.dst.length = 6 ∧ L.src.length = 6
theorem link0_ok : LinkOk link0 := ⟨rfl, rfl⟩
def lnkS (L : LinkL) (v : Value) : List (List Value) := [L.dst.map byteV, L.src.map byteV, [v], [.int .i64 L.type], [.int .i64 L.at']]
def LnkA (L : LinkL) (v : Value) : Value := .agg (lnkS L v).flatten.toArray
def LinkV (L : LinkL) : VP := fun u w => ∃ v, u = LnkA L v ∧ Rw tagR L.tags v w ∧ v.oneCell' = true
instance (L : LinkL) : Stb (LinkV L) := ⟨fun _ _ _ hx ⟨v, h1, h2, h3⟩ => ⟨v, h1, Stb.st _ _ _ hx h2, h3⟩⟩
theorem lnkS_lens {L : LinkL} {v : Value} (h : LinkOk L) : (lnkS L v).map List.length = [6, 6, 1, 1, 1] := by
  obtain ⟨h1, h2⟩ := h
  simp [lnkS, h1, h2]
theorem lnk_one {L : LinkL} {v : Value} (hv : v.oneCell' = true) : ∀ u ∈ (lnkS L v).flatten, u.oneCell' = true := by
  intro u hu
  simp only [lnkS, List.flatten_cons, List.flatten_nil, List.mem_append, List.mem_cons, List.mem_map, List.not_mem_nil, or_false] at hu
  rcases hu with ⟨c, _, h⟩ | ⟨c, _, h⟩ | h | h | h <;> subst h <;> first | rfl | exact hv
theorem lnk_len {L : LinkL} {v : Value} (h : LinkOk L) : (lnkS L v).flatten.length = 15 := by
  obtain ⟨h1, h2⟩ := h
  simp [lnkS, h1, h2]
theorem rw_one {α : Type} {R : RT α} {l : List α} {v : Value} {w : World} (h : Rw R l v w) : v.oneCell' = true := by
  rcases h with ⟨rfl, _⟩ | ⟨p, cap, rfl, _⟩ <;> rfl
/-! ## Reading -/
def tagB (n : Int) : Bool := n == 33024 || n == 34984
def linkGo (l : List UInt8) : Nat → Nat → List TagL → LinkL × Int
  | k, at9, ts =>
    if l.length < at9 + 2 then (link0, 2)
    else if tagB (wordAt l at9) = true then match k with
      | 0 => (link0, 4)
      | k + 1 => if l.length < at9 + 6 then (link0, 2) else linkGo l k (at9 + 4) (ts ++ [⟨wordAt l at9, wordAt l (at9 + 2)⟩])
    else (⟨l.take 6, (l.drop 6).take 6, ts, wordAt l at9, (at9 : Int) + 2⟩, 0)
def linkRead (l : List UInt8) : LinkL × Int := linkGo l 2 12 []
section
variable {l : List UInt8} {k p : Nat} {ts : List TagL}
theorem linkGo_end (h : l.length < p + 2) : linkGo l k p ts = (link0, 2) := by unfold linkGo; rw [if_pos h]
theorem linkGo_done (h : ¬ l.length < p + 2) (t : tagB (wordAt l p) = false) : linkGo l k p ts = (⟨l.take 6, (l.drop 6).take 6, ts, wordAt l p, (p : Int) + 2⟩, 0) := by
  unfold linkGo; rw [if_neg h, if_neg (by rw [t]; decide)]
theorem linkGo_long (h : ¬ l.length < p + 2) (t : tagB (wordAt l p) = true) : linkGo l 0 p ts = (link0, 4) := by
  unfold linkGo; rw [if_neg h, if_pos t]
theorem linkGo_cut (h : ¬ l.length < p + 2) (t : tagB (wordAt l p) = true) (h6 : l.length < p + 6) : linkGo l (k + 1) p ts = (link0, 2) := by
  unfold linkGo; rw [if_neg h, if_pos t]; simp only []; rw [if_pos h6]
theorem linkGo_step (h : ¬ l.length < p + 2) (t : tagB (wordAt l p) = true) (h6 : ¬ l.length < p + 6) : linkGo l (k + 1) p ts = linkGo l k (p + 4) (ts ++ [⟨wordAt l p, wordAt l (p + 2)⟩]) := by
  conv => lhs; unfold linkGo
  rw [if_neg h, if_pos t]; simp only []; rw [if_neg h6]
end
theorem linkGo_ok {l : List UInt8} : ∀ (k p : Nat) (ts : List TagL), 12 ≤ p → (linkGo l k p ts).2 = 0 →
    LinkOk (linkGo l k p ts).1 ∧ (p : Int) + 2 ≤ (linkGo l k p ts).1.at' ∧ (linkGo l k p ts).1.at' ≤ l.length ∧ (linkGo l k p ts).1.tags.length ≤ ts.length + k ∧
      (linkGo l k p ts).1.at' = (p : Int) + 2 + 4 * ((linkGo l k p ts).1.tags.length - ts.length : Nat) ∧ ts.length ≤ (linkGo l k p ts).1.tags.length := by
  intro k
  induction k with
  | zero =>
    intro p ts hp h
    by_cases h1 : l.length < p + 2
    · rw [linkGo_end h1] at h; simp at h
    · cases h2 : tagB (wordAt l p) with
      | true => rw [linkGo_long h1 h2] at h; simp at h
      | false => rw [linkGo_done h1 h2]; refine ⟨⟨by simp; omega, by simp; omega⟩, ?_⟩; simp; omega
  | succ k ih =>
    intro p ts hp h
    by_cases h1 : l.length < p + 2
    · rw [linkGo_end h1] at h; simp at h
    · cases h2 : tagB (wordAt l p) with
      | true =>
        by_cases h6 : l.length < p + 6
        · rw [linkGo_cut h1 h2 h6] at h; simp at h
        · rw [linkGo_step h1 h2 h6] at h ⊢
          have := ih _ _ (by omega) h
          simp only [List.length_append, List.length_cons, List.length_nil] at this
          refine ⟨this.1, ?_⟩
          omega
      | false => rw [linkGo_done h1 h2]; refine ⟨⟨by simp; omega, by simp; omega⟩, ?_⟩; simp; omega
theorem linkGo_okr {l : List UInt8} : ∀ (k p : Nat) (ts : List TagL), 12 ≤ p → LinkOk (linkGo l k p ts).1 := by
  intro k
  induction k with
  | zero =>
    intro p ts hp
    by_cases h1 : l.length < p + 2
    · rw [linkGo_end h1]; exact link0_ok
    · cases h2 : tagB (wordAt l p) with
      | true => rw [linkGo_long h1 h2]; exact link0_ok
      | false => rw [linkGo_done h1 h2]; exact ⟨by simp; omega, by simp; omega⟩
  | succ k ih =>
    intro p ts hp
    by_cases h1 : l.length < p + 2
    · rw [linkGo_end h1]; exact link0_ok
    · cases h2 : tagB (wordAt l p) with
      | true =>
        by_cases h6 : l.length < p + 6
        · rw [linkGo_cut h1 h2 h6]; exact link0_ok
        · rw [linkGo_step h1 h2 h6]; exact ih _ _ (by omega)
      | false => rw [linkGo_done h1 h2]; exact ⟨by simp; omega, by simp; omega⟩
theorem linkRead_ok (l : List UInt8) : LinkOk (linkRead l).1 := linkGo_okr _ _ _ (by omega)
theorem linkRead_bd {l : List UInt8} (h : (linkRead l).2 = 0) : 14 ≤ (linkRead l).1.at' ∧ (linkRead l).1.at' ≤ l.length ∧ (linkRead l).1.tags.length ≤ 2 ∧ (linkRead l).1.at' = 14 + 4 * ((linkRead l).1.tags.length : Int) := by
  unfold linkRead at h ⊢
  have := linkGo_ok (l := l) 2 12 [] (by omega) h
  simp only [List.length_nil] at this
  omega
/-! ## Laying -/
def inW (n : Int) : Bool := decide (0 ≤ n) && decide (n ≤ 65535)
def tagOk (x : TagL) : Bool := tagB x.type && inW x.tci
def linkRight (L : LinkL) : Bool := decide (L.tags.length ≤ 2) && inW L.type && !tagB L.type && L.tags.all tagOk
def tagPut (x : TagL) : List UInt8 := put2 x.type ++ put2 x.tci
def linkPut (L : LinkL) : List UInt8 := L.dst ++ L.src ++ L.tags.flatMap tagPut ++ put2 L.type
theorem tags_len (ts : List TagL) : (ts.flatMap tagPut).length = 4 * ts.length := by
  induction ts with
  | nil => rfl
  | cons x ts ih => rw [List.flatMap_cons, List.length_append, ih]; simp [tagPut, put2_len]; omega
theorem linkPut_len {L : LinkL} (h : LinkOk L) : (linkPut L).length = 14 + 4 * L.tags.length := by
  obtain ⟨h1, h2⟩ := h
  simp only [linkPut, List.length_append, h1, h2, tags_len, put2_len]
  omega
theorem tagB_bd {n : Int} (h : tagB n = true) : 0 ≤ n ∧ n ≤ 65535 := by
  unfold tagB at h
  simp only [Bool.or_eq_true, beq_iff_eq] at h
  omega
theorem inW_bd {n : Int} (h : inW n = true) : 0 ≤ n ∧ n ≤ 65535 := by
  unfold inW at h; simpa using h
theorem linkRight_bd {L : LinkL} (h : linkRight L = true) : L.tags.length ≤ 2 ∧ (0 ≤ L.type ∧ L.type ≤ 65535) ∧ tagB L.type = false ∧ ∀ x ∈ L.tags, tagOk x = true := by
  unfold linkRight at h
  simp only [Bool.and_eq_true, decide_eq_true_eq, Bool.not_eq_true', List.all_eq_true] at h
  exact ⟨h.1.1.1, inW_bd h.1.1.2, h.1.2, h.2⟩
theorem wordAt_put2 {n : Int} {r : List UInt8} (h : 0 ≤ n ∧ n ≤ 65535) : wordAt (put2 n ++ r) 0 = n := by
  have h1 := b8_toNat n
  have h2 := b8_toNat (n / 256)
  show 256 * ((b8 (n / 256)).toNat : Int) + ((b8 n).toNat : Int) = n
  omega
theorem wordAt_drop {l : List UInt8} {i j : Nat} : wordAt (l.drop i) j = wordAt l (i + j) := by
  unfold wordAt byteAt
  simp [List.getD_eq_getElem?_getD, List.getElem?_drop, Nat.add_assoc]
/-! ## Turning -/
/-! ## For the walks -/
def LinkO (B : Nat) (e : TypeId) (L : LinkL) : VP := fun u w => ∃ v, u = LnkA L v ∧ OwnR B e tagR L.tags v w
instance (B : Nat) (e : TypeId) (L : LinkL) : Stb (LinkO B e L) := ⟨fun _ _ _ hx ⟨v, h1, h2⟩ => ⟨v, h1, Stb.st _ _ _ hx h2⟩⟩
theorem LinkO.open {B : Nat} {e : TypeId} {L : LinkL} {u : Value} {w : World} (h : LinkO B e L u w) : ∃ v, Is (LnkA L v) u w ∧ OwnR B e tagR L.tags v w := h
theorem LinkV.open {L : LinkL} {u : Value} {w : World} (h : LinkV L u w) : ∃ v, Is (LnkA L v) u w ∧ Rw tagR L.tags v w ∧ v.oneCell' = true := h
theorem LinkV.of {L : LinkL} {u v : Value} {w : World} (h : Is (LnkA L v) u w) (k : Rw tagR L.tags v w) : LinkV L u w := ⟨v, h, k, rw_one k⟩
theorem lnk_all {L : LinkL} {v : Value} : Value.agg (((lnkS L v).drop 0).take (5 - 0)).flatten.toArray = LnkA L v := rfl
theorem cpy6 {m : List UInt8} (h : 6 ≤ m.length) : cpy (List.replicate 6 0) 0 6 m = m.take 6 := by
  unfold cpy
  simp only [List.take_zero, List.nil_append, Nat.zero_add, Nat.min_eq_left h]
  rw [List.drop_of_length_le (by simp), List.append_nil]
def p6 (l : List UInt8) (q i : Nat) : List UInt8 := (l.drop q).take i ++ List.replicate (6 - i) 0
theorem p6_step {l : List UInt8} {q i : Nat} (h : i < 6) (hq : q + 6 ≤ l.length) : (p6 l q i).set i (l[q + i]'(by omega)) = p6 l q (i + 1) := by
  unfold p6
  have e1 : ((l.drop q).take i).length = i := by simp; omega
  rw [List.set_append_right _ _ (by omega), e1, Nat.sub_self]
  have e2 : List.replicate (6 - i) (0 : UInt8) = 0 :: List.replicate (6 - (i + 1)) 0 := by
    rw [show 6 - i = (6 - (i + 1)) + 1 from by omega, List.replicate_succ]
  rw [e2, List.set_cons_zero, List.take_succ_eq_append_getElem (by simp; omega), List.append_assoc]
  simp
theorem p6_end (l : List UInt8) (q : Nat) : p6 l q 6 = (l.drop q).take 6 := by simp [p6]
theorem p6_0 (l : List UInt8) (q : Nat) : p6 l q 0 = List.replicate 6 0 := by simp [p6]
theorem r07_t {n p : Nat} {b : Bool} (h : (decide ((n : Int) ≥ (p : Int) + 2) && b) = true) : ¬ n < p + 2 ∧ b = true := by
  simp only [Bool.and_eq_true, decide_eq_true_eq] at h
  exact ⟨by omega, h.2⟩
theorem r07_f {n p : Nat} {b : Bool} (h : (decide ((n : Int) ≥ (p : Int) + 2) && b) = false) (h2 : ¬ n < p + 2) : b = false := by
  simp only [Bool.and_eq_false_iff, decide_eq_false_iff_not] at h
  rcases h with h | h
  · omega
  · exact h
theorem tags_step {l : List TagL} {i : Nat} (hi : i < l.length) : (l.take (i + 1)).flatMap tagPut = (l.take i).flatMap tagPut ++ tagPut l[i] := by
  rw [List.take_succ_eq_append_getElem hi, List.flatMap_append]; simp
theorem tags_len2 {l : List TagL} (h : l.length ≤ 2) (i : Nat) : ((l.take i).flatMap tagPut).length ≤ 8 := by
  rw [tags_len]; simp; omega
end Go.Proofs.Ytlmdboaghojgiaa

/- The statements of layer 7, in plain Lean. -/
namespace Go.Proofs.Ytlmdboaghojgiaa
set_option linter.unusedVariables false
set_option linter.unusedSimpArgs false
open Go

section
variable {l d s : List UInt8}
end
end Go.Proofs.Ytlmdboaghojgiaa
