import Derived.Test.YtlmdboaghojgiaaJ
import Derived.Test.YtlmdboaghojgiaaS08
/- Headers of Ethernet, in plain Lean. -/
namespace Go.Proofs.Ytlmdboaghojgiaa
set_option linter.unusedVariables false
set_option linter.unusedSimpArgs false
open Go

structure TagL where
  type : Int
  tci : Int
def tagC (x : TagL) : List Value := [.int .i64 x.type, .int .i64 x.tci]
def tagR : RT TagL := ⟨tagC, 2, fun _ => rfl, by decide, fun x u hu => by simp [tagC] at hu; rcases hu with rfl | rfl <;> rfl⟩
structure LinkL where
  dst : List UInt8
  src : List UInt8
  tags : List TagL
  type : Int
  at' : Int
def Q43 : LinkL := ⟨List.replicate 6 0, List.replicate 6 0, [], 0, 0⟩
def Q5f (L : LinkL) : Prop := L.dst.length = 6 ∧ L.src.length = 6
theorem Q3r : Q5f Q43 := ⟨rfl, rfl⟩
def lnkS (L : LinkL) (v : Value) : List (List Value) := [L.dst.map Q0z, L.src.map Q0z, [v], [.int .i64 L.type], [.int .i64 L.at']]
def LnkA (L : LinkL) (v : Value) : Value := .agg (lnkS L v).flatten.toArray
def LinkV (L : LinkL) : VP := fun u w => ∃ v, u = LnkA L v ∧ Rw tagR L.tags v w ∧ v.oneCell' = true
instance (L : LinkL) : Stb (LinkV L) := ⟨fun _ _ _ hx ⟨v, h1, h2, h3⟩ => ⟨v, h1, Stb.st _ _ _ hx h2, h3⟩⟩
theorem Q6d {L : LinkL} {v : Value} (h : Q5f L) : (lnkS L v).map List.length = [6, 6, 1, 1, 1] := by
  obtain ⟨h1, h2⟩ := h
  simp [lnkS, h1, h2]
theorem Q3v {L : LinkL} {v : Value} (hv : v.oneCell' = true) : ∀ u ∈ (lnkS L v).flatten, u.oneCell' = true := by
  intro u hu
  simp only [lnkS, List.flatten_cons, List.flatten_nil, List.mem_append, List.mem_cons, List.mem_map, List.not_mem_nil, or_false] at hu
  rcases hu with ⟨c, _, h⟩ | ⟨c, _, h⟩ | h | h | h <;> subst h <;> first | rfl | exact hv
theorem Q58 {L : LinkL} {v : Value} (h : Q5f L) : (lnkS L v).flatten.length = 15 := by
  obtain ⟨h1, h2⟩ := h
  simp [lnkS, h1, h2]
theorem Q9d {α : Type} {R : RT α} {l : List α} {v : Value} {w : World} (h : Rw R l v w) : v.oneCell' = true := by
  rcases h with ⟨rfl, _⟩ | ⟨p, cap, rfl, _⟩ <;> rfl
/-! ## Reading -/
def tagB (n : Int) : Bool := n == 33024 || n == 34984
def Q2u (l : List UInt8) : Nat → Nat → List TagL → LinkL × Int
  | k, at9, ts =>
    if l.length < at9 + 2 then (Q43, 2)
    else if tagB (Q0a l at9) = true then match k with
      | 0 => (Q43, 4)
      | k + 1 => if l.length < at9 + 6 then (Q43, 2) else Q2u l k (at9 + 4) (ts ++ [⟨Q0a l at9, Q0a l (at9 + 2)⟩])
    else (⟨l.take 6, (l.drop 6).take 6, ts, Q0a l at9, (at9 : Int) + 2⟩, 0)
def Q0f (l : List UInt8) : LinkL × Int := Q2u l 2 12 []
section
variable {l : List UInt8} {k p : Nat} {ts : List TagL}
theorem Q4h (h : l.length < p + 2) : Q2u l k p ts = (Q43, 2) := by unfold Q2u; rw [if_pos h]
theorem Q3w (h : ¬ l.length < p + 2) (t : tagB (Q0a l p) = false) : Q2u l k p ts = (⟨l.take 6, (l.drop 6).take 6, ts, Q0a l p, (p : Int) + 2⟩, 0) := by
  unfold Q2u; rw [if_neg h, if_neg (by rw [t]; decide)]
theorem Q5s (h : ¬ l.length < p + 2) (t : tagB (Q0a l p) = true) : Q2u l 0 p ts = (Q43, 4) := by
  unfold Q2u; rw [if_neg h, if_pos t]
theorem Q6n (h : ¬ l.length < p + 2) (t : tagB (Q0a l p) = true) (h6 : l.length < p + 6) : Q2u l (k + 1) p ts = (Q43, 2) := by
  unfold Q2u; rw [if_neg h, if_pos t]; simp only []; rw [if_pos h6]
theorem Q5t (h : ¬ l.length < p + 2) (t : tagB (Q0a l p) = true) (h6 : ¬ l.length < p + 6) : Q2u l (k + 1) p ts = Q2u l k (p + 4) (ts ++ [⟨Q0a l p, Q0a l (p + 2)⟩]) := by
  conv => lhs; unfold Q2u
  rw [if_neg h, if_pos t]; simp only []; rw [if_neg h6]
end
theorem Qio {l : List UInt8} : ∀ (k p : Nat) (ts : List TagL), 12 ≤ p → (Q2u l k p ts).2 = 0 →
    Q5f (Q2u l k p ts).1 ∧ (p : Int) + 2 ≤ (Q2u l k p ts).1.at' ∧ (Q2u l k p ts).1.at' ≤ l.length ∧ (Q2u l k p ts).1.tags.length ≤ ts.length + k ∧
      (Q2u l k p ts).1.at' = (p : Int) + 2 + 4 * ((Q2u l k p ts).1.tags.length - ts.length : Nat) ∧ ts.length ≤ (Q2u l k p ts).1.tags.length := by
  intro k
  induction k with
  | zero =>
    intro p ts hp h
    by_cases h1 : l.length < p + 2
    · rw [Q4h h1] at h; simp at h
    · cases h2 : tagB (Q0a l p) with
      | true => rw [Q5s h1 h2] at h; simp at h
      | false => rw [Q3w h1 h2]; refine ⟨⟨by simp; omega, by simp; omega⟩, ?_⟩; simp; omega
  | succ k ih =>
    intro p ts hp h
    by_cases h1 : l.length < p + 2
    · rw [Q4h h1] at h; simp at h
    · cases h2 : tagB (Q0a l p) with
      | true =>
        by_cases h6 : l.length < p + 6
        · rw [Q6n h1 h2 h6] at h; simp at h
        · rw [Q5t h1 h2 h6] at h ⊢
          have := ih _ _ (by omega) h
          simp only [List.length_append, List.length_cons, List.length_nil] at this
          refine ⟨this.1, ?_⟩
          omega
      | false => rw [Q3w h1 h2]; refine ⟨⟨by simp; omega, by simp; omega⟩, ?_⟩; simp; omega
theorem Qgf {l : List UInt8} : ∀ (k p : Nat) (ts : List TagL), 12 ≤ p → Q5f (Q2u l k p ts).1 := by
  intro k
  induction k with
  | zero =>
    intro p ts hp
    by_cases h1 : l.length < p + 2
    · rw [Q4h h1]; exact Q3r
    · cases h2 : tagB (Q0a l p) with
      | true => rw [Q5s h1 h2]; exact Q3r
      | false => rw [Q3w h1 h2]; exact ⟨by simp; omega, by simp; omega⟩
  | succ k ih =>
    intro p ts hp
    by_cases h1 : l.length < p + 2
    · rw [Q4h h1]; exact Q3r
    · cases h2 : tagB (Q0a l p) with
      | true =>
        by_cases h6 : l.length < p + 6
        · rw [Q6n h1 h2 h6]; exact Q3r
        · rw [Q5t h1 h2 h6]; exact ih _ _ (by omega)
      | false => rw [Q3w h1 h2]; exact ⟨by simp; omega, by simp; omega⟩
theorem Q9e (l : List UInt8) : Q5f (Q0f l).1 := Qgf _ _ _ (by omega)
theorem Qdq {l : List UInt8} (h : (Q0f l).2 = 0) : 14 ≤ (Q0f l).1.at' ∧ (Q0f l).1.at' ≤ l.length ∧ (Q0f l).1.tags.length ≤ 2 ∧ (Q0f l).1.at' = 14 + 4 * ((Q0f l).1.tags.length : Int) := by
  unfold Q0f at h ⊢
  have := Qio (l := l) 2 12 [] (by omega) h
  simp only [List.length_nil] at this
  omega
/-! ## Laying -/
def inW (n : Int) : Bool := decide (0 ≤ n) && decide (n ≤ 65535)
def Qkf (x : TagL) : Bool := tagB x.type && inW x.tci
def Q37 (L : LinkL) : Bool := decide (L.tags.length ≤ 2) && inW L.type && !tagB L.type && L.tags.all Qkf
def Q7n (x : TagL) : List UInt8 := put2 x.type ++ put2 x.tci
def Q6c (L : LinkL) : List UInt8 := L.dst ++ L.src ++ L.tags.flatMap Q7n ++ put2 L.type
theorem Qfk (ts : List TagL) : (ts.flatMap Q7n).length = 4 * ts.length := by
  induction ts with
  | nil => rfl
  | cons x ts ih => rw [List.flatMap_cons, List.length_append, ih]; simp [Q7n, Q13]; omega
theorem Q9a {L : LinkL} (h : Q5f L) : (Q6c L).length = 14 + 4 * L.tags.length := by
  obtain ⟨h1, h2⟩ := h
  simp only [Q6c, List.length_append, h1, h2, Qfk, Q13]
  omega
theorem Qmn {n : Int} (h : tagB n = true) : 0 ≤ n ∧ n ≤ 65535 := by
  unfold tagB at h
  simp only [Bool.or_eq_true, beq_iff_eq] at h
  omega
theorem Qcn {n : Int} (h : inW n = true) : 0 ≤ n ∧ n ≤ 65535 := by
  unfold inW at h; simpa using h
theorem Q8f {L : LinkL} (h : Q37 L = true) : L.tags.length ≤ 2 ∧ (0 ≤ L.type ∧ L.type ≤ 65535) ∧ tagB L.type = false ∧ ∀ x ∈ L.tags, Qkf x = true := by
  unfold Q37 at h
  simp only [Bool.and_eq_true, decide_eq_true_eq, Bool.not_eq_true', List.all_eq_true] at h
  exact ⟨h.1.1.1, Qcn h.1.1.2, h.1.2, h.2⟩
theorem Qdt {n : Int} {r : List UInt8} (h : 0 ≤ n ∧ n ≤ 65535) : Q0a (put2 n ++ r) 0 = n := by
  have h1 := Q8s n
  have h2 := Q8s (n / 256)
  show 256 * ((b8 (n / 256)).toNat : Int) + ((b8 n).toNat : Int) = n
  omega
theorem Q5q {l : List UInt8} {i j : Nat} : Q0a (l.drop i) j = Q0a l (i + j) := by
  unfold Q0a Q08
  simp [List.getD_eq_getElem?_getD, List.getElem?_drop, Nat.add_assoc]
/-! ## Turning -/
/-! ## For the walks -/
def LinkO (B : Nat) (e : TypeId) (L : LinkL) : VP := fun u w => ∃ v, u = LnkA L v ∧ OwnR B e tagR L.tags v w
instance (B : Nat) (e : TypeId) (L : LinkL) : Stb (LinkO B e L) := ⟨fun _ _ _ hx ⟨v, h1, h2⟩ => ⟨v, h1, Stb.st _ _ _ hx h2⟩⟩
theorem LinkO.open {B : Nat} {e : TypeId} {L : LinkL} {u : Value} {w : World} (h : LinkO B e L u w) : ∃ v, Is (LnkA L v) u w ∧ OwnR B e tagR L.tags v w := h
theorem LinkV.open {L : LinkL} {u : Value} {w : World} (h : LinkV L u w) : ∃ v, Is (LnkA L v) u w ∧ Rw tagR L.tags v w ∧ v.oneCell' = true := h
theorem LinkV.of {L : LinkL} {u v : Value} {w : World} (h : Is (LnkA L v) u w) (k : Rw tagR L.tags v w) : LinkV L u w := ⟨v, h, k, Q9d k⟩
theorem Qip {L : LinkL} {v : Value} : Value.agg (((lnkS L v).drop 0).take (5 - 0)).flatten.toArray = LnkA L v := rfl
theorem cpy6 {m : List UInt8} (h : 6 ≤ m.length) : cpy (List.replicate 6 0) 0 6 m = m.take 6 := by
  unfold cpy
  simp only [List.take_zero, List.nil_append, Nat.zero_add, Nat.min_eq_left h]
  rw [List.drop_of_length_le (by simp), List.append_nil]
def p6 (l : List UInt8) (q i : Nat) : List UInt8 := (l.drop q).take i ++ List.replicate (6 - i) 0
theorem Qiq {l : List UInt8} {q i : Nat} (h : i < 6) (hq : q + 6 ≤ l.length) : (p6 l q i).set i (l[q + i]'(by omega)) = p6 l q (i + 1) := by
  unfold p6
  have e1 : ((l.drop q).take i).length = i := by simp; omega
  rw [List.set_append_right _ _ (by omega), e1, Nat.sub_self]
  have e2 : List.replicate (6 - i) (0 : UInt8) = 0 :: List.replicate (6 - (i + 1)) 0 := by
    rw [show 6 - i = (6 - (i + 1)) + 1 from by omega, List.replicate_succ]
  rw [e2, List.set_cons_zero, List.take_succ_eq_append_getElem (by simp; omega), List.append_assoc]
  simp
theorem Qlu (l : List UInt8) (q : Nat) : p6 l q 6 = (l.drop q).take 6 := by simp [p6]
theorem p6_0 (l : List UInt8) (q : Nat) : p6 l q 0 = List.replicate 6 0 := by simp [p6]
theorem Qpn {n p : Nat} {b : Bool} (h : (decide ((n : Int) ≥ (p : Int) + 2) && b) = true) : ¬ n < p + 2 ∧ b = true := by
  simp only [Bool.and_eq_true, decide_eq_true_eq] at h
  exact ⟨by omega, h.2⟩
theorem Qpo {n p : Nat} {b : Bool} (h : (decide ((n : Int) ≥ (p : Int) + 2) && b) = false) (h2 : ¬ n < p + 2) : b = false := by
  simp only [Bool.and_eq_false_iff, decide_eq_false_iff_not] at h
  rcases h with h | h
  · omega
  · exact h
theorem Qir {l : List TagL} {i : Nat} (hi : i < l.length) : (l.take (i + 1)).flatMap Q7n = (l.take i).flatMap Q7n ++ Q7n l[i] := by
  rw [List.take_succ_eq_append_getElem hi, List.flatMap_append]; simp
theorem Q6e {l : List TagL} (h : l.length ≤ 2) (i : Nat) : ((l.take i).flatMap Q7n).length ≤ 8 := by
  rw [Qfk]; simp; omega
end Go.Proofs.Ytlmdboaghojgiaa

/- The statements of layer 7, in plain Lean. -/
namespace Go.Proofs.Ytlmdboaghojgiaa
set_option linter.unusedVariables false
set_option linter.unusedSimpArgs false
open Go

section
variable {l d s : List UInt8}
end
end Go.Proofs.Ytlmdboaghojgiaa
