import Derived.Test.YtlmdboaghojgiaaJ
import Derived.Test.YtlmdboaghojgiaaS08
/- Headers of Ethernet, in plain Lean. -/
namespace Go.Proofs.Ytlmdboaghojgiaa
set_option linter.unusedVariables false
set_option linter.unusedSimpArgs false
open Go

structure TagL where
  type : Int
  tci : Int
def tagC (x : TagL) : List Value := [.int .i64 x.type, .int .i64 x.tci]
def tagR : RT TagL := ⟨tagC, 2, fun _ => rfl, by decide, fun x u hu => by simp [tagC] at hu; rcases hu with rfl | rfl <;> rfl⟩
structure LinkL where
  dst : List UInt8
  src : List UInt8
  tags : List TagL
  type : Int
  at' : Int
def Q4w : LinkL := ⟨List.replicate 6 0, List.replicate 6 0, [], 0, 0⟩
def Q5y (L : LinkL) : Prop := L.dst.length = 6 ∧ L.src.length = 6
theorem Q4b : Q5y Q4w := ⟨rfl, rfl⟩
def lnkS (L : LinkL) (v : Value) : List (List Value) := [L.dst.map Q12, L.src.map Q12, [v], [.int .i64 L.type], [.int .i64 L.at']]
def LnkA (L : LinkL) (v : Value) : Value := .agg (lnkS L v).flatten.toArray
def LinkV (L : LinkL) : VP := fun u w => ∃ v, u = LnkA L v ∧ Rw tagR L.tags v w ∧ v.oneCell' = true
instance (L : LinkL) : Stb (LinkV L) := ⟨fun _ _ _ hx ⟨v, h1, h2, h3⟩ => ⟨v, h1, Stb.st _ _ _ hx h2, h3⟩⟩
theorem Q77 {L : LinkL} {v : Value} (h : Q5y L) : (lnkS L v).map List.length = [6, 6, 1, 1, 1] := by
  obtain ⟨h1, h2⟩ := h
  simp [lnkS, h1, h2]
theorem Q4l {L : LinkL} {v : Value} (hv : v.oneCell' = true) : ∀ u ∈ (lnkS L v).flatten, u.oneCell' = true := by
  intro u hu
  simp only [lnkS, List.flatten_cons, List.flatten_nil, List.mem_append, List.mem_cons, List.mem_map, List.not_mem_nil, or_false] at hu
  rcases hu with ⟨c, _, h⟩ | ⟨c, _, h⟩ | h | h | h <;> subst h <;> first | rfl | exact hv
theorem Q64 {L : LinkL} {v : Value} (h : Q5y L) : (lnkS L v).flatten.length = 15 := by
  obtain ⟨h1, h2⟩ := h
  simp [lnkS, h1, h2]
theorem Qb0 {α : Type} {R : RT α} {l : List α} {v : Value} {w : World} (h : Rw R l v w) : v.oneCell' = true := by
  rcases h with ⟨rfl, _⟩ | ⟨p, cap, rfl, _⟩ <;> rfl
/-! ## Reading -/
def tagB (n : Int) : Bool := n == 33024 || n == 34984
def Q2i (l : List UInt8) : Nat → Nat → List TagL → LinkL × Int
  | k, at9, ts =>
    if l.length < at9 + 2 then (Q4w, 2)
    else if tagB (Q06 l at9) = true then match k with
      | 0 => (Q4w, 4)
      | k + 1 => if l.length < at9 + 6 then (Q4w, 2) else Q2i l k (at9 + 4) (ts ++ [⟨Q06 l at9, Q06 l (at9 + 2)⟩])
    else (⟨l.take 6, (l.drop 6).take 6, ts, Q06 l at9, (at9 : Int) + 2⟩, 0)
def Q0b (l : List UInt8) : LinkL × Int := Q2i l 2 12 []
section
variable {l : List UInt8} {k p : Nat} {ts : List TagL}
theorem Q43 (h : l.length < p + 2) : Q2i l k p ts = (Q4w, 2) := by unfold Q2i; rw [if_pos h]
theorem Q3c (h : ¬ l.length < p + 2) (t : tagB (Q06 l p) = false) : Q2i l k p ts = (⟨l.take 6, (l.drop 6).take 6, ts, Q06 l p, (p : Int) + 2⟩, 0) := by
  unfold Q2i; rw [if_neg h, if_neg (by rw [t]; decide)]
theorem Q5i (h : ¬ l.length < p + 2) (t : tagB (Q06 l p) = true) : Q2i l 0 p ts = (Q4w, 4) := by
  unfold Q2i; rw [if_neg h, if_pos t]
theorem Q6c (h : ¬ l.length < p + 2) (t : tagB (Q06 l p) = true) (h6 : l.length < p + 6) : Q2i l (k + 1) p ts = (Q4w, 2) := by
  unfold Q2i; rw [if_neg h, if_pos t]; simp only []; rw [if_pos h6]
theorem Q4m (h : ¬ l.length < p + 2) (t : tagB (Q06 l p) = true) (h6 : ¬ l.length < p + 6) : Q2i l (k + 1) p ts = Q2i l k (p + 4) (ts ++ [⟨Q06 l p, Q06 l (p + 2)⟩]) := by
  conv => lhs; unfold Q2i
  rw [if_neg h, if_pos t]; simp only []; rw [if_neg h6]
end
theorem Qky {l : List UInt8} : ∀ (k p : Nat) (ts : List TagL), 12 ≤ p → (Q2i l k p ts).2 = 0 →
    Q5y (Q2i l k p ts).1 ∧ (p : Int) + 2 ≤ (Q2i l k p ts).1.at' ∧ (Q2i l k p ts).1.at' ≤ l.length ∧ (Q2i l k p ts).1.tags.length ≤ ts.length + k ∧
      (Q2i l k p ts).1.at' = (p : Int) + 2 + 4 * ((Q2i l k p ts).1.tags.length - ts.length : Nat) ∧ ts.length ≤ (Q2i l k p ts).1.tags.length := by
  intro k
  induction k with
  | zero =>
    intro p ts hp h
    by_cases h1 : l.length < p + 2
    · rw [Q43 h1] at h; simp at h
    · cases h2 : tagB (Q06 l p) with
      | true => rw [Q5i h1 h2] at h; simp at h
      | false => rw [Q3c h1 h2]; refine ⟨⟨by simp; omega, by simp; omega⟩, ?_⟩; simp; omega
  | succ k ih =>
    intro p ts hp h
    by_cases h1 : l.length < p + 2
    · rw [Q43 h1] at h; simp at h
    · cases h2 : tagB (Q06 l p) with
      | true =>
        by_cases h6 : l.length < p + 6
        · rw [Q6c h1 h2 h6] at h; simp at h
        · rw [Q4m h1 h2 h6] at h ⊢
          have := ih _ _ (by omega) h
          simp only [List.length_append, List.length_cons, List.length_nil] at this
          refine ⟨this.1, ?_⟩
          omega
      | false => rw [Q3c h1 h2]; refine ⟨⟨by simp; omega, by simp; omega⟩, ?_⟩; simp; omega
theorem Qih {l : List UInt8} : ∀ (k p : Nat) (ts : List TagL), 12 ≤ p → Q5y (Q2i l k p ts).1 := by
  intro k
  induction k with
  | zero =>
    intro p ts hp
    by_cases h1 : l.length < p + 2
    · rw [Q43 h1]; exact Q4b
    · cases h2 : tagB (Q06 l p) with
      | true => rw [Q5i h1 h2]; exact Q4b
      | false => rw [Q3c h1 h2]; exact ⟨by simp; omega, by simp; omega⟩
  | succ k ih =>
    intro p ts hp
    by_cases h1 : l.length < p + 2
    · rw [Q43 h1]; exact Q4b
    · cases h2 : tagB (Q06 l p) with
      | true =>
        by_cases h6 : l.length < p + 6
        · rw [Q6c h1 h2 h6]; exact Q4b
        · rw [Q4m h1 h2 h6]; exact ih _ _ (by omega)
      | false => rw [Q3c h1 h2]; exact ⟨by simp; omega, by simp; omega⟩
theorem Q85 (l : List UInt8) : Q5y (Q0b l).1 := Qih _ _ _ (by omega)
theorem Q84 {l : List UInt8} (h : (Q0b l).2 = 0) : 14 ≤ (Q0b l).1.at' ∧ (Q0b l).1.at' ≤ l.length ∧ (Q0b l).1.tags.length ≤ 2 ∧ (Q0b l).1.at' = 14 + 4 * ((Q0b l).1.tags.length : Int) := by
  unfold Q0b at h ⊢
  have := Qky (l := l) 2 12 [] (by omega) h
  simp only [List.length_nil] at this
  omega
/-! ## Laying -/
def inW (n : Int) : Bool := decide (0 ≤ n) && decide (n ≤ 65535)
def Qbs (x : TagL) : Bool := tagB x.type && inW x.tci
def Q2l (L : LinkL) : Bool := decide (L.tags.length ≤ 2) && inW L.type && !tagB L.type && L.tags.all Qbs
def Q3q (x : TagL) : List UInt8 := put2 x.type ++ put2 x.tci
def Q2x (L : LinkL) : List UInt8 := L.dst ++ L.src ++ L.tags.flatMap Q3q ++ put2 L.type
theorem Qd0 (ts : List TagL) : (ts.flatMap Q3q).length = 4 * ts.length := by
  induction ts with
  | nil => rfl
  | cons x ts ih => rw [List.flatMap_cons, List.length_append, ih]; simp [Q3q, Q0r]; omega
theorem Q87 {L : LinkL} (h : Q5y L) : (Q2x L).length = 14 + 4 * L.tags.length := by
  obtain ⟨h1, h2⟩ := h
  simp only [Q2x, List.length_append, h1, h2, Qd0, Q0r]
  omega
theorem Qkz {n : Int} (h : tagB n = true) : 0 ≤ n ∧ n ≤ 65535 := by
  unfold tagB at h
  simp only [Bool.or_eq_true, beq_iff_eq] at h
  omega
theorem Qc7 {n : Int} (h : inW n = true) : 0 ≤ n ∧ n ≤ 65535 := by
  unfold inW at h; simpa using h
theorem Q78 {L : LinkL} (h : Q2l L = true) : L.tags.length ≤ 2 ∧ (0 ≤ L.type ∧ L.type ≤ 65535) ∧ tagB L.type = false ∧ ∀ x ∈ L.tags, Qbs x = true := by
  unfold Q2l at h
  simp only [Bool.and_eq_true, decide_eq_true_eq, Bool.not_eq_true', List.all_eq_true] at h
  exact ⟨h.1.1.1, Qc7 h.1.1.2, h.1.2, h.2⟩
theorem Qaw {n : Int} {r : List UInt8} (h : 0 ≤ n ∧ n ≤ 65535) : Q06 (put2 n ++ r) 0 = n := by
  have h1 := Q4r n
  have h2 := Q4r (n / 256)
  show 256 * ((b8 (n / 256)).toNat : Int) + ((b8 n).toNat : Int) = n
  omega
theorem Q5h {l : List UInt8} {i j : Nat} : Q06 (l.drop i) j = Q06 l (i + j) := by
  unfold Q06 Q08
  simp [List.getD_eq_getElem?_getD, List.getElem?_drop, Nat.add_assoc]
theorem Qb1 {l q r : List UInt8} {p : Nat} {n : Int} (h : l.drop p = put2 n ++ r) (hn : 0 ≤ n ∧ n ≤ 65535) : Q06 l p = n := by
  have := Q5h (l := l) (i := p) (j := 0)
  rw [Nat.add_zero, h, Qaw hn] at this
  exact this.symm
theorem Qb2 {l r : List UInt8} {n : Int} : ∀ (us ts : List TagL) (k p : Nat), (∀ x ∈ us, Qbs x = true) → 0 ≤ n ∧ n ≤ 65535 → tagB n = false → us.length ≤ k → p ≤ l.length → l.drop p = us.flatMap Q3q ++ (put2 n ++ r) →
    Q2i l k p ts = (⟨l.take 6, (l.drop 6).take 6, ts ++ us, n, (p : Int) + 4 * (us.length : Int) + 2⟩, 0)
  | [], ts, k, p, _, hn, ht, _, hpl, h => by
    have hw := Qb1 (q := []) (by simpa using h) hn
    have hlen : (l.drop p).length = 2 + r.length := by rw [h]; simp [Q0r]
    rw [List.length_drop] at hlen
    rw [Q3c (by omega) (by rw [hw]; exact ht), hw]
    simp
  | x :: us, ts, k + 1, p, hx, hn, ht, hk, hpl, h => by
    have hxo := hx x (by simp)
    have hxo2 := hxo
    unfold Qbs at hxo
    simp only [Bool.and_eq_true] at hxo
    have b1 := Qkz hxo.1
    have b2 := Qc7 hxo.2
    rw [List.flatMap_cons, Q3q, List.append_assoc, List.append_assoc] at h
    have hw := Qb1 (q := []) h b1
    have h2 : l.drop (p + 2) = put2 x.tci ++ (us.flatMap Q3q ++ (put2 n ++ r)) := by
      rw [← List.drop_drop, h]; rfl
    have hw2 := Qb1 (q := []) h2 b2
    have h4 : l.drop (p + 4) = us.flatMap Q3q ++ (put2 n ++ r) := by
      rw [show p + 4 = p + 2 + 2 from rfl, ← List.drop_drop, h2]; rfl
    have hlen : (l.drop (p + 4)).length = 4 * us.length + 2 + r.length := by rw [h4]; simp only [List.length_append, Q0r, Qd0]; omega
    rw [List.length_drop] at hlen
    have hlen2 : 2 ≤ 4 * us.length + 2 + r.length := by omega
    rw [Q4m (by omega) (by rw [hw]; exact hxo.1) (by omega), hw, hw2]
    rw [Qb2 us (ts ++ [(⟨x.type, x.tci⟩ : TagL)]) k (p + 4) (fun y hy => hx y (by simp [hy])) hn ht (by simpa using hk) (by omega) h4]
    simp only [Prod.mk.injEq, and_true, LinkL.mk.injEq, true_and, List.append_assoc, List.cons_append, List.nil_append, List.length_cons]
    omega
  | x :: us, ts, 0, p, _, _, _, hk, _, _ => by simp at hk
theorem Qkn {L : LinkL} {r : List UInt8} (hL : Q5y L) (hr : Q2l L = true) : Q0b (Q2x L ++ r) = ({ L with at' := 14 + 4 * (L.tags.length : Int) }, 0) := by
  obtain ⟨h1, h2⟩ := hL
  obtain ⟨k1, k2, k3, k4⟩ := Q78 hr
  have e0 : Q2x L ++ r = L.dst ++ (L.src ++ (L.tags.flatMap Q3q ++ (put2 L.type ++ r))) := by simp [Q2x]
  have e6 : (Q2x L ++ r).take 6 = L.dst := by rw [e0, List.take_append_of_le_length (by omega), List.take_of_length_le (by omega)]
  have d6 : (Q2x L ++ r).drop 6 = L.src ++ (L.tags.flatMap Q3q ++ (put2 L.type ++ r)) := by
    rw [e0, List.drop_append_of_le_length (by omega), List.drop_of_length_le (by omega), List.nil_append]
  have e66 : ((Q2x L ++ r).drop 6).take 6 = L.src := by rw [d6, List.take_append_of_le_length (by omega), List.take_of_length_le (by omega)]
  have d12 : (Q2x L ++ r).drop 12 = L.tags.flatMap Q3q ++ (put2 L.type ++ r) := by
    rw [show (12 : Nat) = 6 + 6 from rfl, ← List.drop_drop, d6, List.drop_append_of_le_length (by omega), List.drop_of_length_le (by omega), List.nil_append]
  have hlen : (Q2x L ++ r).length = 14 + 4 * L.tags.length + r.length := by rw [List.length_append, Q87 ⟨h1, h2⟩]
  unfold Q0b
  rw [Qb2 L.tags [] 2 12 k4 k2 k3 k1 (by omega) d12, e6, e66]
  simp only [List.nil_append, Prod.mk.injEq, and_true, LinkL.mk.injEq, true_and]
  omega
theorem Q8y {l : List UInt8} {p : Nat} (h : p + 2 ≤ l.length) : put2 (Q06 l p) = (l.drop p).take 2 := by
  have e : (l.drop p).take 2 = [l[p]'(by omega), l[p + 1]'(by omega)] := by
    apply List.ext_getElem
    · simp; omega
    · intro j h1 h2
      simp at h1
      match j, h1 with
      | 0, _ => simp
      | 1, _ => simp
      | j + 2, h => exact absurd h (by omega)
  rw [e]
  unfold Q06 put2
  rw [Q0q (by omega), Q0q (by omega)]
  have h0 := (l[p]'(by omega)).toNat_lt
  have h1 := (l[p + 1]'(by omega)).toNat_lt
  congr 1
  · apply UInt8.toNat_inj.1
    have := Q4r ((256 * ((l[p]'(by omega)).toNat : Int) + ((l[p + 1]'(by omega)).toNat : Int)) / 256)
    omega
  · congr 1
    apply UInt8.toNat_inj.1
    have := Q4r (256 * ((l[p]'(by omega)).toNat : Int) + ((l[p + 1]'(by omega)).toNat : Int))
    omega
theorem Qfs {l : List UInt8} : ∀ (k p : Nat) (ts : List TagL), 12 ≤ p → (∀ x ∈ ts, Qbs x = true) → l.take p = l.take 12 ++ ts.flatMap Q3q → p ≤ l.length → ts.length + k ≤ 2 → (Q2i l k p ts).2 = 0 →
    Q2l (Q2i l k p ts).1 = true ∧ Q2x (Q2i l k p ts).1 = l.take (Q2i l k p ts).1.at'.toNat := by
  have fin : ∀ (k p : Nat) (ts : List TagL), 12 ≤ p → (∀ x ∈ ts, Qbs x = true) → l.take p = l.take 12 ++ ts.flatMap Q3q → ts.length + k ≤ 2 → ¬ l.length < p + 2 → tagB (Q06 l p) = false →
      Q2l (Q2i l k p ts).1 = true ∧ Q2x (Q2i l k p ts).1 = l.take (Q2i l k p ts).1.at'.toNat := by
    intro k p ts hp ht he hk h1 h2
    rw [Q3c h1 h2]
    have hw := Q0z l p
    constructor
    · unfold Q2l inW
      have : ts.all Qbs = true := List.all_eq_true.2 ht
      simp only [Bool.and_eq_true, decide_eq_true_eq, Bool.not_eq_true']
      exact ⟨⟨⟨by omega, hw⟩, h2⟩, this⟩
    · have e1 : ((p : Int) + 2).toNat = p + 2 := by omega
      show l.take 6 ++ (l.drop 6).take 6 ++ ts.flatMap Q3q ++ put2 (Q06 l p) = l.take ((p : Int) + 2).toNat
      rw [e1, Q8y (by omega), ← List.take_add, ← he, ← List.take_add]
  intro k
  induction k with
  | zero =>
    intro p ts hp ht he hpl hk h
    by_cases h1 : l.length < p + 2
    · rw [Q43 h1] at h; simp at h
    · cases h2 : tagB (Q06 l p) with
      | true => rw [Q5i h1 h2] at h; simp at h
      | false => exact fin 0 p ts hp ht he hk h1 h2
  | succ k ih =>
    intro p ts hp ht he hpl hk h
    by_cases h1 : l.length < p + 2
    · rw [Q43 h1] at h; simp at h
    · cases h2 : tagB (Q06 l p) with
      | true =>
        by_cases h6 : l.length < p + 6
        · rw [Q6c h1 h2 h6] at h; simp at h
        · rw [Q4m h1 h2 h6] at h ⊢
          refine ih (p + 4) _ (by omega) ?_ ?_ (by omega) (by simp; omega) h
          · intro x hx
            simp only [List.mem_append, List.mem_cons, List.not_mem_nil, or_false] at hx
            rcases hx with hx | rfl
            · exact ht x hx
            · have := Q0z l (p + 2)
              unfold Qbs inW; simp [h2, this]
          · have e4 : l.take (p + 4) = l.take p ++ Q3q ⟨Q06 l p, Q06 l (p + 2)⟩ := by
              unfold Q3q
              show _ = _ ++ (put2 (Q06 l p) ++ put2 (Q06 l (p + 2)))
              rw [Q8y (by omega), Q8y (by omega), ← List.append_assoc, ← List.take_add, ← List.take_add]
            rw [e4, he]
            simp
      | false => exact fin (k + 1) p ts hp ht he hk h1 h2
theorem Qkm {l : List UInt8} (h : (Q0b l).2 = 0) : Q2l (Q0b l).1 = true ∧ Q2x (Q0b l).1 = l.take (Q0b l).1.at'.toNat := by
  have hb := Q84 h
  exact Qfs 2 12 [] (by omega) (fun x hx => by simp at hx) (by simp) (by omega) (by simp) h

/-! ## Turning -/
/-! ## For the walks -/
def LinkO (B : Nat) (e : TypeId) (L : LinkL) : VP := fun u w => ∃ v, u = LnkA L v ∧ OwnR B e tagR L.tags v w
instance (B : Nat) (e : TypeId) (L : LinkL) : Stb (LinkO B e L) := ⟨fun _ _ _ hx ⟨v, h1, h2⟩ => ⟨v, h1, Stb.st _ _ _ hx h2⟩⟩
theorem LinkO.open {B : Nat} {e : TypeId} {L : LinkL} {u : Value} {w : World} (h : LinkO B e L u w) : ∃ v, Is (LnkA L v) u w ∧ OwnR B e tagR L.tags v w := h
theorem LinkV.open {L : LinkL} {u : Value} {w : World} (h : LinkV L u w) : ∃ v, Is (LnkA L v) u w ∧ Rw tagR L.tags v w ∧ v.oneCell' = true := h
theorem LinkV.of {L : LinkL} {u v : Value} {w : World} (h : Is (LnkA L v) u w) (k : Rw tagR L.tags v w) : LinkV L u w := ⟨v, h, k, Qb0 k⟩
theorem Ql0 {L : LinkL} {v : Value} : Value.agg (((lnkS L v).drop 0).take (5 - 0)).flatten.toArray = LnkA L v := rfl
theorem cpy6 {m : List UInt8} (h : 6 ≤ m.length) : cpy (List.replicate 6 0) 0 6 m = m.take 6 := by
  unfold cpy
  simp only [List.take_zero, List.nil_append, Nat.zero_add, Nat.min_eq_left h]
  rw [List.drop_of_length_le (by simp), List.append_nil]
def p6 (l : List UInt8) (q i : Nat) : List UInt8 := (l.drop q).take i ++ List.replicate (6 - i) 0
theorem Ql1 {l : List UInt8} {q i : Nat} (h : i < 6) (hq : q + 6 ≤ l.length) : (p6 l q i).set i (l[q + i]'(by omega)) = p6 l q (i + 1) := by
  unfold p6
  have e1 : ((l.drop q).take i).length = i := by simp; omega
  rw [List.set_append_right _ _ (by omega), e1, Nat.sub_self]
  have e2 : List.replicate (6 - i) (0 : UInt8) = 0 :: List.replicate (6 - (i + 1)) 0 := by
    rw [show 6 - i = (6 - (i + 1)) + 1 from by omega, List.replicate_succ]
  rw [e2, List.set_cons_zero, List.take_succ_eq_append_getElem (by simp; omega), List.append_assoc]
  simp
theorem Qok (l : List UInt8) (q : Nat) : p6 l q 6 = (l.drop q).take 6 := by simp [p6]
theorem p6_0 (l : List UInt8) (q : Nat) : p6 l q 0 = List.replicate 6 0 := by simp [p6]
theorem Qsr {n p : Nat} {b : Bool} (h : (decide ((n : Int) ≥ (p : Int) + 2) && b) = true) : ¬ n < p + 2 ∧ b = true := by
  simp only [Bool.and_eq_true, decide_eq_true_eq] at h
  exact ⟨by omega, h.2⟩
theorem Qss {n p : Nat} {b : Bool} (h : (decide ((n : Int) ≥ (p : Int) + 2) && b) = false) (h2 : ¬ n < p + 2) : b = false := by
  simp only [Bool.and_eq_false_iff, decide_eq_false_iff_not] at h
  rcases h with h | h
  · omega
  · exact h
theorem Ql2 {l : List TagL} {i : Nat} (hi : i < l.length) : (l.take (i + 1)).flatMap Q3q = (l.take i).flatMap Q3q ++ Q3q l[i] := by
  rw [List.take_succ_eq_append_getElem hi, List.flatMap_append]; simp
theorem Q79 {l : List TagL} (h : l.length ≤ 2) (i : Nat) : ((l.take i).flatMap Q3q).length ≤ 8 := by
  rw [Qd0]; simp; omega
end Go.Proofs.Ytlmdboaghojgiaa

/- The statements of layer 7, in plain Lean. -/
namespace Go.Proofs.Ytlmdboaghojgiaa
set_option linter.unusedVariables false
set_option linter.unusedSimpArgs false
open Go

section
variable {l d s : List UInt8}
end
end Go.Proofs.Ytlmdboaghojgiaa
