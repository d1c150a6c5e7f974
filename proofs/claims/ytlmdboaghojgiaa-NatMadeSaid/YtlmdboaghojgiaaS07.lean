import Derived.Test.YtlmdboaghojgiaaJ
import Derived.Test.YtlmdboaghojgiaaS08
/- Headers of Ethernet, in plain Lean. -/
namespace Go.Proofs.Ytlmdboaghojgiaa
set_option linter.unusedVariables false
set_option linter.unusedSimpArgs false
open Go

structure TagL where
  type : Int
  tci : Int
def tagC (x : TagL) : List Value := [.int .i64 x.type, .int .i64 x.tci]
def tagR : RT TagL := ⟨tagC, 2, fun _ => rfl, by decide, fun x u hu => by simp [tagC] at hu; rcases hu with rfl | rfl <;> rfl⟩
structure LinkL where
  dst : List UInt8
  src : List UInt8
  tags : List TagL
  type : Int
  at' : Int
def Q4q : LinkL := ⟨List.replicate 6 0, List.replicate 6 0, [], 0, 0⟩
def Q2i (L : LinkL) : Prop := L.dst.length = 6 ∧ L.src.length = 6
theorem Q50 : Q2i Q4q := ⟨rfl, rfl⟩
def lnkS (L : LinkL) (v : Value) : List (List Value) := [L.dst.map Q0t, L.src.map Q0t, [v], [.int .i64 L.type], [.int .i64 L.at']]
def LnkA (L : LinkL) (v : Value) : Value := .agg (lnkS L v).flatten.toArray
def LinkV (L : LinkL) : VP := fun u w => ∃ v, u = LnkA L v ∧ Rw tagR L.tags v w ∧ v.oneCell' = true
instance (L : LinkL) : Stb (LinkV L) := ⟨fun _ _ _ hx ⟨v, h1, h2, h3⟩ => ⟨v, h1, Stb.st _ _ _ hx h2, h3⟩⟩
theorem Q4l {L : LinkL} {v : Value} (h : Q2i L) : (lnkS L v).map List.length = [6, 6, 1, 1, 1] := by
  obtain ⟨h1, h2⟩ := h
  simp [lnkS, h1, h2]
theorem Q6e {L : LinkL} {v : Value} (hv : v.oneCell' = true) : ∀ u ∈ (lnkS L v).flatten, u.oneCell' = true := by
  intro u hu
  simp only [lnkS, List.flatten_cons, List.flatten_nil, List.mem_append, List.mem_cons, List.mem_map, List.not_mem_nil, or_false] at hu
  rcases hu with ⟨c, _, h⟩ | ⟨c, _, h⟩ | h | h | h <;> subst h <;> first | rfl | exact hv
theorem Q8i {L : LinkL} {v : Value} (h : Q2i L) : (lnkS L v).flatten.length = 15 := by
  obtain ⟨h1, h2⟩ := h
  simp [lnkS, h1, h2]
theorem Qg8 {α : Type} {R : RT α} {l : List α} {v : Value} {w : World} (h : Rw R l v w) : v.oneCell' = true := by
  rcases h with ⟨rfl, _⟩ | ⟨p, cap, rfl, _⟩ <;> rfl
/-! ## Reading -/
def tagB (n : Int) : Bool := n == 33024 || n == 34984
def Q29 (l : List UInt8) : Nat → Nat → List TagL → LinkL × Int
  | k, at9, ts =>
    if l.length < at9 + 2 then (Q4q, 2)
    else if tagB (Q07 l at9) = true then match k with
      | 0 => (Q4q, 4)
      | k + 1 => if l.length < at9 + 6 then (Q4q, 2) else Q29 l k (at9 + 4) (ts ++ [⟨Q07 l at9, Q07 l (at9 + 2)⟩])
    else (⟨l.take 6, (l.drop 6).take 6, ts, Q07 l at9, (at9 : Int) + 2⟩, 0)
def Q0c (l : List UInt8) : LinkL × Int := Q29 l 2 12 []
section
variable {l : List UInt8} {k p : Nat} {ts : List TagL}
theorem Q3z (h : l.length < p + 2) : Q29 l k p ts = (Q4q, 2) := by unfold Q29; rw [if_pos h]
theorem Q3j (h : ¬ l.length < p + 2) (t : tagB (Q07 l p) = false) : Q29 l k p ts = (⟨l.take 6, (l.drop 6).take 6, ts, Q07 l p, (p : Int) + 2⟩, 0) := by
  unfold Q29; rw [if_neg h, if_neg (by rw [t]; decide)]
theorem Q5s (h : ¬ l.length < p + 2) (t : tagB (Q07 l p) = true) : Q29 l 0 p ts = (Q4q, 4) := by
  unfold Q29; rw [if_neg h, if_pos t]
theorem Q6t (h : ¬ l.length < p + 2) (t : tagB (Q07 l p) = true) (h6 : l.length < p + 6) : Q29 l (k + 1) p ts = (Q4q, 2) := by
  unfold Q29; rw [if_neg h, if_pos t]; simp only []; rw [if_pos h6]
theorem Q4m (h : ¬ l.length < p + 2) (t : tagB (Q07 l p) = true) (h6 : ¬ l.length < p + 6) : Q29 l (k + 1) p ts = Q29 l k (p + 4) (ts ++ [⟨Q07 l p, Q07 l (p + 2)⟩]) := by
  conv => lhs; unfold Q29
  rw [if_neg h, if_pos t]; simp only []; rw [if_neg h6]
end
theorem Qj8 {l : List UInt8} : ∀ (k p : Nat) (ts : List TagL), 12 ≤ p → (Q29 l k p ts).2 = 0 →
    Q2i (Q29 l k p ts).1 ∧ (p : Int) + 2 ≤ (Q29 l k p ts).1.at' ∧ (Q29 l k p ts).1.at' ≤ l.length ∧ (Q29 l k p ts).1.tags.length ≤ ts.length + k ∧
      (Q29 l k p ts).1.at' = (p : Int) + 2 + 4 * ((Q29 l k p ts).1.tags.length - ts.length : Nat) ∧ ts.length ≤ (Q29 l k p ts).1.tags.length := by
  intro k
  induction k with
  | zero =>
    intro p ts hp h
    by_cases h1 : l.length < p + 2
    · rw [Q3z h1] at h; simp at h
    · cases h2 : tagB (Q07 l p) with
      | true => rw [Q5s h1 h2] at h; simp at h
      | false => rw [Q3j h1 h2]; refine ⟨⟨by simp; omega, by simp; omega⟩, ?_⟩; simp; omega
  | succ k ih =>
    intro p ts hp h
    by_cases h1 : l.length < p + 2
    · rw [Q3z h1] at h; simp at h
    · cases h2 : tagB (Q07 l p) with
      | true =>
        by_cases h6 : l.length < p + 6
        · rw [Q6t h1 h2 h6] at h; simp at h
        · rw [Q4m h1 h2 h6] at h ⊢
          have := ih _ _ (by omega) h
          simp only [List.length_append, List.length_cons, List.length_nil] at this
          refine ⟨this.1, ?_⟩
          omega
      | false => rw [Q3j h1 h2]; refine ⟨⟨by simp; omega, by simp; omega⟩, ?_⟩; simp; omega
theorem Qha {l : List UInt8} : ∀ (k p : Nat) (ts : List TagL), 12 ≤ p → Q2i (Q29 l k p ts).1 := by
  intro k
  induction k with
  | zero =>
    intro p ts hp
    by_cases h1 : l.length < p + 2
    · rw [Q3z h1]; exact Q50
    · cases h2 : tagB (Q07 l p) with
      | true => rw [Q5s h1 h2]; exact Q50
      | false => rw [Q3j h1 h2]; exact ⟨by simp; omega, by simp; omega⟩
  | succ k ih =>
    intro p ts hp
    by_cases h1 : l.length < p + 2
    · rw [Q3z h1]; exact Q50
    · cases h2 : tagB (Q07 l p) with
      | true =>
        by_cases h6 : l.length < p + 6
        · rw [Q6t h1 h2 h6]; exact Q50
        · rw [Q4m h1 h2 h6]; exact ih _ _ (by omega)
      | false => rw [Q3j h1 h2]; exact ⟨by simp; omega, by simp; omega⟩
theorem Q9x (l : List UInt8) : Q2i (Q0c l).1 := Qha _ _ _ (by omega)
theorem Q76 {l : List UInt8} (h : (Q0c l).2 = 0) : 14 ≤ (Q0c l).1.at' ∧ (Q0c l).1.at' ≤ l.length ∧ (Q0c l).1.tags.length ≤ 2 ∧ (Q0c l).1.at' = 14 + 4 * ((Q0c l).1.tags.length : Int) := by
  unfold Q0c at h ⊢
  have := Qj8 (l := l) 2 12 [] (by omega) h
  simp only [List.length_nil] at this
  omega
/-! ## Laying -/
def inW (n : Int) : Bool := decide (0 ≤ n) && decide (n ≤ 65535)
def Q57 (x : TagL) : Bool := tagB x.type && inW x.tci
def Q17 (L : LinkL) : Bool := decide (L.tags.length ≤ 2) && inW L.type && !tagB L.type && L.tags.all Q57
def Q3a (x : TagL) : List UInt8 := put2 x.type ++ put2 x.tci
def Q23 (L : LinkL) : List UInt8 := L.dst ++ L.src ++ L.tags.flatMap Q3a ++ put2 L.type
theorem Qc6 (ts : List TagL) : (ts.flatMap Q3a).length = 4 * ts.length := by
  induction ts with
  | nil => rfl
  | cons x ts ih => rw [List.flatMap_cons, List.length_append, ih]; simp [Q3a, Q0d]; omega
theorem Q4j {L : LinkL} (h : Q2i L) : (Q23 L).length = 14 + 4 * L.tags.length := by
  obtain ⟨h1, h2⟩ := h
  simp only [Q23, List.length_append, h1, h2, Qc6, Q0d]
  omega
theorem Qj9 {n : Int} (h : tagB n = true) : 0 ≤ n ∧ n ≤ 65535 := by
  unfold tagB at h
  simp only [Bool.or_eq_true, beq_iff_eq] at h
  omega
theorem Q9u {n : Int} (h : inW n = true) : 0 ≤ n ∧ n ≤ 65535 := by
  unfold inW at h; simpa using h
theorem Q6f {L : LinkL} (h : Q17 L = true) : L.tags.length ≤ 2 ∧ (0 ≤ L.type ∧ L.type ≤ 65535) ∧ tagB L.type = false ∧ ∀ x ∈ L.tags, Q57 x = true := by
  unfold Q17 at h
  simp only [Bool.and_eq_true, decide_eq_true_eq, Bool.not_eq_true', List.all_eq_true] at h
  exact ⟨h.1.1.1, Q9u h.1.1.2, h.1.2, h.2⟩
theorem Qa2 {n : Int} {r : List UInt8} (h : 0 ≤ n ∧ n ≤ 65535) : Q07 (put2 n ++ r) 0 = n := by
  have h1 := Q1n n
  have h2 := Q1n (n / 256)
  show 256 * ((b8 (n / 256)).toNat : Int) + ((b8 n).toNat : Int) = n
  omega
theorem Q3i {l : List UInt8} {i j : Nat} : Q07 (l.drop i) j = Q07 l (i + j) := by
  unfold Q07 Q09
  simp [List.getD_eq_getElem?_getD, List.getElem?_drop, Nat.add_assoc]
theorem Qa4 {l q r : List UInt8} {p : Nat} {n : Int} (h : l.drop p = put2 n ++ r) (hn : 0 ≤ n ∧ n ≤ 65535) : Q07 l p = n := by
  have := Q3i (l := l) (i := p) (j := 0)
  rw [Nat.add_zero, h, Qa2 hn] at this
  exact this.symm
theorem Qa5 {l r : List UInt8} {n : Int} : ∀ (us ts : List TagL) (k p : Nat), (∀ x ∈ us, Q57 x = true) → 0 ≤ n ∧ n ≤ 65535 → tagB n = false → us.length ≤ k → p ≤ l.length → l.drop p = us.flatMap Q3a ++ (put2 n ++ r) →
    Q29 l k p ts = (⟨l.take 6, (l.drop 6).take 6, ts ++ us, n, (p : Int) + 4 * (us.length : Int) + 2⟩, 0)
  | [], ts, k, p, _, hn, ht, _, hpl, h => by
    have hw := Qa4 (q := []) (by simpa using h) hn
    have hlen : (l.drop p).length = 2 + r.length := by rw [h]; simp [Q0d]
    rw [List.length_drop] at hlen
    rw [Q3j (by omega) (by rw [hw]; exact ht), hw]
    simp
  | x :: us, ts, k + 1, p, hx, hn, ht, hk, hpl, h => by
    have hxo := hx x (by simp)
    have hxo2 := hxo
    unfold Q57 at hxo
    simp only [Bool.and_eq_true] at hxo
    have b1 := Qj9 hxo.1
    have b2 := Q9u hxo.2
    rw [List.flatMap_cons, Q3a, List.append_assoc, List.append_assoc] at h
    have hw := Qa4 (q := []) h b1
    have h2 : l.drop (p + 2) = put2 x.tci ++ (us.flatMap Q3a ++ (put2 n ++ r)) := by
      rw [← List.drop_drop, h]; rfl
    have hw2 := Qa4 (q := []) h2 b2
    have h4 : l.drop (p + 4) = us.flatMap Q3a ++ (put2 n ++ r) := by
      rw [show p + 4 = p + 2 + 2 from rfl, ← List.drop_drop, h2]; rfl
    have hlen : (l.drop (p + 4)).length = 4 * us.length + 2 + r.length := by rw [h4]; simp only [List.length_append, Q0d, Qc6]; omega
    rw [List.length_drop] at hlen
    have hlen2 : 2 ≤ 4 * us.length + 2 + r.length := by omega
    rw [Q4m (by omega) (by rw [hw]; exact hxo.1) (by omega), hw, hw2]
    rw [Qa5 us (ts ++ [(⟨x.type, x.tci⟩ : TagL)]) k (p + 4) (fun y hy => hx y (by simp [hy])) hn ht (by simpa using hk) (by omega) h4]
    simp only [Prod.mk.injEq, and_true, LinkL.mk.injEq, true_and, List.append_assoc, List.cons_append, List.nil_append, List.length_cons]
    omega
  | x :: us, ts, 0, p, _, _, _, hk, _, _ => by simp at hk
theorem Qdj {L : LinkL} {r : List UInt8} (hL : Q2i L) (hr : Q17 L = true) : Q0c (Q23 L ++ r) = ({ L with at' := 14 + 4 * (L.tags.length : Int) }, 0) := by
  obtain ⟨h1, h2⟩ := hL
  obtain ⟨k1, k2, k3, k4⟩ := Q6f hr
  have e0 : Q23 L ++ r = L.dst ++ (L.src ++ (L.tags.flatMap Q3a ++ (put2 L.type ++ r))) := by simp [Q23]
  have e6 : (Q23 L ++ r).take 6 = L.dst := by rw [e0, List.take_append_of_le_length (by omega), List.take_of_length_le (by omega)]
  have d6 : (Q23 L ++ r).drop 6 = L.src ++ (L.tags.flatMap Q3a ++ (put2 L.type ++ r)) := by
    rw [e0, List.drop_append_of_le_length (by omega), List.drop_of_length_le (by omega), List.nil_append]
  have e66 : ((Q23 L ++ r).drop 6).take 6 = L.src := by rw [d6, List.take_append_of_le_length (by omega), List.take_of_length_le (by omega)]
  have d12 : (Q23 L ++ r).drop 12 = L.tags.flatMap Q3a ++ (put2 L.type ++ r) := by
    rw [show (12 : Nat) = 6 + 6 from rfl, ← List.drop_drop, d6, List.drop_append_of_le_length (by omega), List.drop_of_length_le (by omega), List.nil_append]
  have hlen : (Q23 L ++ r).length = 14 + 4 * L.tags.length + r.length := by rw [List.length_append, Q4j ⟨h1, h2⟩]
  unfold Q0c
  rw [Qa5 L.tags [] 2 12 k4 k2 k3 k1 (by omega) d12, e6, e66]
  simp only [List.nil_append, Prod.mk.injEq, and_true, LinkL.mk.injEq, true_and]
  omega
theorem Qa6 {l : List UInt8} {p : Nat} (h : p + 2 ≤ l.length) : put2 (Q07 l p) = (l.drop p).take 2 := by
  have e : (l.drop p).take 2 = [l[p]'(by omega), l[p + 1]'(by omega)] := by
    apply List.ext_getElem
    · simp; omega
    · intro j h1 h2
      simp at h1
      match j, h1 with
      | 0, _ => simp
      | 1, _ => simp
      | j + 2, h => exact absurd h (by omega)
  rw [e]
  unfold Q07 put2
  rw [Q10 (by omega), Q10 (by omega)]
  have h0 := (l[p]'(by omega)).toNat_lt
  have h1 := (l[p + 1]'(by omega)).toNat_lt
  congr 1
  · apply UInt8.toNat_inj.1
    have := Q1n ((256 * ((l[p]'(by omega)).toNat : Int) + ((l[p + 1]'(by omega)).toNat : Int)) / 256)
    omega
  · congr 1
    apply UInt8.toNat_inj.1
    have := Q1n (256 * ((l[p]'(by omega)).toNat : Int) + ((l[p + 1]'(by omega)).toNat : Int))
    omega
theorem Qep {l : List UInt8} : ∀ (k p : Nat) (ts : List TagL), 12 ≤ p → (∀ x ∈ ts, Q57 x = true) → l.take p = l.take 12 ++ ts.flatMap Q3a → p ≤ l.length → ts.length + k ≤ 2 → (Q29 l k p ts).2 = 0 →
    Q17 (Q29 l k p ts).1 = true ∧ Q23 (Q29 l k p ts).1 = l.take (Q29 l k p ts).1.at'.toNat := by
  have fin : ∀ (k p : Nat) (ts : List TagL), 12 ≤ p → (∀ x ∈ ts, Q57 x = true) → l.take p = l.take 12 ++ ts.flatMap Q3a → ts.length + k ≤ 2 → ¬ l.length < p + 2 → tagB (Q07 l p) = false →
      Q17 (Q29 l k p ts).1 = true ∧ Q23 (Q29 l k p ts).1 = l.take (Q29 l k p ts).1.at'.toNat := by
    intro k p ts hp ht he hk h1 h2
    rw [Q3j h1 h2]
    have hw := Q0w l p
    constructor
    · unfold Q17 inW
      have : ts.all Q57 = true := List.all_eq_true.2 ht
      simp only [Bool.and_eq_true, decide_eq_true_eq, Bool.not_eq_true']
      exact ⟨⟨⟨by omega, hw⟩, h2⟩, this⟩
    · have e1 : ((p : Int) + 2).toNat = p + 2 := by omega
      show l.take 6 ++ (l.drop 6).take 6 ++ ts.flatMap Q3a ++ put2 (Q07 l p) = l.take ((p : Int) + 2).toNat
      rw [e1, Qa6 (by omega), ← List.take_add, ← he, ← List.take_add]
  intro k
  induction k with
  | zero =>
    intro p ts hp ht he hpl hk h
    by_cases h1 : l.length < p + 2
    · rw [Q3z h1] at h; simp at h
    · cases h2 : tagB (Q07 l p) with
      | true => rw [Q5s h1 h2] at h; simp at h
      | false => exact fin 0 p ts hp ht he hk h1 h2
  | succ k ih =>
    intro p ts hp ht he hpl hk h
    by_cases h1 : l.length < p + 2
    · rw [Q3z h1] at h; simp at h
    · cases h2 : tagB (Q07 l p) with
      | true =>
        by_cases h6 : l.length < p + 6
        · rw [Q6t h1 h2 h6] at h; simp at h
        · rw [Q4m h1 h2 h6] at h ⊢
          refine ih (p + 4) _ (by omega) ?_ ?_ (by omega) (by simp; omega) h
          · intro x hx
            simp only [List.mem_append, List.mem_cons, List.not_mem_nil, or_false] at hx
            rcases hx with hx | rfl
            · exact ht x hx
            · have := Q0w l (p + 2)
              unfold Q57 inW; simp [h2, this]
          · have e4 : l.take (p + 4) = l.take p ++ Q3a ⟨Q07 l p, Q07 l (p + 2)⟩ := by
              unfold Q3a
              show _ = _ ++ (put2 (Q07 l p) ++ put2 (Q07 l (p + 2)))
              rw [Qa6 (by omega), Qa6 (by omega), ← List.append_assoc, ← List.take_add, ← List.take_add]
            rw [e4, he]
            simp
      | false => exact fin (k + 1) p ts hp ht he hk h1 h2
theorem Qj1 {l : List UInt8} (h : (Q0c l).2 = 0) : Q17 (Q0c l).1 = true ∧ Q23 (Q0c l).1 = l.take (Q0c l).1.at'.toNat := by
  have hb := Q76 h
  exact Qep 2 12 [] (by omega) (fun x hx => by simp at hx) (by simp) (by omega) (by simp) h

/-! ## Turning -/
/-! ## For the walks -/
def LinkO (B : Nat) (e : TypeId) (L : LinkL) : VP := fun u w => ∃ v, u = LnkA L v ∧ OwnR B e tagR L.tags v w
instance (B : Nat) (e : TypeId) (L : LinkL) : Stb (LinkO B e L) := ⟨fun _ _ _ hx ⟨v, h1, h2⟩ => ⟨v, h1, Stb.st _ _ _ hx h2⟩⟩
theorem LinkO.open {B : Nat} {e : TypeId} {L : LinkL} {u : Value} {w : World} (h : LinkO B e L u w) : ∃ v, Is (LnkA L v) u w ∧ OwnR B e tagR L.tags v w := h
theorem LinkV.open {L : LinkL} {u : Value} {w : World} (h : LinkV L u w) : ∃ v, Is (LnkA L v) u w ∧ Rw tagR L.tags v w ∧ v.oneCell' = true := h
theorem LinkV.of {L : LinkL} {u v : Value} {w : World} (h : Is (LnkA L v) u w) (k : Rw tagR L.tags v w) : LinkV L u w := ⟨v, h, k, Qg8 k⟩
theorem Qnz {L : LinkL} {v : Value} : Value.agg (((lnkS L v).drop 0).take (5 - 0)).flatten.toArray = LnkA L v := rfl
theorem cpy6 {m : List UInt8} (h : 6 ≤ m.length) : cpy (List.replicate 6 0) 0 6 m = m.take 6 := by
  unfold cpy
  simp only [List.take_zero, List.nil_append, Nat.zero_add, Nat.min_eq_left h]
  rw [List.drop_of_length_le (by simp), List.append_nil]
def p6 (l : List UInt8) (q i : Nat) : List UInt8 := (l.drop q).take i ++ List.replicate (6 - i) 0
theorem Qr0 (L : LinkL) : ((decide ((L.tags.length : Int) > 2) || !inW L.type) || tagB L.type) = !(decide (L.tags.length ≤ 2) && inW L.type && !tagB L.type) := by
  have e1 : decide ((L.tags.length : Int) > 2) = !decide (L.tags.length ≤ 2) := by rw [Bool.eq_iff_iff]; simp; omega
  rw [e1]
  cases decide (L.tags.length ≤ 2) <;> cases inW L.type <;> cases tagB L.type <;> rfl
theorem Qdl {L : LinkL} (h : ((decide ((L.tags.length : Int) > 2) || !inW L.type) || tagB L.type) = true) : Q17 L = false := by
  rw [Qr0] at h
  unfold Q17
  rw [Bool.not_eq_true'] at h
  rw [h, Bool.false_and]
theorem Qay {L : LinkL} (h : ((decide ((L.tags.length : Int) > 2) || !inW L.type) || tagB L.type) = false) : Q17 L = L.tags.all Q57 ∧ L.tags.length ≤ 2 ∧ (0 ≤ L.type ∧ L.type ≤ 65535) := by
  rw [Qr0] at h
  rw [Bool.not_eq_false'] at h
  unfold Q17
  refine ⟨by rw [h, Bool.true_and], ?_⟩
  simp only [Bool.and_eq_true, decide_eq_true_eq] at h
  exact ⟨h.1.1, Q9u h.1.2⟩
theorem Qja (n : Int) : (decide (n < 0) || decide (n > 65535)) = !inW n := by
  unfold inW; rw [Bool.eq_iff_iff]; simp <;> omega
theorem Qn4 (L : LinkL) : (((decide ((L.tags.length : Int) > 2) || decide (L.type < 0)) || decide (L.type > 65535)) || tagB L.type) = ((decide ((L.tags.length : Int) > 2) || !inW L.type) || tagB L.type) := by
  rw [← Qja, Bool.or_assoc (decide _) (decide (L.type < 0))]
theorem Qr1 (x : TagL) : ((!tagB x.type || decide (x.tci < 0)) || decide (x.tci > 65535)) = !Q57 x := by
  rw [Bool.or_assoc, Qja]; unfold Q57
  cases tagB x.type <;> cases inW x.tci <;> rfl
theorem Qjb {l : List TagL} {i : Nat} (hi : i < l.length) (h : Q57 l[i] = false) : l.all Q57 = false := by
  rw [List.all_eq_false]; exact ⟨l[i], List.getElem_mem hi, by simp [h]⟩
theorem Qle {l : List TagL} {i : Nat} (hi : i < l.length) (h : (l.take i).all Q57 = true) (k : Q57 l[i] = true) : (l.take (i + 1)).all Q57 = true := by
  rw [List.take_succ_eq_append_getElem hi, List.all_append, h]; simp [k]
theorem Qjc {l : List TagL} {i : Nat} (hi : i < l.length) : (l.take (i + 1)).flatMap Q3a = (l.take i).flatMap Q3a ++ Q3a l[i] := by
  rw [List.take_succ_eq_append_getElem hi, List.flatMap_append]; simp
theorem Q6g {l : List TagL} (h : l.length ≤ 2) (i : Nat) : ((l.take i).flatMap Q3a).length ≤ 8 := by
  rw [Qc6]; simp; omega
end Go.Proofs.Ytlmdboaghojgiaa

/- The statements of layer 7, in plain Lean. -/
namespace Go.Proofs.Ytlmdboaghojgiaa
set_option linter.unusedVariables false
set_option linter.unusedSimpArgs false
open Go

section
variable {l d s : List UInt8}
end
end Go.Proofs.Ytlmdboaghojgiaa
