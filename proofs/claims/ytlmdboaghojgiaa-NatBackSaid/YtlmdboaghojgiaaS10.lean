import Derived.Test.YtlmdboaghojgiaaS08
import Derived.Test.YtlmdboaghojgiaaM06
/- Headers of TCP and UDP, in plain Lean. -/
namespace Go.Proofs.Ytlmdboaghojgiaa
set_option linter.unusedVariables false
set_option linter.unusedSimpArgs false

structure PortL where
  sport : Int
  dport : Int
  flags : Int
  head : Int
  total : Int
def Q2s (X : PortL) : List (List Value) := [[.int .i64 X.sport], [.int .i64 X.dport], [.int .i64 X.flags], [.int .i64 X.head], [.int .i64 X.total]]
def Qd5 (X : PortL) : Value := .agg (Q2s X).flatten.toArray
def Q37 : PortL := ⟨0, 0, 0, 0, 0⟩
theorem Q1u {X : PortL} : ∀ u ∈ (Q2s X).flatten, u.oneCell' = true := by
  intro u hu
  simp only [Q2s, List.flatten_cons, List.flatten_nil, List.mem_append, List.mem_cons, List.not_mem_nil, or_false] at hu
  rcases hu with h | h | h | h | h <;> subst h <;> rfl
theorem Q2o (X : PortL) : (Q2s X).flatten.length = 5 := rfl
def Q23 (l : List UInt8) : PortL × Int :=
  if l.length < 20 then (Q37, 2)
  else if Q08 l 12 / 16 * 4 < 20 then (Q37, 3)
  else if Q08 l 12 / 16 * 4 > (l.length : Int) then (Q37, 2)
  else (⟨Q06 l 0, Q06 l 2, Q08 l 13 % 64, Q08 l 12 / 16 * 4, (l.length : Int)⟩, 0)
def Q24 (l : List UInt8) : PortL × Int :=
  if l.length < 8 then (Q37, 2)
  else if Q06 l 4 < 8 then (Q37, 3)
  else if Q06 l 4 > (l.length : Int) then (Q37, 2)
  else (⟨Q06 l 0, Q06 l 2, 0, 8, Q06 l 4⟩, 0)
def Q0g (p : Int) (l : List UInt8) : PortL × Int := if p = 6 then Q23 l else if p = 17 then Q24 l else (Q37, 5)
theorem Q9x (l : List UInt8) : Q0g 6 l = Q23 l := rfl
theorem Q9y (l : List UInt8) : Q0g 17 l = Q24 l := rfl
theorem Q90 {p : Int} {l : List UInt8} (h1 : p ≠ 6) (h2 : p ≠ 17) : Q0g p l = (Q37, 5) := by unfold Q0g; rw [if_neg h1, if_neg h2]
def Q22 (p : Int) : Int := if p = 6 then 16 else if p = 17 then 6 else 0
theorem Qpj {m : Int} {n : Nat} (h : decide ((if (n : Int) > m then (n : Int) else m) > (n : Int)) = true) : m > (n : Int) := by
  have h := of_decide_eq_true h
  split at h <;> omega
theorem Qpk {m : Int} {n : Nat} (h : decide ((if (n : Int) > m then (n : Int) else m) > (n : Int)) = false) : ¬ m > (n : Int) := by
  have h := of_decide_eq_false h
  split at h <;> omega
theorem Qpl {m : Int} {n : Nat} (h8 : 8 ≤ n) (h : decide ((if m > 8 then m else 8) > (n : Int)) = true) : m > (n : Int) := by
  have h := of_decide_eq_true h
  split at h <;> omega
theorem Qpm {m : Int} {n : Nat} (h : decide ((if m > 8 then m else 8) > (n : Int)) = false) : ¬ m > (n : Int) := by
  have h := of_decide_eq_false h
  split at h <;> omega

/-! ## Checksums -/
theorem Q3v {q : Int} {l : List UInt8} (h : (Q0g q l).2 = 0) : 8 ≤ (Q0g q l).1.total ∧ (Q0g q l).1.total ≤ (l.length : Int) ∧ 8 ≤ l.length ∧ (q = 6 ∧ 20 ≤ l.length ∧ (Q0g q l).1.total = (l.length : Int) ∨ q = 17 ∧ (Q0g q l).1.total = Q06 l 4) := by
  unfold Q0g at h ⊢
  by_cases h6 : q = 6
  · rw [if_pos h6] at h ⊢
    unfold Q23 at h ⊢
    split at h; · simp at h
    split at h; · simp at h
    split at h; · simp at h
    rename_i h1 h2 h3
    rw [if_neg h1, if_neg h2, if_neg h3]
    exact ⟨by show (8 : Int) ≤ (l.length : Int); omega, Int.le_refl _, by omega, .inl ⟨h6, by omega, rfl⟩⟩
  · rw [if_neg h6] at h ⊢
    by_cases h17 : q = 17
    · rw [if_pos h17] at h ⊢
      unfold Q24 at h ⊢
      split at h; · simp at h
      split at h; · simp at h
      split at h; · simp at h
      rename_i h1 h2 h3
      rw [if_neg h1, if_neg h2, if_neg h3]
      exact ⟨by show (8 : Int) ≤ Q06 l 4; omega, by show Q06 l 4 ≤ (l.length : Int); omega, by omega, .inr ⟨h17, rfl⟩⟩
    · rw [if_neg h17] at h; simp at h
def atN (q : Int) : Nat := if q = 6 then 16 else 6
theorem Q8s {q : Int} {l : List UInt8} (h : (Q0g q l).2 = 0) : atN q + 2 ≤ l.length ∧ Q22 q = (atN q : Int) ∧ ((atN q + 2 : Nat) : Int) ≤ (Q0g q l).1.total := by
  obtain ⟨h1, h2, h3, h4⟩ := Q3v h
  unfold atN Q22
  rcases h4 with ⟨rfl, h5, h6⟩ | ⟨rfl, h6⟩
  · simp; omega
  · simp; omega
theorem Qbt {q : Int} {l m : List UInt8} (hl : m.length = l.length) (hb : ∀ i, i ≠ atN q → i ≠ atN q + 1 → Q08 m i = Q08 l i) : Q0g q m = Q0g q l := by
  unfold Q0g
  by_cases h6 : q = 6
  · subst h6
    have e : ∀ i, i < 16 → Q08 m i = Q08 l i := fun i hi => hb i (by show i ≠ 16; omega) (by show i ≠ 17; omega)
    show Q23 m = Q23 l
    unfold Q23 Q06
    rw [hl, e 0 (by decide), e 1 (by decide), e 2 (by decide), e 3 (by decide), e 12 (by decide), e 13 (by decide)]
  · by_cases h17 : q = 17
    · subst h17
      have e : ∀ i, i < 6 → Q08 m i = Q08 l i := fun i hi => hb i (by show i ≠ 6; omega) (by show i ≠ 7; omega)
      show Q24 m = Q24 l
      unfold Q24 Q06
      rw [hl, e 0 (by decide), e 1 (by decide), e 2 (by decide), e 3 (by decide), e 4 (by decide), e 5 (by decide)]
    · rw [if_neg h6, if_neg h17, if_neg h6, if_neg h17]
def Q5k (l : List UInt8) (k : Nat) (a : List UInt8) : List UInt8 := l.take k ++ a ++ l.drop (k + 2)
theorem Q9p {l a : List UInt8} {k : Nat} (h : k + 2 ≤ l.length) (ha : a.length = 2) : (Q5k l k a).length = l.length := by
  unfold Q5k; simp [ha]; omega
theorem Qfz {l a : List UInt8} {k i : Nat} (h : k + 2 ≤ l.length) (ha : a.length = 2) (h1 : i ≠ k) (h2 : i ≠ k + 1) : Q08 (Q5k l k a) i = Q08 l i := by
  unfold Q08 Q5k
  congr 2
  simp only [List.getD_eq_getElem?_getD]
  congr 1
  have hk : (l.take k).length = k := by simp; omega
  by_cases hi : i < k
  · rw [List.append_assoc, List.getElem?_append_left (by omega), List.getElem?_take_of_lt hi]
  · rw [List.getElem?_append_right (by simp [ha]; omega), List.getElem?_drop]
    congr 1
    simp [ha]; omega
theorem Qin {l a b : List UInt8} {k : Nat} (h : k + 2 ≤ l.length) (ha : a.length = 2) (_hb : b.length = 2) : Q5k (Q5k l k a) k b = Q5k l k b := by
  unfold Q5k
  have hk : (l.take k).length = k := by simp; omega
  have e1 : (l.take k ++ a ++ l.drop (k + 2)).take k = l.take k := by rw [List.append_assoc, List.take_append_of_le_length (by omega), List.take_of_length_le (by omega)]
  have e2 : (l.take k ++ a ++ l.drop (k + 2)).drop (k + 2) = l.drop (k + 2) := by
    rw [List.drop_append_of_le_length (by simp [ha]; omega), List.drop_of_length_le (by simp [ha]; omega), List.nil_append]
  rw [e1, e2]
theorem Qlk {q : Int} {l a : List UInt8} (h : (Q0g q l).2 = 0) (ha : a.length = 2) : Q0g q (Q5k l (atN q) a) = Q0g q l := by
  have h1 := Q8s h
  exact Qbt (Q9p h1.1 ha) fun i h2 h3 => Qfz h1.1 ha h2 h3
def pSum (Sa Da : Adr) (q : Int) (l : List UInt8) : Int := ck (Q34 Sa Da q (Q0g q l).1.total ++ l.take (Q0g q l).1.total.toNat)
def Qa2 (Sa Da : Adr) (q : Int) (l : List UInt8) : Bool := if q = 17 ∧ Q06 l 6 = 0 then !Sa.six else pSum Sa Da q l == 0
def pFix (q s : Int) : Int := if s = 0 ∧ q = 17 then 65535 else s
def Qkt (Sa Da : Adr) (q : Int) (l : List UInt8) : List UInt8 := Q5k l (atN q) (put2 (pFix q (pSum Sa Da q (Q5k l (atN q) [0, 0]))))
theorem Qpn (Sa Da : Adr) (q : Int) (l : List UInt8) : 0 ≤ pSum Sa Da q l ∧ pSum Sa Da q l ≤ 65535 := Qqv _
theorem Qar {q s : Int} (h : 0 ≤ s ∧ s ≤ 65535) : 0 ≤ pFix q s ∧ pFix q s ≤ 65535 := by unfold pFix; split <;> omega
theorem Qpo {q : Int} {l m : List UInt8} (e : Q06 m 6 = Q06 l 6) (h : ((q == 17) && (Q06 m (Int.toNat 6) == 0)) = true) : q = 17 ∧ Q06 l 6 = 0 := by
  rw [show Int.toNat 6 = 6 from rfl, e] at h
  simpa using h
theorem Qpp {q : Int} {l m : List UInt8} (e : Q06 m 6 = Q06 l 6) (h : ((q == 17) && (Q06 m (Int.toNat 6) == 0)) = false) : ¬ (q = 17 ∧ Q06 l 6 = 0) := by
  rw [show Int.toNat 6 = 6 from rfl, e] at h
  simpa using h
theorem Qs0 {q s : Int} (h : ((s == 0) && (q == 17)) = true) : pFix q s = 65535 := by unfold pFix; rw [if_pos (by simpa using h)]
theorem Qs1 {q s : Int} (h : ((s == 0) && (q == 17)) = false) : pFix q s = s := by unfold pFix; rw [if_neg (by simpa using h)]
end Go.Proofs.Ytlmdboaghojgiaa

/- TCP and UDP: what the statements of layer 10 say, in plain Lean. -/
namespace Go.Proofs.Ytlmdboaghojgiaa
set_option linter.unusedVariables false
set_option linter.unusedSimpArgs false

theorem Qa3 (A D : Adr) (p n : Int) (hA : A.b.length = 16) (hD : D.b.length = 16) : (Q34 A D p n).length % 2 = 0 := by
  unfold Q34 Qce
  split <;> simp [hA, hD]
theorem Qn9 (q : Int) : atN q % 2 = 0 := by unfold atN; split <;> decide
theorem Q6q {Sa Da : Adr} {q : Int} {l : List UInt8} (h : (Q0g q l).2 = 0) : (Qkt Sa Da q l).length = l.length := Q9p (Q8s h).1 rfl
theorem Qd6 {s : Int} (h : 0 ≤ s) : 0 < pFix 17 s := by unfold pFix; split <;> omega
/-! ## The laws' ends -/
end Go.Proofs.Ytlmdboaghojgiaa

/- The ends of PortSpoilt and PortFlags. -/
namespace Go.Proofs.Ytlmdboaghojgiaa
set_option linter.unusedVariables false
set_option linter.unusedSimpArgs false
/-! ## PortFlags -/
end Go.Proofs.Ytlmdboaghojgiaa
