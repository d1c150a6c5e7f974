import Derived.Test.YtlmdboaghojgiaaS08
import Derived.Test.YtlmdboaghojgiaaM06
/- Headers of TCP and UDP, in plain Lean. -/
namespace Go.Proofs.Ytlmdboaghojgiaa
set_option linter.unusedVariables false
set_option linter.unusedSimpArgs false

structure PortL where
  sport : Int
  dport : Int
  flags : Int
  head : Int
  total : Int
def Q2e (X : PortL) : List (List Value) := [[.int .i64 X.sport], [.int .i64 X.dport], [.int .i64 X.flags], [.int .i64 X.head], [.int .i64 X.total]]
def Qba (X : PortL) : Value := .agg (Q2e X).flatten.toArray
def Q2w : PortL := ⟨0, 0, 0, 0, 0⟩
theorem Q1q {X : PortL} : ∀ u ∈ (Q2e X).flatten, u.oneCell' = true := by
  intro u hu
  simp only [Q2e, List.flatten_cons, List.flatten_nil, List.mem_append, List.mem_cons, List.not_mem_nil, or_false] at hu
  rcases hu with h | h | h | h | h <;> subst h <;> rfl
theorem Q28 (X : PortL) : (Q2e X).flatten.length = 5 := rfl
def Q1z (l : List UInt8) : PortL × Int :=
  if l.length < 20 then (Q2w, 2)
  else if Q08 l 12 / 16 * 4 < 20 then (Q2w, 3)
  else if Q08 l 12 / 16 * 4 > (l.length : Int) then (Q2w, 2)
  else (⟨Q0a l 0, Q0a l 2, Q08 l 13 % 64, Q08 l 12 / 16 * 4, (l.length : Int)⟩, 0)
def Q20 (l : List UInt8) : PortL × Int :=
  if l.length < 8 then (Q2w, 2)
  else if Q0a l 4 < 8 then (Q2w, 3)
  else if Q0a l 4 > (l.length : Int) then (Q2w, 2)
  else (⟨Q0a l 0, Q0a l 2, 0, 8, Q0a l 4⟩, 0)
def Q0m (p : Int) (l : List UInt8) : PortL × Int := if p = 6 then Q1z l else if p = 17 then Q20 l else (Q2w, 5)
theorem Q8c (l : List UInt8) : Q0m 6 l = Q1z l := rfl
theorem Q8d (l : List UInt8) : Q0m 17 l = Q20 l := rfl
theorem Q7p {p : Int} {l : List UInt8} (h1 : p ≠ 6) (h2 : p ≠ 17) : Q0m p l = (Q2w, 5) := by unfold Q0m; rw [if_neg h1, if_neg h2]
def Q1u (p : Int) : Int := if p = 6 then 16 else if p = 17 then 6 else 0
theorem Qms {m : Int} {n : Nat} (h : decide ((if (n : Int) > m then (n : Int) else m) > (n : Int)) = true) : m > (n : Int) := by
  have h := of_decide_eq_true h
  split at h <;> omega
theorem Qmt {m : Int} {n : Nat} (h : decide ((if (n : Int) > m then (n : Int) else m) > (n : Int)) = false) : ¬ m > (n : Int) := by
  have h := of_decide_eq_false h
  split at h <;> omega
theorem Qmu {m : Int} {n : Nat} (h8 : 8 ≤ n) (h : decide ((if m > 8 then m else 8) > (n : Int)) = true) : m > (n : Int) := by
  have h := of_decide_eq_true h
  split at h <;> omega
theorem Qmv {m : Int} {n : Nat} (h : decide ((if m > 8 then m else 8) > (n : Int)) = false) : ¬ m > (n : Int) := by
  have h := of_decide_eq_false h
  split at h <;> omega

/-! ## Checksums -/
theorem Q4s {q : Int} {l : List UInt8} (h : (Q0m q l).2 = 0) : 8 ≤ (Q0m q l).1.total ∧ (Q0m q l).1.total ≤ (l.length : Int) ∧ 8 ≤ l.length ∧ (q = 6 ∧ 20 ≤ l.length ∧ (Q0m q l).1.total = (l.length : Int) ∨ q = 17 ∧ (Q0m q l).1.total = Q0a l 4) := by
  unfold Q0m at h ⊢
  by_cases h6 : q = 6
  · rw [if_pos h6] at h ⊢
    unfold Q1z at h ⊢
    split at h; · simp at h
    split at h; · simp at h
    split at h; · simp at h
    rename_i h1 h2 h3
    rw [if_neg h1, if_neg h2, if_neg h3]
    exact ⟨by show (8 : Int) ≤ (l.length : Int); omega, Int.le_refl _, by omega, .inl ⟨h6, by omega, rfl⟩⟩
  · rw [if_neg h6] at h ⊢
    by_cases h17 : q = 17
    · rw [if_pos h17] at h ⊢
      unfold Q20 at h ⊢
      split at h; · simp at h
      split at h; · simp at h
      split at h; · simp at h
      rename_i h1 h2 h3
      rw [if_neg h1, if_neg h2, if_neg h3]
      exact ⟨by show (8 : Int) ≤ Q0a l 4; omega, by show Q0a l 4 ≤ (l.length : Int); omega, by omega, .inr ⟨h17, rfl⟩⟩
    · rw [if_neg h17] at h; simp at h
def atN (q : Int) : Nat := if q = 6 then 16 else 6
theorem Q93 {q : Int} {l : List UInt8} (h : (Q0m q l).2 = 0) : atN q + 2 ≤ l.length ∧ Q1u q = (atN q : Int) ∧ ((atN q + 2 : Nat) : Int) ≤ (Q0m q l).1.total := by
  obtain ⟨h1, h2, h3, h4⟩ := Q4s h
  unfold atN Q1u
  rcases h4 with ⟨rfl, h5, h6⟩ | ⟨rfl, h6⟩
  · simp; omega
  · simp; omega
theorem Qa0 {q : Int} {l m : List UInt8} (hl : m.length = l.length) (hb : ∀ i, i ≠ atN q → i ≠ atN q + 1 → Q08 m i = Q08 l i) : Q0m q m = Q0m q l := by
  unfold Q0m
  by_cases h6 : q = 6
  · subst h6
    have e : ∀ i, i < 16 → Q08 m i = Q08 l i := fun i hi => hb i (by show i ≠ 16; omega) (by show i ≠ 17; omega)
    show Q1z m = Q1z l
    unfold Q1z Q0a
    rw [hl, e 0 (by decide), e 1 (by decide), e 2 (by decide), e 3 (by decide), e 12 (by decide), e 13 (by decide)]
  · by_cases h17 : q = 17
    · subst h17
      have e : ∀ i, i < 6 → Q08 m i = Q08 l i := fun i hi => hb i (by show i ≠ 6; omega) (by show i ≠ 7; omega)
      show Q20 m = Q20 l
      unfold Q20 Q0a
      rw [hl, e 0 (by decide), e 1 (by decide), e 2 (by decide), e 3 (by decide), e 4 (by decide), e 5 (by decide)]
    · rw [if_neg h6, if_neg h17, if_neg h6, if_neg h17]
def Q4v (l : List UInt8) (k : Nat) (a : List UInt8) : List UInt8 := l.take k ++ a ++ l.drop (k + 2)
theorem Q87 {l a : List UInt8} {k : Nat} (h : k + 2 ≤ l.length) (ha : a.length = 2) : (Q4v l k a).length = l.length := by
  unfold Q4v; simp [ha]; omega
theorem Qe4 {l a : List UInt8} {k i : Nat} (h : k + 2 ≤ l.length) (ha : a.length = 2) (h1 : i ≠ k) (h2 : i ≠ k + 1) : Q08 (Q4v l k a) i = Q08 l i := by
  unfold Q08 Q4v
  congr 2
  simp only [List.getD_eq_getElem?_getD]
  congr 1
  have hk : (l.take k).length = k := by simp; omega
  by_cases hi : i < k
  · rw [List.append_assoc, List.getElem?_append_left (by omega), List.getElem?_take_of_lt hi]
  · rw [List.getElem?_append_right (by simp [ha]; omega), List.getElem?_drop]
    congr 1
    simp [ha]; omega
theorem Qgk {l a b : List UInt8} {k : Nat} (h : k + 2 ≤ l.length) (ha : a.length = 2) (_hb : b.length = 2) : Q4v (Q4v l k a) k b = Q4v l k b := by
  unfold Q4v
  have hk : (l.take k).length = k := by simp; omega
  have e1 : (l.take k ++ a ++ l.drop (k + 2)).take k = l.take k := by rw [List.append_assoc, List.take_append_of_le_length (by omega), List.take_of_length_le (by omega)]
  have e2 : (l.take k ++ a ++ l.drop (k + 2)).drop (k + 2) = l.drop (k + 2) := by
    rw [List.drop_append_of_le_length (by simp [ha]; omega), List.drop_of_length_le (by simp [ha]; omega), List.nil_append]
  rw [e1, e2]
theorem Qj8 {q : Int} {l a : List UInt8} (h : (Q0m q l).2 = 0) (ha : a.length = 2) : Q0m q (Q4v l (atN q) a) = Q0m q l := by
  have h1 := Q93 h
  exact Qa0 (Q87 h1.1 ha) fun i h2 h3 => Qe4 h1.1 ha h2 h3
def pSum (Sa Da : Adr) (q : Int) (l : List UInt8) : Int := ck (Q6f Sa Da q (Q0m q l).1.total ++ l.take (Q0m q l).1.total.toNat)
def pFix (q s : Int) : Int := if s = 0 ∧ q = 17 then 65535 else s
def Qij (Sa Da : Adr) (q : Int) (l : List UInt8) : List UInt8 := Q4v l (atN q) (put2 (pFix q (pSum Sa Da q (Q4v l (atN q) [0, 0]))))
theorem Qmw (Sa Da : Adr) (q : Int) (l : List UInt8) : 0 ≤ pSum Sa Da q l ∧ pSum Sa Da q l ≤ 65535 := Qnx _
theorem Qde {q s : Int} (h : 0 ≤ s ∧ s ≤ 65535) : 0 ≤ pFix q s ∧ pFix q s ≤ 65535 := by unfold pFix; split <;> omega
theorem Qp4 {q s : Int} (h : ((s == 0) && (q == 17)) = true) : pFix q s = 65535 := by unfold pFix; rw [if_pos (by simpa using h)]
theorem Qp5 {q s : Int} (h : ((s == 0) && (q == 17)) = false) : pFix q s = s := by unfold pFix; rw [if_neg (by simpa using h)]
end Go.Proofs.Ytlmdboaghojgiaa

/- TCP and UDP: what the statements of layer 10 say, in plain Lean. -/
namespace Go.Proofs.Ytlmdboaghojgiaa
set_option linter.unusedVariables false
set_option linter.unusedSimpArgs false

theorem Q5r {Sa Da : Adr} {q : Int} {l : List UInt8} (h : (Q0m q l).2 = 0) : (Qij Sa Da q l).length = l.length := Q87 (Q93 h).1 rfl
/-! ## The laws' ends -/
end Go.Proofs.Ytlmdboaghojgiaa

/- The ends of PortSpoilt and PortFlags. -/
namespace Go.Proofs.Ytlmdboaghojgiaa
set_option linter.unusedVariables false
set_option linter.unusedSimpArgs false
/-! ## PortFlags -/
end Go.Proofs.Ytlmdboaghojgiaa
