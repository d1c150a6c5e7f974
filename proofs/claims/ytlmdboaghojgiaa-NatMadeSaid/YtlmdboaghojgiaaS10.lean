import Derived.Test.YtlmdboaghojgiaaS08
import Derived.Test.YtlmdboaghojgiaaM06
/- Headers of TCP and UDP, in plain Lean. -/
namespace Go.Proofs.Ytlmdboaghojgiaa
set_option linter.unusedVariables false
set_option linter.unusedSimpArgs false

structure PortL where
  sport : Int
  dport : Int
  flags : Int
  head : Int
  total : Int
def Q2q (X : PortL) : List (List Value) := [[.int .i64 X.sport], [.int .i64 X.dport], [.int .i64 X.flags], [.int .i64 X.head], [.int .i64 X.total]]
def Qcd (X : PortL) : Value := .agg (Q2q X).flatten.toArray
def Q2z : PortL := ⟨0, 0, 0, 0, 0⟩
theorem Q1r {X : PortL} : ∀ u ∈ (Q2q X).flatten, u.oneCell' = true := by
  intro u hu
  simp only [Q2q, List.flatten_cons, List.flatten_nil, List.mem_append, List.mem_cons, List.not_mem_nil, or_false] at hu
  rcases hu with h | h | h | h | h <;> subst h <;> rfl
theorem Q2b (X : PortL) : (Q2q X).flatten.length = 5 := rfl
def Q24 (l : List UInt8) : PortL × Int :=
  if l.length < 20 then (Q2z, 2)
  else if Q09 l 12 / 16 * 4 < 20 then (Q2z, 3)
  else if Q09 l 12 / 16 * 4 > (l.length : Int) then (Q2z, 2)
  else (⟨Q07 l 0, Q07 l 2, Q09 l 13 % 64, Q09 l 12 / 16 * 4, (l.length : Int)⟩, 0)
def Q25 (l : List UInt8) : PortL × Int :=
  if l.length < 8 then (Q2z, 2)
  else if Q07 l 4 < 8 then (Q2z, 3)
  else if Q07 l 4 > (l.length : Int) then (Q2z, 2)
  else (⟨Q07 l 0, Q07 l 2, 0, 8, Q07 l 4⟩, 0)
def Q0i (p : Int) (l : List UInt8) : PortL × Int := if p = 6 then Q24 l else if p = 17 then Q25 l else (Q2z, 5)
theorem Q8v (l : List UInt8) : Q0i 6 l = Q24 l := rfl
theorem Q8w (l : List UInt8) : Q0i 17 l = Q25 l := rfl
theorem Q7z {p : Int} {l : List UInt8} (h1 : p ≠ 6) (h2 : p ≠ 17) : Q0i p l = (Q2z, 5) := by unfold Q0i; rw [if_neg h1, if_neg h2]
def Q2f (p : Int) : Int := if p = 6 then 16 else if p = 17 then 6 else 0
theorem Qo7 {m : Int} {n : Nat} (h : decide ((if (n : Int) > m then (n : Int) else m) > (n : Int)) = true) : m > (n : Int) := by
  have h := of_decide_eq_true h
  split at h <;> omega
theorem Qo8 {m : Int} {n : Nat} (h : decide ((if (n : Int) > m then (n : Int) else m) > (n : Int)) = false) : ¬ m > (n : Int) := by
  have h := of_decide_eq_false h
  split at h <;> omega
theorem Qo9 {m : Int} {n : Nat} (h8 : 8 ≤ n) (h : decide ((if m > 8 then m else 8) > (n : Int)) = true) : m > (n : Int) := by
  have h := of_decide_eq_true h
  split at h <;> omega
theorem Qoa {m : Int} {n : Nat} (h : decide ((if m > 8 then m else 8) > (n : Int)) = false) : ¬ m > (n : Int) := by
  have h := of_decide_eq_false h
  split at h <;> omega

/-! ## Checksums -/
theorem Q4i {q : Int} {l : List UInt8} (h : (Q0i q l).2 = 0) : 8 ≤ (Q0i q l).1.total ∧ (Q0i q l).1.total ≤ (l.length : Int) ∧ 8 ≤ l.length ∧ (q = 6 ∧ 20 ≤ l.length ∧ (Q0i q l).1.total = (l.length : Int) ∨ q = 17 ∧ (Q0i q l).1.total = Q07 l 4) := by
  unfold Q0i at h ⊢
  by_cases h6 : q = 6
  · rw [if_pos h6] at h ⊢
    unfold Q24 at h ⊢
    split at h; · simp at h
    split at h; · simp at h
    split at h; · simp at h
    rename_i h1 h2 h3
    rw [if_neg h1, if_neg h2, if_neg h3]
    exact ⟨by show (8 : Int) ≤ (l.length : Int); omega, Int.le_refl _, by omega, .inl ⟨h6, by omega, rfl⟩⟩
  · rw [if_neg h6] at h ⊢
    by_cases h17 : q = 17
    · rw [if_pos h17] at h ⊢
      unfold Q25 at h ⊢
      split at h; · simp at h
      split at h; · simp at h
      split at h; · simp at h
      rename_i h1 h2 h3
      rw [if_neg h1, if_neg h2, if_neg h3]
      exact ⟨by show (8 : Int) ≤ Q07 l 4; omega, by show Q07 l 4 ≤ (l.length : Int); omega, by omega, .inr ⟨h17, rfl⟩⟩
    · rw [if_neg h17] at h; simp at h
def atN (q : Int) : Nat := if q = 6 then 16 else 6
theorem Q6d {q : Int} {l : List UInt8} (h : (Q0i q l).2 = 0) : atN q + 2 ≤ l.length ∧ Q2f q = (atN q : Int) ∧ ((atN q + 2 : Nat) : Int) ≤ (Q0i q l).1.total := by
  obtain ⟨h1, h2, h3, h4⟩ := Q4i h
  unfold atN Q2f
  rcases h4 with ⟨rfl, h5, h6⟩ | ⟨rfl, h6⟩
  · simp; omega
  · simp; omega
theorem Qb1 {q : Int} {l m : List UInt8} (hl : m.length = l.length) (hb : ∀ i, i ≠ atN q → i ≠ atN q + 1 → Q09 m i = Q09 l i) : Q0i q m = Q0i q l := by
  unfold Q0i
  by_cases h6 : q = 6
  · subst h6
    have e : ∀ i, i < 16 → Q09 m i = Q09 l i := fun i hi => hb i (by show i ≠ 16; omega) (by show i ≠ 17; omega)
    show Q24 m = Q24 l
    unfold Q24 Q07
    rw [hl, e 0 (by decide), e 1 (by decide), e 2 (by decide), e 3 (by decide), e 12 (by decide), e 13 (by decide)]
  · by_cases h17 : q = 17
    · subst h17
      have e : ∀ i, i < 6 → Q09 m i = Q09 l i := fun i hi => hb i (by show i ≠ 6; omega) (by show i ≠ 7; omega)
      show Q25 m = Q25 l
      unfold Q25 Q07
      rw [hl, e 0 (by decide), e 1 (by decide), e 2 (by decide), e 3 (by decide), e 4 (by decide), e 5 (by decide)]
    · rw [if_neg h6, if_neg h17, if_neg h6, if_neg h17]
def Q2g (l : List UInt8) (k : Nat) (a : List UInt8) : List UInt8 := l.take k ++ a ++ l.drop (k + 2)
theorem Q5f {l a : List UInt8} {k : Nat} (h : k + 2 ≤ l.length) (ha : a.length = 2) : (Q2g l k a).length = l.length := by
  unfold Q2g; simp [ha]; omega
theorem Q5v {l a : List UInt8} {k i : Nat} (h : k + 2 ≤ l.length) (ha : a.length = 2) (h1 : i ≠ k) (h2 : i ≠ k + 1) : Q09 (Q2g l k a) i = Q09 l i := by
  unfold Q09 Q2g
  congr 2
  simp only [List.getD_eq_getElem?_getD]
  congr 1
  have hk : (l.take k).length = k := by simp; omega
  by_cases hi : i < k
  · rw [List.append_assoc, List.getElem?_append_left (by omega), List.getElem?_take_of_lt hi]
  · rw [List.getElem?_append_right (by simp [ha]; omega), List.getElem?_drop]
    congr 1
    simp [ha]; omega
theorem Qhg {l a b : List UInt8} {k : Nat} (h : k + 2 ≤ l.length) (ha : a.length = 2) (_hb : b.length = 2) : Q2g (Q2g l k a) k b = Q2g l k b := by
  unfold Q2g
  have hk : (l.take k).length = k := by simp; omega
  have e1 : (l.take k ++ a ++ l.drop (k + 2)).take k = l.take k := by rw [List.append_assoc, List.take_append_of_le_length (by omega), List.take_of_length_le (by omega)]
  have e2 : (l.take k ++ a ++ l.drop (k + 2)).drop (k + 2) = l.drop (k + 2) := by
    rw [List.drop_append_of_le_length (by simp [ha]; omega), List.drop_of_length_le (by simp [ha]; omega), List.nil_append]
  rw [e1, e2]
theorem Qad {q : Int} {l a : List UInt8} (h : (Q0i q l).2 = 0) (ha : a.length = 2) : Q0i q (Q2g l (atN q) a) = Q0i q l := by
  have h1 := Q6d h
  exact Qb1 (Q5f h1.1 ha) fun i h2 h3 => Q5v h1.1 ha h2 h3
def pSum (Sa Da : Adr) (q : Int) (l : List UInt8) : Int := ck (Q2n Sa Da q (Q0i q l).1.total ++ l.take (Q0i q l).1.total.toNat)
def pFix (q s : Int) : Int := if s = 0 ∧ q = 17 then 65535 else s
def Q6x (Sa Da : Adr) (q : Int) (l : List UInt8) : List UInt8 := Q2g l (atN q) (put2 (pFix q (pSum Sa Da q (Q2g l (atN q) [0, 0]))))
theorem Qob (Sa Da : Adr) (q : Int) (l : List UInt8) : 0 ≤ pSum Sa Da q l ∧ pSum Sa Da q l ≤ 65535 := Qdq _
theorem Qeu {q s : Int} (h : 0 ≤ s ∧ s ≤ 65535) : 0 ≤ pFix q s ∧ pFix q s ≤ 65535 := by unfold pFix; split <;> omega
theorem Qra {q s : Int} (h : ((s == 0) && (q == 17)) = true) : pFix q s = 65535 := by unfold pFix; rw [if_pos (by simpa using h)]
theorem Qrb {q s : Int} (h : ((s == 0) && (q == 17)) = false) : pFix q s = s := by unfold pFix; rw [if_neg (by simpa using h)]
end Go.Proofs.Ytlmdboaghojgiaa

/- TCP and UDP: what the statements of layer 10 say, in plain Lean. -/
namespace Go.Proofs.Ytlmdboaghojgiaa
set_option linter.unusedVariables false
set_option linter.unusedSimpArgs false

theorem Q90 (A D : Adr) (p n : Int) (hA : A.b.length = 16) (hD : D.b.length = 16) : (Q2n A D p n).length % 2 = 0 := by
  unfold Q2n Qbd
  split <;> simp [hA, hD]
theorem Qls (q : Int) : atN q % 2 = 0 := by unfold atN; split <;> decide
theorem Q4y {Sa Da : Adr} {q : Int} {l : List UInt8} (h : (Q0i q l).2 = 0) : (Q6x Sa Da q l).length = l.length := Q5f (Q6d h).1 rfl
theorem Qj6 {Sa Da : Adr} {q : Int} {l : List UInt8} (h : (Q0i q l).2 = 0) : Q0i q (Q6x Sa Da q l) = Q0i q l := Qad h rfl
theorem Qdw {Sa Da : Adr} {q : Int} {l : List UInt8} {i : Nat} (h : (Q0i q l).2 = 0) (h1 : i ≠ atN q) (h2 : i ≠ atN q + 1) : Q09 (Q6x Sa Da q l) i = Q09 l i := Q5v (Q6d h).1 rfl h1 h2
theorem Qlt {s : Int} (h : 0 ≤ s) : 0 < pFix 17 s := by unfold pFix; split <;> omega
/-! ## The laws' ends -/
end Go.Proofs.Ytlmdboaghojgiaa

/- The ends of PortSpoilt and PortFlags. -/
namespace Go.Proofs.Ytlmdboaghojgiaa
set_option linter.unusedVariables false
set_option linter.unusedSimpArgs false
/-! ## PortFlags -/
end Go.Proofs.Ytlmdboaghojgiaa
