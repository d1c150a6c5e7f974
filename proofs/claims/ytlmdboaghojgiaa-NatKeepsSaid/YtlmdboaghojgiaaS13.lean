/- IP in IP, in plain Lean. -/
import Derived.Test.YtlmdboaghojgiaaS11
namespace Go.Proofs.Ytlmdboaghojgiaa
set_option linter.unusedVariables false
set_option linter.unusedSimpArgs false
open Go

structure NetL where
  head : Int
  total : Int
  proto : Int
  frag : Bool
  ok : Bool
def net0 : NetL := ⟨0, 0, 0, false, false⟩
def Q57 (kind : Int) (l : List UInt8) : NetL :=
  if kind = 2048 then ⟨(Q0n l).1.head, (Q0n l).1.total, (Q0n l).1.proto, (Q0n l).1.frag, (Q0n l).2 == 0⟩
  else if kind = 34525 then ⟨(Q12 l).1.head, (Q12 l).1.total, (Q12 l).1.proto, (Q12 l).1.frag, (Q12 l).2 == 0⟩
  else net0
theorem Qmk (l : List UInt8) : (Q0n l).1 = Q44 ∨ (20 ≤ (Q0n l).1.head ∧ (Q0n l).1.head ≤ (Q0n l).1.total ∧ (Q0n l).1.total ≤ (l.length : Int) ∧ (Q0n l).2 = 0) := by
  unfold Q0n
  split; · exact .inl rfl
  split; · exact .inl rfl
  split; · exact .inl rfl
  split; · exact .inl rfl
  split; · exact .inl rfl
  split; · exact .inl rfl
  right
  refine ⟨?_, ?_, ?_, rfl⟩
  · show 20 ≤ Q08 l 0 % 16 * 4; omega
  · show Q08 l 0 % 16 * 4 ≤ Q0a l 2; omega
  · show Q0a l 2 ≤ _; omega
theorem Qpl {H : SixL} : ∀ (k : Nat) (R : List UInt8) (h : Int) (f : Bool) (p : Int), 40 ≤ h → h + (R.length : Int) = H.total → 0 ≤ p ∧ p ≤ 255 →
    (Q47 H k R h f p).1 = six0 ∧ (Q47 H k R h f p).2 ≠ 0 ∨ (40 ≤ (Q47 H k R h f p).1.head ∧ (Q47 H k R h f p).1.head ≤ (Q47 H k R h f p).1.total ∧ (Q47 H k R h f p).1.total = H.total ∧ (Q47 H k R h f p).2 = 0) := by
  intro k
  induction k with
  | zero =>
    intro R h f p h40 ht hp
    by_cases c : (f || !extB p) = true
    · rw [Q3j c]; right; refine ⟨h40, ?_, rfl, rfl⟩; show h ≤ H.total; omega
    · rw [Q5c (by simpa using c)]; left; exact ⟨rfl, by decide⟩
  | succ k ih =>
    intro R h f p h40 ht hp
    by_cases c : (f || !extB p) = true
    · rw [Q3j c]; right; refine ⟨h40, ?_, rfl, rfl⟩; show h ≤ H.total; omega
    · have c' : (f || !extB p) = false := by simpa using c
      by_cases e : (R.length : Int) < 8 ∨ (R.length : Int) < Q2c p (Q08 R 1)
      · rw [Q5d c' e]; left; exact ⟨rfl, by decide⟩
      · rw [Q5e c' e]
        have hge := Qb4 (Qdr c') (Q17 R 1).1
        refine ih _ _ _ _ (by omega) ?_ (Q17 R 0)
        rw [List.length_drop]; omega
theorem Qif (l : List UInt8) : (Q12 l).1 = six0 ∧ (Q12 l).2 ≠ 0 ∨ (40 ≤ (Q12 l).1.head ∧ (Q12 l).1.head ≤ (Q12 l).1.total ∧ (Q12 l).1.total ≤ (l.length : Int) ∧ (Q12 l).2 = 0) := by
  have hw := Q1a l 4
  unfold Q12
  split; · exact .inl ⟨rfl, by decide⟩
  split; · exact .inl ⟨rfl, by decide⟩
  split; · exact .inl ⟨rfl, by decide⟩
  rename_i h1 h2 h3
  rcases Qpl (H := Q5o l) 8 ((l.take (40 + Q0a l 4).toNat).drop 40) 40 false (Q08 l 6) (by omega) (by show (40 : Int) + _ = 40 + Q0a l 4; simp; omega) (Q17 l 6) with h | h
  · exact .inl h
  · right
    refine ⟨h.1, h.2.1, ?_, h.2.2.2⟩
    rw [h.2.2.1]
    show 40 + Q0a l 4 ≤ _
    omega
theorem Qot (kind : Int) (l : List UInt8) : Q57 kind l = net0 ∨ (20 ≤ (Q57 kind l).head ∧ (Q57 kind l).head ≤ (Q57 kind l).total ∧ (Q57 kind l).total ≤ (l.length : Int) ∧ (Q57 kind l).ok = true) := by
  unfold Q57
  split
  · rcases Qmk l with h | h
    · by_cases h0 : (Q0n l).2 = 0
      · exfalso
        unfold Q0n at h0 h
        repeat' (split at h0; · simp at h0)
        rw [if_neg (by assumption), if_neg (by assumption), if_neg (by assumption), if_neg (by assumption), if_neg (by assumption), if_neg (by assumption)] at h
        have := congrArg FourL.head h
        have h9 : Q08 l 0 % 16 * 4 = 0 := this
        omega
      · left; rw [h]; show (⟨0, 0, 0, false, (Q0n l).2 == 0⟩ : NetL) = net0
        rw [show ((Q0n l).2 == 0) = false from by simpa using h0]; rfl
    · right; exact ⟨h.1, h.2.1, h.2.2.1, by simp [h.2.2.2]⟩
  · split
    · rcases Qif l with h | h
      · left; rw [h.1]; show (⟨0, 0, 0, false, (Q12 l).2 == 0⟩ : NetL) = net0
        rw [show ((Q12 l).2 == 0) = false from by simpa using h.2]; rfl
      · right; exact ⟨by show 20 ≤ (Q12 l).1.head; omega, h.2.1, h.2.2.1, by simp [h.2.2.2]⟩
    · exact .inl rfl
/-! ## Wrapping, unwrapping -/
section
variable {l : List UInt8} {A D : Adr}
end
end Go.Proofs.Ytlmdboaghojgiaa
