/- IP in IP, in plain Lean. -/
import Derived.Test.YtlmdboaghojgiaaS11
namespace Go.Proofs.Ytlmdboaghojgiaa
set_option linter.unusedVariables false
set_option linter.unusedSimpArgs false
open Go

structure NetL where
  head : Int
  total : Int
  proto : Int
  frag : Bool
  ok : Bool
def net0 : NetL := ⟨0, 0, 0, false, false⟩
def Q56 (kind : Int) (l : List UInt8) : NetL :=
  if kind = 2048 then ⟨(Q0q l).1.head, (Q0q l).1.total, (Q0q l).1.proto, (Q0q l).1.frag, (Q0q l).2 == 0⟩
  else if kind = 34525 then ⟨(Q0j l).1.head, (Q0j l).1.total, (Q0j l).1.proto, (Q0j l).1.frag, (Q0j l).2 == 0⟩
  else net0
theorem Qny (l : List UInt8) : (Q0q l).1 = Q63 ∨ (20 ≤ (Q0q l).1.head ∧ (Q0q l).1.head ≤ (Q0q l).1.total ∧ (Q0q l).1.total ≤ (l.length : Int) ∧ (Q0q l).2 = 0) := by
  unfold Q0q
  split; · exact .inl rfl
  split; · exact .inl rfl
  split; · exact .inl rfl
  split; · exact .inl rfl
  split; · exact .inl rfl
  split; · exact .inl rfl
  right
  refine ⟨?_, ?_, ?_, rfl⟩
  · show 20 ≤ Q09 l 0 % 16 * 4; omega
  · show Q09 l 0 % 16 * 4 ≤ Q07 l 2; omega
  · show Q07 l 2 ≤ _; omega
theorem Qqz {H : SixL} : ∀ (k : Nat) (R : List UInt8) (h : Int) (f : Bool) (p : Int), 40 ≤ h → h + (R.length : Int) = H.total → 0 ≤ p ∧ p ≤ 255 →
    (Q32 H k R h f p).1 = six0 ∧ (Q32 H k R h f p).2 ≠ 0 ∨ (40 ≤ (Q32 H k R h f p).1.head ∧ (Q32 H k R h f p).1.head ≤ (Q32 H k R h f p).1.total ∧ (Q32 H k R h f p).1.total = H.total ∧ (Q32 H k R h f p).2 = 0) := by
  intro k
  induction k with
  | zero =>
    intro R h f p h40 ht hp
    by_cases c : (f || !extB p) = true
    · rw [Q22 c]; right; refine ⟨h40, ?_, rfl, rfl⟩; show h ≤ H.total; omega
    · rw [Q4b (by simpa using c)]; left; exact ⟨rfl, by decide⟩
  | succ k ih =>
    intro R h f p h40 ht hp
    by_cases c : (f || !extB p) = true
    · rw [Q22 c]; right; refine ⟨h40, ?_, rfl, rfl⟩; show h ≤ H.total; omega
    · have c' : (f || !extB p) = false := by simpa using c
      by_cases e : (R.length : Int) < 8 ∨ (R.length : Int) < Q38 p (Q09 R 1)
      · rw [Q5c c' e]; left; exact ⟨rfl, by decide⟩
      · rw [Q3y c' e]
        have hge := Q9c (Qc3 c') (Q1q R 1).1
        refine ih _ _ _ _ (by omega) ?_ (Q1q R 0)
        rw [List.length_drop]; omega
theorem Qj0 (l : List UInt8) : (Q0j l).1 = six0 ∧ (Q0j l).2 ≠ 0 ∨ (40 ≤ (Q0j l).1.head ∧ (Q0j l).1.head ≤ (Q0j l).1.total ∧ (Q0j l).1.total ≤ (l.length : Int) ∧ (Q0j l).2 = 0) := by
  have hw := Q0w l 4
  unfold Q0j
  split; · exact .inl ⟨rfl, by decide⟩
  split; · exact .inl ⟨rfl, by decide⟩
  split; · exact .inl ⟨rfl, by decide⟩
  rename_i h1 h2 h3
  rcases Qqz (H := Q2l l) 8 ((l.take (40 + Q07 l 4).toNat).drop 40) 40 false (Q09 l 6) (by omega) (by show (40 : Int) + _ = 40 + Q07 l 4; simp; omega) (Q1q l 6) with h | h
  · exact .inl h
  · right
    refine ⟨h.1, h.2.1, ?_, h.2.2.2⟩
    rw [h.2.2.1]
    show 40 + Q07 l 4 ≤ _
    omega
theorem Qqy (kind : Int) (l : List UInt8) : Q56 kind l = net0 ∨ (20 ≤ (Q56 kind l).head ∧ (Q56 kind l).head ≤ (Q56 kind l).total ∧ (Q56 kind l).total ≤ (l.length : Int) ∧ (Q56 kind l).ok = true) := by
  unfold Q56
  split
  · rcases Qny l with h | h
    · by_cases h0 : (Q0q l).2 = 0
      · exfalso
        unfold Q0q at h0 h
        repeat' (split at h0; · simp at h0)
        rw [if_neg (by assumption), if_neg (by assumption), if_neg (by assumption), if_neg (by assumption), if_neg (by assumption), if_neg (by assumption)] at h
        have := congrArg FourL.head h
        have h9 : Q09 l 0 % 16 * 4 = 0 := this
        omega
      · left; rw [h]; show (⟨0, 0, 0, false, (Q0q l).2 == 0⟩ : NetL) = net0
        rw [show ((Q0q l).2 == 0) = false from by simpa using h0]; rfl
    · right; exact ⟨h.1, h.2.1, h.2.2.1, by simp [h.2.2.2]⟩
  · split
    · rcases Qj0 l with h | h
      · left; rw [h.1]; show (⟨0, 0, 0, false, (Q0j l).2 == 0⟩ : NetL) = net0
        rw [show ((Q0j l).2 == 0) = false from by simpa using h.2]; rfl
      · right; exact ⟨by show 20 ≤ (Q0j l).1.head; omega, h.2.1, h.2.2.1, by simp [h.2.2.2]⟩
    · exact .inl rfl
/-! ## Wrapping, unwrapping -/
section
variable {l : List UInt8} {A D : Adr}
end
end Go.Proofs.Ytlmdboaghojgiaa
