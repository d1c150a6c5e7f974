/- What layer 13's laws need, in plain Lean. -/
import Derived.Test.YtlmdboaghojgiaaS13
namespace Go.Proofs.Ytlmdboaghojgiaa
set_option linter.unusedVariables false
set_option linter.unusedSimpArgs false
open Go

def adrA : Adr := ⟨false, [1, 2, 3, 4, 0, 0, 0, 0, 0, 0, 0, 0, 0, 0, 0, 0]⟩
/-! ## What is wrapped, read -/
theorem Qb8 {l : List UInt8} {i k : Nat} (h : i + 1 < k) : Q06 (l.take k) i = Q06 l i := by
  unfold Q06; rw [Q25 (by omega), Q25 h]
theorem Q91 {l : List UInt8} {i n k : Nat} (h : i + n ≤ k) : ((l.take k).drop i).take n = (l.drop i).take n := by
  rw [List.drop_take, List.take_take]; congr 1; omega
theorem Q33 {l : List UInt8} (h : (Q0n l).2 = 0) : ¬ l.length < 20 ∧ ¬ (Q08 l 0 / 16 ≠ 4 ∨ Q08 l 0 % 16 * 4 < 20) ∧ ¬ Q08 l 0 % 16 * 4 > (l.length : Int) ∧ ¬ Q06 l 2 < Q08 l 0 % 16 * 4 ∧ ¬ Q06 l 2 > (l.length : Int) ∧ ¬ ck (l.take (Q08 l 0 % 16 * 4).toNat) ≠ 0 := by
  unfold Q0n at h
  by_cases h1 : l.length < 20
  · rw [if_pos h1] at h; cases h
  rw [if_neg h1] at h
  by_cases h2 : Q08 l 0 / 16 ≠ 4 ∨ Q08 l 0 % 16 * 4 < 20
  · rw [if_pos h2] at h; cases h
  rw [if_neg h2] at h
  by_cases h3 : Q08 l 0 % 16 * 4 > (l.length : Int)
  · rw [if_pos h3] at h; cases h
  rw [if_neg h3] at h
  by_cases h4 : Q06 l 2 < Q08 l 0 % 16 * 4
  · rw [if_pos h4] at h; cases h
  rw [if_neg h4] at h
  by_cases h5 : Q06 l 2 > (l.length : Int)
  · rw [if_pos h5] at h; cases h
  rw [if_neg h5] at h
  by_cases h6 : ck (l.take (Q08 l 0 % 16 * 4).toNat) ≠ 0
  · rw [if_pos h6] at h; cases h
  exact ⟨h1, h2, h3, h4, h5, h6⟩
theorem Qkl {l : List UInt8} (h : (Q0n l).2 = 0) : Q0n (l.take (Q0n l).1.total.toNat) = Q0n l := by
  obtain ⟨h1, h2, h3, h4, h5, h6⟩ := Q33 h
  have e := Q1w h1 h2 h3 h4 h5 h6
  have ht : (Q0n l).1.total = Q06 l 2 := by rw [e]; rfl
  rw [ht]
  have hw := Q0z l 2
  have hn : 20 ≤ (Q06 l 2).toNat := by omega
  have hlen : (l.take (Q06 l 2).toNat).length = (Q06 l 2).toNat := by rw [List.length_take]; omega
  have b : ∀ i, i < 20 → Q08 (l.take (Q06 l 2).toNat) i = Q08 l i := fun i hi => Q25 (by omega)
  have w : ∀ i, i < 19 → Q06 (l.take (Q06 l 2).toNat) i = Q06 l i := fun i hi => Qb8 (by omega)
  have e2 : Q0n (l.take (Q06 l 2).toNat) = (Q8u (l.take (Q06 l 2).toNat), 0) := by
    refine Q1w (by omega) (by rw [b 0 (by omega)]; exact h2) (by rw [b 0 (by omega), hlen]; omega) (by rw [b 0 (by omega), w 2 (by omega)]; omega) (by rw [w 2 (by omega), hlen]; omega) ?_
    rw [b 0 (by omega), List.take_take, Nat.min_eq_left (by omega)]
    exact h6
  rw [e2, e]
  unfold Q8u adr4
  rw [b 0 (by omega), b 1 (by omega), b 8 (by omega), b 9 (by omega), w 2 (by omega), w 4 (by omega), w 6 (by omega), Q91 (by omega), Q91 (by omega)]
theorem Qmu {l : List UInt8} (h : (Q0m l).2 = 0) : Q0m (l.take (Q0m l).1.total.toNat) = Q0m l := by
  have hw := Q0z l 4
  have hne : ¬ l.length < 40 ∧ ¬ Q08 l 0 / 16 ≠ 6 ∧ ¬ 40 + Q06 l 4 > (l.length : Int) := by
    unfold Q0m at h
    by_cases h1 : l.length < 40
    · rw [if_pos h1] at h; cases h
    rw [if_neg h1] at h
    by_cases h2 : Q08 l 0 / 16 ≠ 6
    · rw [if_pos h2] at h; cases h
    rw [if_neg h2] at h
    by_cases h3 : 40 + Q06 l 4 > (l.length : Int)
    · rw [if_pos h3] at h; cases h
    exact ⟨h1, h2, h3⟩
  obtain ⟨h1, h2, h3⟩ := hne
  have e : Q0m l = Q3j (Q2d l) 8 ((l.take (40 + Q06 l 4).toNat).drop 40) 40 false (Q08 l 6) := by unfold Q0m; rw [if_neg h1, if_neg h2, if_neg h3]
  have ht : (Q0m l).1.total = 40 + Q06 l 4 := by
    rcases Qpd (H := Q2d l) 8 ((l.take (40 + Q06 l 4).toNat).drop 40) 40 false (Q08 l 6) (by omega) (by show (40 : Int) + _ = 40 + Q06 l 4; simp; omega) (Q17 l 6) with k | k
    · rw [e] at h; exact absurd h k.2
    · rw [e]; exact k.2.2.1
  rw [ht]
  have hlen : (l.take (40 + Q06 l 4).toNat).length = (40 + Q06 l 4).toNat := by rw [List.length_take]; omega
  have b : ∀ i, i < 40 → Q08 (l.take (40 + Q06 l 4).toNat) i = Q08 l i := fun i hi => Q25 (by omega)
  have w : Q06 (l.take (40 + Q06 l 4).toNat) 4 = Q06 l 4 := Qb8 (by omega)
  rw [e]
  unfold Q0m
  rw [if_neg (by omega), if_neg (by rw [b 0 (by omega)]; exact h2), if_neg (by rw [w, hlen]; omega), w, b 6 (by omega), List.take_take, Nat.min_self]
  congr 1
  unfold Q2d adr6
  rw [w, b 6 (by omega), b 7 (by omega), Q91 (by omega), Q91 (by omega)]
section
variable {l m : List UInt8} {A D : Adr}
end
end Go.Proofs.Ytlmdboaghojgiaa
