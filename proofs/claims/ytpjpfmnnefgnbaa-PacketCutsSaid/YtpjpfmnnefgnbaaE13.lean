/- What layer 13's laws need, in plain Lean. -/
import Derived.Test.YtpjpfmnnefgnbaaS13
namespace Go.Proofs.Ytpjpfmnnefgnbaa
set_option linter.unusedVariables false
set_option linter.unusedSimpArgs false
open Go

def adrA : Adr := ⟨false, [1, 2, 3, 4, 0, 0, 0, 0, 0, 0, 0, 0, 0, 0, 0, 0]⟩
/-! ## What is wrapped, read -/
theorem wordAt_take {l : List UInt8} {i k : Nat} (h : i + 1 < k) : wordAt (l.take k) i = wordAt l i := by
  unfold wordAt; rw [byteAt_take (by omega), byteAt_take h]
theorem part_take {l : List UInt8} {i n k : Nat} (h : i + n ≤ k) : ((l.take k).drop i).take n = (l.drop i).take n := by
  rw [List.drop_take, List.take_take]; congr 1; omega
theorem fourRead_conds {l : List UInt8} (h : (fourRead l).2 = 0) : ¬ l.length < 20 ∧ ¬ (byteAt l 0 / 16 ≠ 4 ∨ byteAt l 0 % 16 * 4 < 20) ∧ ¬ byteAt l 0 % 16 * 4 > (l.length : Int) ∧ ¬ wordAt l 2 < byteAt l 0 % 16 * 4 ∧ ¬ wordAt l 2 > (l.length : Int) ∧ ¬ ck (l.take (byteAt l 0 % 16 * 4).toNat) ≠ 0 := by
  unfold fourRead at h
  by_cases h1 : l.length < 20
  · rw [if_pos h1] at h; cases h
  rw [if_neg h1] at h
  by_cases h2 : byteAt l 0 / 16 ≠ 4 ∨ byteAt l 0 % 16 * 4 < 20
  · rw [if_pos h2] at h; cases h
  rw [if_neg h2] at h
  by_cases h3 : byteAt l 0 % 16 * 4 > (l.length : Int)
  · rw [if_pos h3] at h; cases h
  rw [if_neg h3] at h
  by_cases h4 : wordAt l 2 < byteAt l 0 % 16 * 4
  · rw [if_pos h4] at h; cases h
  rw [if_neg h4] at h
  by_cases h5 : wordAt l 2 > (l.length : Int)
  · rw [if_pos h5] at h; cases h
  rw [if_neg h5] at h
  by_cases h6 : ck (l.take (byteAt l 0 % 16 * 4).toNat) ≠ 0
  · rw [if_pos h6] at h; cases h
  exact ⟨h1, h2, h3, h4, h5, h6⟩
theorem four_take {l : List UInt8} (h : (fourRead l).2 = 0) : fourRead (l.take (fourRead l).1.total.toNat) = fourRead l := by
  obtain ⟨h1, h2, h3, h4, h5, h6⟩ := fourRead_conds h
  have e := fourRead_last h1 h2 h3 h4 h5 h6
  have ht : (fourRead l).1.total = wordAt l 2 := by rw [e]; rfl
  rw [ht]
  have hw := wordAt_bd l 2
  have hn : 20 ≤ (wordAt l 2).toNat := by omega
  have hlen : (l.take (wordAt l 2).toNat).length = (wordAt l 2).toNat := by rw [List.length_take]; omega
  have b : ∀ i, i < 20 → byteAt (l.take (wordAt l 2).toNat) i = byteAt l i := fun i hi => byteAt_take (by omega)
  have w : ∀ i, i < 19 → wordAt (l.take (wordAt l 2).toNat) i = wordAt l i := fun i hi => wordAt_take (by omega)
  have e2 : fourRead (l.take (wordAt l 2).toNat) = (fourIs (l.take (wordAt l 2).toNat), 0) := by
    refine fourRead_last (by omega) (by rw [b 0 (by omega)]; exact h2) (by rw [b 0 (by omega), hlen]; omega) (by rw [b 0 (by omega), w 2 (by omega)]; omega) (by rw [w 2 (by omega), hlen]; omega) ?_
    rw [b 0 (by omega), List.take_take, Nat.min_eq_left (by omega)]
    exact h6
  rw [e2, e]
  unfold fourIs adr4
  rw [b 0 (by omega), b 1 (by omega), b 8 (by omega), b 9 (by omega), w 2 (by omega), w 4 (by omega), w 6 (by omega), part_take (by omega), part_take (by omega)]
theorem six_take {l : List UInt8} (h : (sixRead l).2 = 0) : sixRead (l.take (sixRead l).1.total.toNat) = sixRead l := by
  have hw := wordAt_bd l 4
  have hne : ¬ l.length < 40 ∧ ¬ byteAt l 0 / 16 ≠ 6 ∧ ¬ 40 + wordAt l 4 > (l.length : Int) := by
    unfold sixRead at h
    by_cases h1 : l.length < 40
    · rw [if_pos h1] at h; cases h
    rw [if_neg h1] at h
    by_cases h2 : byteAt l 0 / 16 ≠ 6
    · rw [if_pos h2] at h; cases h
    rw [if_neg h2] at h
    by_cases h3 : 40 + wordAt l 4 > (l.length : Int)
    · rw [if_pos h3] at h; cases h
    exact ⟨h1, h2, h3⟩
  obtain ⟨h1, h2, h3⟩ := hne
  have e : sixRead l = sixGo (sixHead l) 8 ((l.take (40 + wordAt l 4).toNat).drop 40) 40 false (byteAt l 6) := by unfold sixRead; rw [if_neg h1, if_neg h2, if_neg h3]
  have ht : (sixRead l).1.total = 40 + wordAt l 4 := by
    rcases go_bd (H := sixHead l) 8 ((l.take (40 + wordAt l 4).toNat).drop 40) 40 false (byteAt l 6) (by omega) (by show (40 : Int) + _ = 40 + wordAt l 4; simp; omega) (byteAt_bd l 6) with k | k
    · rw [e] at h; exact absurd h k.2
    · rw [e]; exact k.2.2.1
  rw [ht]
  have hlen : (l.take (40 + wordAt l 4).toNat).length = (40 + wordAt l 4).toNat := by rw [List.length_take]; omega
  have b : ∀ i, i < 40 → byteAt (l.take (40 + wordAt l 4).toNat) i = byteAt l i := fun i hi => byteAt_take (by omega)
  have w : wordAt (l.take (40 + wordAt l 4).toNat) 4 = wordAt l 4 := wordAt_take (by omega)
  rw [e]
  unfold sixRead
  rw [if_neg (by omega), if_neg (by rw [b 0 (by omega)]; exact h2), if_neg (by rw [w, hlen]; omega), w, b 6 (by omega), List.take_take, Nat.min_self]
  congr 1
  unfold sixHead adr6
  rw [w, b 6 (by omega), b 7 (by omega), part_take (by omega), part_take (by omega)]
section
variable {l m : List UInt8} {A D : Adr}
end
end Go.Proofs.Ytpjpfmnnefgnbaa
