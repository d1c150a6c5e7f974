/- IP in IP, in plain Lean. -/
import Derived.Test.YtpjpfmnnefgnbaaS11
namespace Go.Proofs.Ytpjpfmnnefgnbaa
set_option linter.unusedVariables false
set_option linter.unusedSimpArgs false
open Go

structure NetL where
  head : Int
  total : Int
  proto : Int
  frag : Bool
  ok : Bool
def net0 : NetL := ⟨0, 0, 0, false, false⟩
def netRead (kind : Int) (l : List UInt8) : NetL :=
  if kind = 2048 then ⟨(fourRead l).1.head, (fourRead l).1.total, (fourRead l).1.proto, (fourRead l).1.frag, (fourRead l).2 == 0⟩
  else if kind = 34525 then ⟨(sixRead l).1.head, (sixRead l).1.total, (sixRead l).1.proto, (sixRead l).1.frag, (sixRead l).2 == 0⟩
  else net0
theorem four_bd (l : List UInt8) : (fourRead l).1 = four0 ∨ (20 ≤ (fourRead l).1.head ∧ (fourRead l).1.head ≤ (fourRead l).1.total ∧ (fourRead l).1.total ≤ (l.length : Int) ∧ (fourRead l).2 = 0) := by
  unfold fourRead
  split; · exact .inl rfl
  split; · exact .inl rfl
  split; · exact .inl rfl
  split; · exact .inl rfl
  split; · exact .inl rfl
  split; · exact .inl rfl
  right
  refine ⟨?_, ?_, ?_, rfl⟩
  · show 20 ≤ byteAt l 0 % 16 * 4; omega
  · show byteAt l 0 % 16 * 4 ≤ wordAt l 2; omega
  · show wordAt l 2 ≤ _; omega
theorem go_bd {H : SixL} : ∀ (k : Nat) (R : List UInt8) (h : Int) (f : Bool) (p : Int), 40 ≤ h → h + (R.length : Int) = H.total → 0 ≤ p ∧ p ≤ 255 →
    (sixGo H k R h f p).1 = six0 ∧ (sixGo H k R h f p).2 ≠ 0 ∨ (40 ≤ (sixGo H k R h f p).1.head ∧ (sixGo H k R h f p).1.head ≤ (sixGo H k R h f p).1.total ∧ (sixGo H k R h f p).1.total = H.total ∧ (sixGo H k R h f p).2 = 0) := by
  intro k
  induction k with
  | zero =>
    intro R h f p h40 ht hp
    by_cases c : (f || !extB p) = true
    · rw [sixGo_done c]; right; refine ⟨h40, ?_, rfl, rfl⟩; show h ≤ H.total; omega
    · rw [sixGo_long (by simpa using c)]; left; exact ⟨rfl, by decide⟩
  | succ k ih =>
    intro R h f p h40 ht hp
    by_cases c : (f || !extB p) = true
    · rw [sixGo_done c]; right; refine ⟨h40, ?_, rfl, rfl⟩; show h ≤ H.total; omega
    · have c' : (f || !extB p) = false := by simpa using c
      by_cases e : (R.length : Int) < 8 ∨ (R.length : Int) < sizeE p (byteAt R 1)
      · rw [sixGo_end c' e]; left; exact ⟨rfl, by decide⟩
      · rw [sixGo_step c' e]
        have hge := sizeE_ge (six_ext c') (byteAt_bd R 1).1
        refine ih _ _ _ _ (by omega) ?_ (byteAt_bd R 0)
        rw [List.length_drop]; omega
theorem six_bd (l : List UInt8) : (sixRead l).1 = six0 ∧ (sixRead l).2 ≠ 0 ∨ (40 ≤ (sixRead l).1.head ∧ (sixRead l).1.head ≤ (sixRead l).1.total ∧ (sixRead l).1.total ≤ (l.length : Int) ∧ (sixRead l).2 = 0) := by
  have hw := wordAt_bd l 4
  unfold sixRead
  split; · exact .inl ⟨rfl, by decide⟩
  split; · exact .inl ⟨rfl, by decide⟩
  split; · exact .inl ⟨rfl, by decide⟩
  rename_i h1 h2 h3
  rcases go_bd (H := sixHead l) 8 ((l.take (40 + wordAt l 4).toNat).drop 40) 40 false (byteAt l 6) (by omega) (by show (40 : Int) + _ = 40 + wordAt l 4; simp; omega) (byteAt_bd l 6) with h | h
  · exact .inl h
  · right
    refine ⟨h.1, h.2.1, ?_, h.2.2.2⟩
    rw [h.2.2.1]
    show 40 + wordAt l 4 ≤ _
    omega
theorem net_bd (kind : Int) (l : List UInt8) : netRead kind l = net0 ∨ (20 ≤ (netRead kind l).head ∧ (netRead kind l).head ≤ (netRead kind l).total ∧ (netRead kind l).total ≤ (l.length : Int) ∧ (netRead kind l).ok = true) := by
  unfold netRead
  split
  · rcases four_bd l with h | h
    · by_cases h0 : (fourRead l).2 = 0
      · exfalso
        unfold fourRead at h0 h
        repeat' (split at h0; · simp at h0)
        rw [if_neg (by assumption), if_neg (by assumption), if_neg (by assumption), if_neg (by assumption), if_neg (by assumption), if_neg (by assumption)] at h
        have := congrArg FourL.head h
        have h9 : byteAt l 0 % 16 * 4 = 0 := this
        omega
      · left; rw [h]; show (⟨0, 0, 0, false, (fourRead l).2 == 0⟩ : NetL) = net0
        rw [show ((fourRead l).2 == 0) = false from by simpa using h0]; rfl
    · right; exact ⟨h.1, h.2.1, h.2.2.1, by simp [h.2.2.2]⟩
  · split
    · rcases six_bd l with h | h
      · left; rw [h.1]; show (⟨0, 0, 0, false, (sixRead l).2 == 0⟩ : NetL) = net0
        rw [show ((sixRead l).2 == 0) = false from by simpa using h.2]; rfl
      · right; exact ⟨by show 20 ≤ (sixRead l).1.head; omega, h.2.1, h.2.2.1, by simp [h.2.2.2]⟩
    · exact .inl rfl
/-! ## Wrapping, unwrapping -/
section
variable {l : List UInt8} {A D : Adr}
end
end Go.Proofs.Ytpjpfmnnefgnbaa
