/- What layer 11's laws need, in plain Lean: frames cut off, frames with bytes behind, frames that are made. -/
import Derived.Test.YtlmdboaghojgiaaT11
import Derived.Test.YtlmdboaghojgiaaE13
namespace Go.Proofs.Ytlmdboaghojgiaa
set_option linter.unusedVariables false
set_option linter.unusedSimpArgs false
open Go

/-! ## Bytes behind, bytes cut off -/
theorem Qie {l : List UInt8} (h : (Q12 l).2 = 0) : ¬ l.length < 40 ∧ ¬ Q08 l 0 / 16 ≠ 6 ∧ ¬ 40 + Q0a l 4 > (l.length : Int) := by
  unfold Q12 at h
  by_cases h1 : l.length < 40
  · rw [if_pos h1] at h; cases h
  rw [if_neg h1] at h
  by_cases h2 : Q08 l 0 / 16 ≠ 6
  · rw [if_pos h2] at h; cases h
  rw [if_neg h2] at h
  by_cases h3 : 40 + Q0a l 4 > (l.length : Int)
  · rw [if_pos h3] at h; cases h
  exact ⟨h1, h2, h3⟩
/-! ## Fine frames -/
structure FineP (l : List UInt8) : Prop where
  lk : (Q0f l).2 = 0
  ty : (Q0f l).1.type = 2048 ∨ (Q0f l).1.type = 34525
  nt : (pkN l).2 = 0
  fr : (pkN l).1.frag = false
  ca : Q4f (pkN l).1.proto = true
  po : (Q0m (pkN l).1.proto (pkP l)).2 = 0
def Qor (l : List UInt8) : TupL := ⟨(pkN l).1.src, (pkN l).1.dst, (pkN l).1.proto, (Q0m (pkN l).1.proto (pkP l)).1.sport, (Q0m (pkN l).1.proto (pkP l)).1.dport⟩
def Qgc (l : List UInt8) : PktL := ⟨0, Qor l, (Q0m (pkN l).1.proto (pkP l)).1.flags, (Q0f l).1.at', (Q0f l).1.at' + (pkN l).1.head, (Q0f l).1.at' + (pkN l).1.total⟩
theorem Qco (l : List UInt8) : FineP l ∧ Q0y l = Qgc l ∨ ∃ k, Q0y l = give k ∧ 1 ≤ k ∧ k ≤ 6 := by
  unfold Q0y
  by_cases h1 : (Q0f l).2 ≠ 0
  · rw [if_pos h1]; exact .inr ⟨1, rfl, by omega, by omega⟩
  rw [if_neg h1]
  by_cases h2 : ¬ ((Q0f l).1.type = 2048 ∨ (Q0f l).1.type = 34525)
  · rw [if_pos h2]; exact .inr ⟨2, rfl, by omega, by omega⟩
  rw [if_neg h2]
  by_cases h3 : (pkN l).2 ≠ 0
  · rw [if_pos h3]; exact .inr ⟨3, rfl, by omega, by omega⟩
  rw [if_neg h3]
  by_cases h4 : (pkN l).1.frag = true
  · rw [if_pos h4]; exact .inr ⟨4, rfl, by omega, by omega⟩
  rw [if_neg h4]
  by_cases h5 : Q4f (pkN l).1.proto = false
  · rw [if_pos h5]; exact .inr ⟨5, rfl, by omega, by omega⟩
  rw [if_neg h5]
  by_cases h6 : (Q0m (pkN l).1.proto (pkP l)).2 ≠ 0
  · rw [if_pos h6]; exact .inr ⟨6, rfl, by omega, by omega⟩
  rw [if_neg h6]
  exact .inl ⟨⟨Decidable.not_not.1 h1, Decidable.not_not.1 h2, Decidable.not_not.1 h3, by simpa using h4, by simpa using h5, Decidable.not_not.1 h6⟩, rfl⟩
theorem Qme {l : List UInt8} (h : (Q0y l).kind = 0) : FineP l ∧ Q0y l = Qgc l := by
  rcases Qco l with h1 | ⟨k, h1, h2, h3⟩
  · exact h1
  · rw [h1] at h
    have : k = 0 := h
    omega
theorem Qkb (l : List UInt8) : Qdf (Qgc l) := Q69 _ _
theorem Qa8 (l : List UInt8) : Qdf (Q0y l) := by
  rcases Qco l with ⟨_, h1⟩ | ⟨k, h1, _, _⟩
  · rw [h1]; exact Qkb l
  · rw [h1]; exact Q5p k
theorem Qib {l : List UInt8} (h : FineP l) : (Q0f l).1.at' = (pkA l : Int) ∧ 14 ≤ pkA l ∧ 20 ≤ (pkN l).1.head ∧ (pkN l).1.head + 8 ≤ (pkN l).1.total ∧ (pkA l : Int) + (pkN l).1.total ≤ (l.length : Int) := by
  obtain ⟨y0, y2, y3⟩ := Qmg h.lk
  obtain ⟨z1, z2, z3⟩ := Qdo (kind := (Q0f l).1.type) (l := l.drop (pkA l)) h.nt
  have z1' : 20 ≤ (pkN l).1.head := z1
  have z2' : (pkN l).1.head ≤ (pkN l).1.total := z2
  have z3' : (pkN l).1.total ≤ ((l.drop (pkA l)).length : Int) := z3
  rw [List.length_drop] at z3'
  have y1 : (Q0f l).1.at' = (pkA l : Int) := y0
  have y4 : pkA l ≤ l.length := y3
  have hp := (Q4s h.po).2.2.1
  have hl : (pkP l).length = (pkN l).1.total.toNat - (pkN l).1.head.toNat := by
    unfold pkP subl
    rw [List.length_drop, List.length_take]
    omega
  exact ⟨y1, y2, z1', by omega, by omega⟩
def endP (l : List UInt8) : Nat := pkA l + (pkN l).1.total.toNat
/-! ## Frames that are made -/
def Qmh (T : TupL) : Nat := if T.src.six then 40 else 20
def segN (T : TupL) (load : List UInt8) : Int := ((Q4x T + load.length : Nat) : Int)
section
variable {L : LinkL} {T : TupL} {f : Int} {load : List UInt8}
end
/-! ## Turned tuples -/
/-! ## Making, whatever is told -/
section
variable {L : LinkL} {T : TupL} {f : Int} {load : List UInt8}
end
section
variable {L : LinkL} {T : TupL} {f : Int} {load : List UInt8}
end
end Go.Proofs.Ytlmdboaghojgiaa
