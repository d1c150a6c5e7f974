/- What layer 11's laws need, in plain Lean: frames cut off, frames with bytes behind, frames that are made. -/
import Derived.Test.YtlmdboaghojgiaaT11
import Derived.Test.YtlmdboaghojgiaaE13
namespace Go.Proofs.Ytlmdboaghojgiaa
set_option linter.unusedVariables false
set_option linter.unusedSimpArgs false
open Go

/-! ## Bytes behind, bytes cut off -/
theorem Qae {l m : List UInt8} {i n : Nat} (h : i + n ≤ l.length) : ((l ++ m).drop i).take n = (l.drop i).take n := by
  rw [List.drop_append_of_le_length (by omega), List.take_append_of_le_length (by rw [List.length_drop]; omega)]
theorem Qms {l m : List UInt8} (h : (Q0n l).2 = 0) : Q0n (l ++ m) = Q0n l := by
  obtain ⟨h1, h2, h3, h4, h5, h6⟩ := Q33 h
  have hw := Q0z l 2
  have b : ∀ i, i < 20 → Q08 (l ++ m) i = Q08 l i := fun i hi => Qc8 (by omega)
  have w : ∀ i, i < 19 → Q06 (l ++ m) i = Q06 l i := fun i hi => by unfold Q06; rw [b i (by omega), b (i + 1) (by omega)]
  have hl : (l ++ m).length = l.length + m.length := List.length_append
  have e2 : Q0n (l ++ m) = (Q8u (l ++ m), 0) := by
    refine Q1w (by omega) (by rw [b 0 (by omega)]; exact h2) (by rw [b 0 (by omega), hl]; omega) (by rw [b 0 (by omega), w 2 (by omega)]; omega) (by rw [w 2 (by omega), hl]; omega) ?_
    rw [b 0 (by omega), List.take_append_of_le_length (by omega)]
    exact h6
  rw [e2, Q1w h1 h2 h3 h4 h5 h6]
  unfold Q8u adr4
  rw [b 0 (by omega), b 1 (by omega), b 8 (by omega), b 9 (by omega), w 2 (by omega), w 4 (by omega), w 6 (by omega), Qae (by omega), Qae (by omega)]
theorem Q8v {l : List UInt8} (h : (Q0m l).2 = 0) : ¬ l.length < 40 ∧ ¬ Q08 l 0 / 16 ≠ 6 ∧ ¬ 40 + Q06 l 4 > (l.length : Int) := by
  unfold Q0m at h
  by_cases h1 : l.length < 40
  · rw [if_pos h1] at h; cases h
  rw [if_neg h1] at h
  by_cases h2 : Q08 l 0 / 16 ≠ 6
  · rw [if_pos h2] at h; cases h
  rw [if_neg h2] at h
  by_cases h3 : 40 + Q06 l 4 > (l.length : Int)
  · rw [if_pos h3] at h; cases h
  exact ⟨h1, h2, h3⟩
theorem Qp8 {l m : List UInt8} (h : (Q0m l).2 = 0) : Q0m (l ++ m) = Q0m l := by
  have hw := Q0z l 4
  obtain ⟨h1, h2, h3⟩ := Q8v h
  have b : ∀ i, i < 40 → Q08 (l ++ m) i = Q08 l i := fun i hi => Qc8 (by omega)
  have w : Q06 (l ++ m) 4 = Q06 l 4 := by unfold Q06; rw [b 4 (by omega), b (4 + 1) (by omega)]
  have hl : (l ++ m).length = l.length + m.length := List.length_append
  unfold Q0m
  rw [if_neg (by omega), if_neg (by rw [b 0 (by omega)]; exact h2), if_neg (by rw [w, hl]; omega), if_neg h1, if_neg h2, if_neg h3, w, b 6 (by omega), List.take_append_of_le_length (by omega)]
  congr 1
  unfold Q2d adr6
  rw [w, b 6 (by omega), b 7 (by omega), Qae (by omega), Qae (by omega)]
theorem Qmt {k : Int} {l m : List UInt8} (h : (netT k l).2 = 0) : netT k (l ++ m) = netT k l := by
  unfold netT at h ⊢
  split
  · rename_i hk
    rw [if_pos hk] at h
    rw [Qms h]
  · rename_i hk
    rw [if_neg hk] at h
    rw [Qp8 h]
theorem Qkk {k : Int} {l : List UInt8} (h : (netT k l).2 = 0) : netT k (l.take (netT k l).1.total.toNat) = netT k l := by
  unfold netT at h ⊢
  split
  · rename_i hk
    rw [if_pos hk] at h
    simp only [Qkl h]
  · rename_i hk
    rw [if_neg hk] at h
    simp only [Qmu h]
theorem Qha {l m : List UInt8} {k : Nat} (h : (Q0b l).2 = 0) (hk : pkA l ≤ k) : Q0b (l.take k ++ m) = Q0b l := by
  obtain ⟨h1, h2⟩ := Qkm h
  have hb := Q84 h
  have e : l.take k ++ m = Q2x (Q0b l).1 ++ ((l.take k).drop (pkA l) ++ m) := by
    rw [h2, ← List.append_assoc]
    congr 1
    show _ = l.take (pkA l) ++ _
    conv => lhs; rw [← List.take_append_drop (pkA l) (l.take k)]
    rw [List.take_take, Nat.min_eq_left hk]
  rw [e, Qkn (Q85 l) h1, ← hb.2.2.2, ← h]
/-! ## Fine frames -/
structure FineP (l : List UInt8) : Prop where
  lk : (Q0b l).2 = 0
  ty : (Q0b l).1.type = 2048 ∨ (Q0b l).1.type = 34525
  nt : (pkN l).2 = 0
  fr : (pkN l).1.frag = false
  ca : Q4t (pkN l).1.proto = true
  po : (Q0g (pkN l).1.proto (pkP l)).2 = 0
def Q2p (l : List UInt8) : TupL := ⟨(pkN l).1.src, (pkN l).1.dst, (pkN l).1.proto, (Q0g (pkN l).1.proto (pkP l)).1.sport, (Q0g (pkN l).1.proto (pkP l)).1.dport⟩
def Qbr (l : List UInt8) : PktL := ⟨0, Q2p l, (Q0g (pkN l).1.proto (pkP l)).1.flags, (Q0b l).1.at', (Q0b l).1.at' + (pkN l).1.head, (Q0b l).1.at' + (pkN l).1.total⟩
theorem Qeg (l : List UInt8) : FineP l ∧ Q0d l = Qbr l ∨ ∃ k, Q0d l = give k ∧ 1 ≤ k ∧ k ≤ 6 := by
  unfold Q0d
  by_cases h1 : (Q0b l).2 ≠ 0
  · rw [if_pos h1]; exact .inr ⟨1, rfl, by omega, by omega⟩
  rw [if_neg h1]
  by_cases h2 : ¬ ((Q0b l).1.type = 2048 ∨ (Q0b l).1.type = 34525)
  · rw [if_pos h2]; exact .inr ⟨2, rfl, by omega, by omega⟩
  rw [if_neg h2]
  by_cases h3 : (pkN l).2 ≠ 0
  · rw [if_pos h3]; exact .inr ⟨3, rfl, by omega, by omega⟩
  rw [if_neg h3]
  by_cases h4 : (pkN l).1.frag = true
  · rw [if_pos h4]; exact .inr ⟨4, rfl, by omega, by omega⟩
  rw [if_neg h4]
  by_cases h5 : Q4t (pkN l).1.proto = false
  · rw [if_pos h5]; exact .inr ⟨5, rfl, by omega, by omega⟩
  rw [if_neg h5]
  by_cases h6 : (Q0g (pkN l).1.proto (pkP l)).2 ≠ 0
  · rw [if_pos h6]; exact .inr ⟨6, rfl, by omega, by omega⟩
  rw [if_neg h6]
  exact .inl ⟨⟨Decidable.not_not.1 h1, Decidable.not_not.1 h2, Decidable.not_not.1 h3, by simpa using h4, by simpa using h5, Decidable.not_not.1 h6⟩, rfl⟩
theorem Qau {l : List UInt8} (h : FineP l) : Q0d l = Qbr l := by
  unfold Q0d
  rw [if_neg (not_not_intro h.lk), if_neg (not_not_intro h.ty), if_neg (not_not_intro h.nt), if_neg (by rw [h.fr]; decide), if_neg (by rw [h.ca]; decide), if_neg (not_not_intro h.po)]
  rfl
theorem Qfk {l : List UInt8} (h : (Q0d l).kind = 0) : FineP l ∧ Q0d l = Qbr l := by
  rcases Qeg l with h1 | ⟨k, h1, h2, h3⟩
  · exact h1
  · rw [h1] at h
    have : k = 0 := h
    omega
theorem Qmv (l : List UInt8) : Qbn (Qbr l) := Q62 _ _
theorem Q32 (l : List UInt8) : Qbn (Q0d l) := by
  rcases Qeg l with ⟨_, h1⟩ | ⟨k, h1, _, _⟩
  · rw [h1]; exact Qmv l
  · rw [h1]; exact Q6p k
theorem Qfj {l : List UInt8} (h : FineP l) : (Q0b l).1.at' = (pkA l : Int) ∧ 14 ≤ pkA l ∧ 20 ≤ (pkN l).1.head ∧ (pkN l).1.head + 8 ≤ (pkN l).1.total ∧ (pkA l : Int) + (pkN l).1.total ≤ (l.length : Int) := by
  obtain ⟨y0, y2, y3⟩ := Qp9 h.lk
  obtain ⟨z1, z2, z3⟩ := Qfl (kind := (Q0b l).1.type) (l := l.drop (pkA l)) h.nt
  have z1' : 20 ≤ (pkN l).1.head := z1
  have z2' : (pkN l).1.head ≤ (pkN l).1.total := z2
  have z3' : (pkN l).1.total ≤ ((l.drop (pkA l)).length : Int) := z3
  rw [List.length_drop] at z3'
  have y1 : (Q0b l).1.at' = (pkA l : Int) := y0
  have y4 : pkA l ≤ l.length := y3
  have hp := (Q3v h.po).2.2.1
  have hl : (pkP l).length = (pkN l).1.total.toNat - (pkN l).1.head.toNat := by
    unfold pkP subl
    rw [List.length_drop, List.length_take]
    omega
  exact ⟨y1, y2, z1', by omega, by omega⟩
def endP (l : List UInt8) : Nat := pkA l + (pkN l).1.total.toNat
theorem Qko {l m : List UInt8} (h1 : Q0b m = Q0b l) (h2 : pkN m = pkN l) (h3 : pkP m = pkP l) : Q0d m = Q0d l := by
  unfold Q0d; rw [h1, h2, h3]
theorem Qkp {l : List UInt8} (h : FineP l) (m : List UInt8) : Q0d (l.take (endP l) ++ m) = Q0d l := by
  obtain ⟨b1, b2, b3, b4, b5⟩ := Qfj h
  have hA : pkA l ≤ endP l := by unfold endP; omega
  have hE : endP l ≤ l.length := by unfold endP; omega
  have h1 := Qha (m := m) h.lk hA
  have hA2 : pkA (l.take (endP l) ++ m) = pkA l := by unfold pkA; rw [h1]
  have h2 : pkN (l.take (endP l) ++ m) = pkN l := by
    have hd : (l.take (endP l) ++ m).drop (pkA l) = (l.drop (pkA l)).take (pkN l).1.total.toNat ++ m := by
      rw [List.drop_append_of_le_length (by rw [List.length_take]; omega), List.drop_take]
      congr 2
      unfold endP; omega
    unfold pkN
    rw [h1, hA2, hd]
    have e := Qkk (k := (Q0b l).1.type) (l := l.drop (pkA l)) h.nt
    rw [Qmt (by show (netT _ (List.take (netT _ _).1.total.toNat _)).2 = 0; rw [e]; exact h.nt)]
    exact e
  refine Qko h1 h2 ?_
  unfold pkP subl
  rw [hA2, h2, List.take_append_of_le_length (by rw [List.length_take]; unfold endP; unfold endP at hE; omega), List.take_take, Nat.min_eq_left (by unfold endP; omega)]
/-! ## Frames that are made -/
def Qpa (T : TupL) : Nat := if T.src.six then 40 else 20
def segN (T : TupL) (load : List UInt8) : Int := ((Q5n T + load.length : Nat) : Int)
section
variable {L : LinkL} {T : TupL} {f : Int} {load : List UInt8}
end
/-! ## Turned tuples -/
/-! ## Making, whatever is told -/
section
variable {L : LinkL} {T : TupL} {f : Int} {load : List UInt8}
end
section
variable {L : LinkL} {T : TupL} {f : Int} {load : List UInt8}
end
end Go.Proofs.Ytlmdboaghojgiaa
